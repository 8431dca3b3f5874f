-- Written by a program (xprint.py) out of the translation's own print; Lean checks it.
import Derived.Test.YtpfnohdnaocpdaaPTx0
import Derived.Test.YtpfnohdnaocpdaaPTx4
import Derived.Test.YtpfnohdnaocpdaaPTx5
import Derived.Test.YtpfnohdnaocpdaaPTx6
import Derived.Test.YtpfnohdnaocpdaaPTx7
namespace Go.Proofs.Ytpfnohdnaocpdaa.PT
open Go.RowKit Go.Proofs.YtpfnohdnaocpdaaW.PrintWords Go.Proofs.YtpfnohdnaocpdaaW.PrintLast Go.Proofs.YtpfnohdnaocpdaaW.PrintMore Go.Proofs.YtpfnohdnaocpdaaRP
attribute [local go_sem] Go.Proofs.YtpfnohdnaocpdaaRP.tmod_len   -- for this text's walks alone
set_option linter.unusedVariables false
set_option linter.unusedSimpArgs false
theorem z8_1_ {P : Prop} (h : P := by repeat (first | (with_reducible first | exact HB.out | apply below_alloc | apply pw_below_drewN | apply below_drew1 | refine below_set ?_ GE254.out | refine below_set ?_ GE255.out | refine below_set ?_ GE268.out) | exact HB.out)) : P := h
theorem z8_2_ {P : Prop} (h : P := by (with_reducible repeat (first | refine blk_drewN ?_ _ | refine blk_drew ?_ | refine blk_alloc ?_ _)); exact BK254.out) : P := h
theorem z8_3_ {P : Prop} (h : P := by (with_reducible repeat (first | refine blk_drewN ?_ _ | refine blk_drew ?_ | refine blk_alloc ?_ _)); exact BK255.out) : P := h
theorem z8_4_ {P : Prop} (h : P := by repeat (first | (with_reducible first | exact HB.out | apply below_alloc | apply pw_below_drewN | apply below_drew1 | refine below_set ?_ GE254.out | refine below_set ?_ GE255.out | refine below_set ?_ GE268.out | refine below_set ?_ GE291.out) | exact HB.out)) : P := h
theorem z8_5_ {P : Prop} (h : P := by (with_reducible repeat (first | refine blk_drewN ?_ _ | refine blk_drew ?_ | refine blk_alloc ?_ _)); exact BK268.out) : P := h
theorem z8_6_ {P : Prop} (h : P := by repeat (first | (with_reducible exact HR284.out) | (with_reducible refine Kd.C_alloc ?_ _) | (with_reducible refine Kd.C_drewN ?_ _) | (with_reducible refine Kd.C_drew ?_) | exact HR284.out)) : P := h
theorem z8_7_ {P : Prop} (h : P := by repeat (first | (with_reducible exact HR280.out) | (with_reducible refine Kd.C_alloc ?_ _) | (with_reducible refine Kd.C_drewN ?_ _) | (with_reducible refine Kd.C_drew ?_) | exact HR280.out)) : P := h
theorem z8_8_ {P : Prop} (h : P := by (with_reducible repeat (first | apply Kd.R_alloc | apply Kd.R_drewN | apply Kd.R_drew)); exact HO_7.out) : P := h
theorem z8_9_ {P : Prop} (h : P := by repeat (first | (with_reducible first | exact HB.out | apply below_alloc | apply pw_below_drewN | apply below_drew1 | refine below_set ?_ GE254.out | refine below_set ?_ GE255.out) | exact HB.out)) : P := h
theorem z8_10_ {P : Prop} (h : P := by (with_reducible repeat (first | apply Kd.R_alloc | apply Kd.R_drewN | apply Kd.R_drew)); exact HO_269000.out) : P := h
theorem z8_11_ {P : Prop} (h : P := by (try simp only [List.map_toArray, List.map_cons, List.map_nil]); first | done | rfl | (simp only [List.length_drop, List.length_take]; rfl)) : P := h
theorem z8_12_ {P : Prop} (h : P := by repeat (first | (with_reducible first | exact HB.out | apply below_alloc | apply pw_below_drewN | apply below_drew1 | refine below_set ?_ GE254.out) | exact HB.out)) : P := h
theorem z8_13_ {P : Prop} (h : P := by repeat (first | (with_reducible first | exact HB.out | apply below_alloc | apply pw_below_drewN | apply below_drew1) | exact HB.out)) : P := h
theorem z8_14_ {P : Prop} (h : P := by (with_reducible repeat (first | refine blk_drewN ?_ _ | refine blk_drew ?_ | refine blk_alloc ?_ _)); exact BK291.out) : P := h
theorem z8_15_ {P : Prop} (h : P := by (with_reducible repeat (first | apply Kd.R_alloc | apply Kd.R_drewN | apply Kd.R_drew)); exact HO290.out) : P := h
theorem z8_16_ {P : Prop} (h : P := by (with_reducible repeat (first | apply Kd.R_alloc | apply Kd.R_drewN | apply Kd.R_drew)); exact HO287.out) : P := h
theorem z8_17_ {P : Prop} (h : P := by (with_reducible repeat (first | refine blk_drewN ?_ _ | refine blk_drew ?_ | refine blk_alloc ?_ _)); refine blk_put (cs := #[.slice none 0 0, .slice none 0 0]) ?_ 1 _ rfl; (with_reducible repeat (first | refine blk_drewN ?_ _ | refine blk_drew ?_ | refine blk_alloc ?_ _)); refine blk_put (cs := #[.slice none 0 0, .slice none 0 0]) ?_ 0 _ rfl; (with_reducible repeat (first | refine blk_drewN ?_ _ | refine blk_drew ?_ | refine blk_alloc ?_ _)); exact BK255.out) : P := h
theorem z8_18_ {P : Prop} (h : P := by (with_reducible repeat (first | apply Kd.R_alloc | apply Kd.R_drewN | apply Kd.R_drew)); exact Kd.R_mono HO_7.out (fun _ hk => ⟨hk.1.2, hk.2⟩)) : P := h
theorem z8_19_ {P : Prop} (h : P := by repeat (first | exact (Kd.C_below HR0_0.out HB.out) | (with_reducible refine Kd.C_alloc ?_ _) | (with_reducible refine Kd.C_drewN ?_ _) | (with_reducible refine Kd.C_drew ?_))) : P := h
theorem z8_20_ {P : Prop} (h : P := by first | rfl | (simp; done) | (simp [*]; done) | (simp [isE_]; done)) : P := h
theorem z8_21_ {P : Prop} (h : P := by simp only [putAll, Act.put, sA_, sB_, sC_]) : P := h
/-! ### spec_ConstantOf: function 43 -/
mutual
def spec_ConstantOf.l0 : Nat → List Int → Int → List (S89) → Option (List Int × List Int × Int)
 | 0, _, _, _ => none
 | k + 1, x4, x5, x255000 => if x5 < (x4.length : Int) then (if 0 ≤ x5 then (if 0 ≤ (rd x4 x5) then (if (rd x4 x5) < (x255000.length : Int) then (if ((rd_T89 x255000 (rd x4 x5)).f0) = 1 then (some (([] : List Int), ([] : List Int), 4)) else (spec_ConstantOf.l0 k x4 (wrap64 (x5 + 1)) x255000)) else (none)) else (none)) else (none)) else ((spec_l06Tree.f k [(⟨x255000⟩ : S34)] x4).bind fun t265 => (spec_ConstantOf.l1 k (([] : List Int)) 0 t265))
def spec_ConstantOf.l1 : Nat → List Int → Int → List (S89) → Option (List Int × List Int × Int)
 | 0, _, _, _ => none
 | k + 1, x7, x8, x269000 => if x8 < (x269000.length : Int) then (if 0 ≤ x8 then (if x7.length < 140737488355328 then (spec_ConstantOf.l1 k (x7 ++ [(rd_T89 x269000 x8).f1]) (wrap64 (x8 + 1)) x269000) else (none)) else (none)) else (if 0 ≤ (wrap64 ((x269000.length : Int) - 1)) then (if (wrap64 ((x269000.length : Int) - 1)) < (x269000.length : Int) then (if 0 ≤ ((rd_T89 x269000 (wrap64 ((x269000.length : Int) - 1))).f2.f0) then (if ((rd_T89 x269000 (wrap64 ((x269000.length : Int) - 1))).f2.f0) ≤ (x7.length : Int) then ((spec_l03Normal.f k (x7.take (((rd_T89 x269000 (wrap64 ((x269000.length : Int) - 1))).f2.f0) : Int).toNat) (x7.drop (((rd_T89 x269000 (wrap64 ((x269000.length : Int) - 1))).f2.f0) : Int).toNat)).bind fun bt285 => ((spec_l03Ok.f k [(⟨bt285.1, bt285.2⟩ : S36)]).bind fun t293 => (if t293 = true then (some (bt285.1, bt285.2, 0)) else (some (([] : List Int), ([] : List Int), 3))))) else (none)) else (none)) else (none)) else (none))
end
def spec_ConstantOf.f (k : Nat) (l0_0 : List (S89)) : Option (List Int × List Int × Int) := (spec_l06Ok.f k [(⟨l0_0⟩ : S34)]).bind fun t257 => (if t257 = true then ((spec_l06Reached.f k [(⟨l0_0⟩ : S34)]).bind fun t259 => (spec_ConstantOf.l0 k t259 0 l0_0)) else (some (([] : List Int), ([] : List Int), 1)))
theorem spec_ConstantOf.mono_l : ∀ k, (∀ y0 y1 y2, LeO (spec_ConstantOf.l0 k y0 y1 y2) (spec_ConstantOf.l0 (k + 1) y0 y1 y2)) ∧ (∀ y0 y1 y2, LeO (spec_ConstantOf.l1 k y0 y1 y2) (spec_ConstantOf.l1 (k + 1) y0 y1 y2))
 | 0 => ⟨fun _ _ _ r h => by simp [spec_ConstantOf.l0] at h, fun _ _ _ r h => by simp [spec_ConstantOf.l1] at h⟩
 | k + 1 => by
  obtain ⟨ih0, ih1⟩ := spec_ConstantOf.mono_l k
  refine ⟨?_, ?_⟩
  ·
   intro y0 y1 y2
   unfold spec_ConstantOf.l0
   repeat' first
   | (with_reducible exact ih0 _ _ _)
   | (with_reducible exact ih1 _ _ _)
   | (with_reducible exact spec_l03Normal.mono _ _ _)
   | (with_reducible exact spec_l03Ok.mono _ _)
   | (with_reducible exact spec_l06Ok.mono _ _)
   | (with_reducible exact spec_l06Reached.mono _ _)
   | (with_reducible exact spec_l06Tree.mono _ _ _)
   | (with_reducible exact LeO.refl _)
   | (with_reducible exact LeO.none _)
   | (with_reducible refine LeO.ite ?_ ?_)
   | (with_reducible refine LeO.bind ?_ (fun _ => ?_))
   | refine LeO.bind ?_ (fun _ => ?_)
  ·
   intro y0 y1 y2
   unfold spec_ConstantOf.l1
   repeat' first
   | (with_reducible exact ih0 _ _ _)
   | (with_reducible exact ih1 _ _ _)
   | (with_reducible exact spec_l03Normal.mono _ _ _)
   | (with_reducible exact spec_l03Ok.mono _ _)
   | (with_reducible exact spec_l06Ok.mono _ _)
   | (with_reducible exact spec_l06Reached.mono _ _)
   | (with_reducible exact spec_l06Tree.mono _ _ _)
   | (with_reducible exact LeO.refl _)
   | (with_reducible exact LeO.none _)
   | (with_reducible refine LeO.ite ?_ ?_)
   | (with_reducible refine LeO.bind ?_ (fun _ => ?_))
   | refine LeO.bind ?_ (fun _ => ?_)
theorem spec_ConstantOf.mono : ∀ a0 k, LeO (spec_ConstantOf.f k a0) (spec_ConstantOf.f (k + 1) a0) := by
 intro a0 k
 obtain ⟨ih0, ih1⟩ := spec_ConstantOf.mono_l k
 unfold spec_ConstantOf.f
 repeat' first
   | (with_reducible exact ih0 _ _ _)
   | (with_reducible exact ih1 _ _ _)
   | (with_reducible exact spec_l03Normal.mono _ _ _)
   | (with_reducible exact spec_l03Ok.mono _ _)
   | (with_reducible exact spec_l06Ok.mono _ _)
   | (with_reducible exact spec_l06Reached.mono _ _)
   | (with_reducible exact spec_l06Tree.mono _ _ _)
   | (with_reducible exact LeO.refl _)
   | (with_reducible exact LeO.none _)
   | (with_reducible refine LeO.ite ?_ ?_)
   | (with_reducible refine LeO.bind ?_ (fun _ => ?_))
   | refine LeO.bind ?_ (fun _ => ?_)
def spec_ConstantOf.T7 : Bool × List (List Nat × List Nat) := (true, [([], []), ([0], [0]), ([], []), ([], []), ([2, 3], [2, 3]), ([4], [4]), ([1, 5], [1, 5]), ([6], [6]), ([7], [7]), ([8], [8])])
def spec_ConstantOf.B7 : List Nat := [0, 1, 0, 0, 12, 28, 63, 127, 255, 511]
theorem spec_ConstantOf.tab7 : rtab .any (opsOf Try.f43 7) = spec_ConstantOf.T7 := by kernel_rfl
theorem spec_ConstantOf.bits7 : waitsOk spec_ConstantOf.T7.2 spec_ConstantOf.B7 = true := by kernel_rfl
def spec_ConstantOf.T16 : Bool × List (List Nat × List Nat) := (true, [([], []), ([], []), ([0, 1], [0, 1]), ([], []), ([], []), ([3, 4], [3, 4]), ([2, 5], [2, 5]), ([], []), ([7, 6, 6, 0, 1, 2, 3, 4, 5, 6, 7], [6, 7])])
def spec_ConstantOf.B16 : List Nat := [0, 0, 3, 0, 0, 24, 63, 0, 255]
theorem spec_ConstantOf.tab16 : rtab .any (opsOf Try.f43 16) = spec_ConstantOf.T16 := by kernel_rfl
theorem spec_ConstantOf.bits16 : waitsOk spec_ConstantOf.T16.2 spec_ConstantOf.B16 = true := by kernel_rfl
set_option maxHeartbeats 8000000 in
set_option maxRecDepth 100000 in
theorem spec_ConstantOf.calls (k : Nat) (A0_0 : Option Addr) (c0_0 : Nat) (l0_0 : List (S89)) (r1 : List Int) (r2 : List Int) (r3 : Int) (w : World) (hr0_0 : Kd.C k89 w A0_0 l0_0.length l0_0) (hc0_0 : l0_0.length ≤ c0_0) (h : spec_ConstantOf.f k l0_0 = some (r1, r2, r3)) :
  Calls Try.prog 43 #[.agg #[.slice A0_0 l0_0.length c0_0]] w fun e w' => ∃ v0_ v1_ : Value, e = .returned (.tuple #[.agg #[v0_, v1_], .int .i64 r3]) ∧ Kd.R (Kd.int .i8) 86 w' w.heap.size (fun k_ => some k_ ≠ (v1_ : Value).ownBlock) v0_ r1 ∧ Kd.R (Kd.int .i8) 86 w' w.heap.size (fun k_ => some k_ ≠ (v0_ : Value).ownBlock) v1_ r2 ∧ Below w.heap.size w w' := by
 have hu34 := Try.underlying34
 have hu36 := Try.underlying36
 have HR0_0 := Aside0.mk hr0_0
 have HC0_0 := Aside0.mk hc0_0
 clear hr0_0 hc0_0
 have HB := Aside0.mk (Below.refl w.heap.size w)
 have H : ((spec_l06Ok.f k [(⟨l0_0⟩ : S34)]).bind fun t257 => (if t257 = true then ((spec_l06Reached.f k [(⟨l0_0⟩ : S34)]).bind fun t259 => (spec_ConstantOf.l0 k t259 0 l0_0)) else (some (([] : List Int), ([] : List Int), 1)))) = some (r1, r2, r3) := h
 clear h
 replace H := Option.bind_eq_some_iff.mp H
 obtain ⟨t257, A20, H⟩ := H
 replace H : (if t257 = true then ((spec_l06Reached.f k [(⟨l0_0⟩ : S34)]).bind fun t259 => (spec_ConstantOf.l0 k t259 0 l0_0)) else (some (([] : List Int), ([] : List Int), 1))) = some (r1, r2, r3) := H
 have A2 := Aside0.mk A20
 clear A20
 by_cases c3 : t257 = true
 ·
  subst c3
  have H1 : ((spec_l06Reached.f k [(⟨l0_0⟩ : S34)]).bind fun t259 => (spec_ConstantOf.l0 k t259 0 l0_0)) = some (r1, r2, r3) := by first | (rw [if_pos rfl] at H; exact H) | rfl
  clear H
  have H := H1
  clear H1
  replace H := Option.bind_eq_some_iff.mp H
  obtain ⟨t259, A40, H⟩ := H
  replace H : (spec_ConstantOf.l0 k t259 0 l0_0) = some (r1, r2, r3) := H
  have A4 := Aside0.mk A40
  clear A40
  have H' := Aside0.mk H
  clear H
  go_enter Try.func43, Try.ntmps43
  go_wp2_with (first | ((with_reducible refine gate_dst (N := 1) rfl ?_); refine box_event ?hg (N := 1) ?hd (cs := #[.slice A0_0 l0_0.length c0_0]) (t := 34) ?hr ?_; (case hd => rfl); (case hg => rfl); (case hr => first | (go_simp; done) | (go_simp; rfl)); intro gb254 hg w5 hbox hb; have n0_ := Aside0.mk (below_step z8_13_ hb); have n1_ := Aside0.mk (hbox); have n2_ := Aside0.mk ((by rw [hg]; exact (below_size z8_13_) : w.heap.size ≤ gb254)); have n3_ := Aside0.mk ((by rw [hg]; exact (below_size z8_13_) : w.heap.size ≤ gb254)); clear HB; have HB := n0_; have BK254 := n1_; have GW254 := n2_; have GE254 := n3_; clear n0_ n1_ n2_ n3_; clear hb hbox hg) | ((with_reducible refine gate_dst (N := 2) rfl ?_); refine box_event ?hg (N := 2) ?hd (cs := #[.slice none 0 0, .slice none 0 0]) (t := 36) ?hr ?_; (case hd => rfl); (case hg => rfl); (case hr => first | (go_simp; done) | (go_simp; rfl)); intro gb255 hg w6 hbox hb; have n0_ := Aside0.mk (blk_below (g := gb254) (o := .cells #[.slice A0_0 l0_0.length c0_0] 34 (0, 0)) z8_2_ hb); have n1_ := Aside0.mk (below_step z8_12_ hb); have n2_ := Aside0.mk (hbox); have n3_ := Aside0.mk ((by rw [hg]; exact (below_size z8_12_) : w.heap.size ≤ gb255)); have n4_ := Aside0.mk ((by rw [hg]; exact (below_size z8_12_) : w.heap.size ≤ gb255)); have n5_ := Aside0.mk ((by rw [hg]; exact Nat.ne_of_lt (blk_lt (g := gb254) (o := .cells #[.slice A0_0 l0_0.length c0_0] 34 (0, 0)) z8_2_) : gb254 ≠ gb255)); have n6_ := Aside0.mk ((by rw [hg]; exact Nat.ne_of_gt (blk_lt (g := gb254) (o := .cells #[.slice A0_0 l0_0.length c0_0] 34 (0, 0)) z8_2_) : gb255 ≠ gb254)); clear BK254; clear HB; have BK254 := n0_; have HB := n1_; have BK255 := n2_; have GW255 := n3_; have GE255 := n4_; have NB254_255 := n5_; have NB255_254 := n6_; clear n0_ n1_ n2_ n3_ n4_ n5_ n6_; clear hb hbox hg) | ((with_reducible refine gate_callee (f := 66) rfl ?_); refine goesL_ (some 11) rfl rfl Try.func66 (by kernel_rfl) rfl #[.pointer (some ⟨gb254, 0, none⟩)] rfl z8_11_ ?_; (with_reducible refine (spec_l06Ok.calls k _ ([(⟨l0_0⟩ : S34)]).length [(⟨l0_0⟩ : S34)] true _ ?side1 ?side2 A2.out).mono ?_); (case side1 => refine Kd.C_block k34 (g := gb254) (cs := #[.slice A0_0 l0_0.length c0_0]) (T := 34) z8_2_ (show Kd.K k34 _ (⟨l0_0⟩ : S34) [.slice A0_0 l0_0.length c0_0] from k34_mk _ _ (by exact HC0_0.out) z8_19_) (by decide)); (case side2 => exact Nat.le_refl _); rintro e w' ⟨rfl, ⟨nd, rfl⟩⟩; refine ⟨_, rfl, ?_⟩) | ((with_reducible refine gate_callee (f := 95) rfl ?_); refine goesL_ (some 14) rfl rfl Try.func95 (by kernel_rfl) rfl #[.pointer (some ⟨gb254, 0, none⟩)] rfl z8_11_ ?_; (with_reducible refine (spec_l06Reached.calls k _ ([(⟨l0_0⟩ : S34)]).length [(⟨l0_0⟩ : S34)] t259 _ ?side1 ?side2 A4.out).mono ?_); (case side1 => refine Kd.C_block k34 (g := gb254) (cs := #[.slice A0_0 l0_0.length c0_0]) (T := 34) z8_2_ (show Kd.K k34 _ (⟨l0_0⟩ : S34) [.slice A0_0 l0_0.length c0_0] from k34_mk _ _ (by exact HC0_0.out) (by repeat (first | exact (Kd.C_below HR0_0.out z8_9_) | (with_reducible refine Kd.C_alloc ?_ _) | (with_reducible refine Kd.C_drewN ?_ _) | (with_reducible refine Kd.C_drew ?_)))) (by decide)); (case side2 => exact Nat.le_refl _); rintro e w7 ⟨v260, rfl, ho0, hb⟩; refine ⟨_, rfl, ?_⟩; have n0_ := Aside0.mk (Kd.R_lower ho0 (below_size z8_9_)); have n1_ := Aside0.mk (blk_below (g := gb254) (o := .cells #[.slice A0_0 l0_0.length c0_0] 34 (0, 0)) z8_2_ hb); have n2_ := Aside0.mk (blk_below (g := gb255) (o := .cells #[.slice none 0 0, .slice none 0 0] 36 (0, 0)) z8_3_ hb); have n3_ := Aside0.mk (below_step z8_9_ hb); clear BK254; clear BK255; clear HB; have HO261 := n0_; have BK254 := n1_; have BK255 := n2_; have HB := n3_; clear n0_ n1_ n2_ n3_; (try clear hb); (try clear hb2); (try clear hk); (try clear hi); (try clear ho0)))
  go_loopg [5] k (fun kq v5 w' => ∃ (x5_1 : Int), v5 = .int .i64 x5_1 ∧ Aside0 (spec_ConstantOf.l0 kq t259 x5_1 l0_0 = some (r1, r2, r3)) ∧ Aside0 (kq ≤ k) ∧ Aside0 (Kd.R (Kd.int .i16) 85 w' w.heap.size (fun _ => True) v260 t259) ∧ Aside0 (w'.heap[gb254]? = some (.cells #[(.slice A0_0 l0_0.length c0_0)] 34 (0, 0))) ∧ Aside0 (w'.heap[gb255]? = some (.cells #[(.slice none 0 0), (.slice none 0 0)] 36 (0, 0))) ∧ Aside0 (Below w.heap.size w w'))
  case atStart => exact ⟨(0), z8_20_, H', ⟨Nat.le_refl _⟩, ⟨by (with_reducible repeat (first | apply Kd.R_alloc | apply Kd.R_drewN | apply Kd.R_drew)); exact HO261.out⟩, ⟨by (with_reducible repeat (first | refine blk_drewN ?_ _ | refine blk_drew ?_ | refine blk_alloc ?_ _)); exact BK254.out⟩, ⟨by (with_reducible repeat (first | refine blk_drewN ?_ _ | refine blk_drew ?_ | refine blk_alloc ?_ _)); exact BK255.out⟩, ⟨by repeat (first | (with_reducible first | exact HB.out | apply below_alloc | apply pw_below_drewN | apply below_drew1 | refine below_set ?_ GE254.out | refine below_set ?_ GE255.out) | exact HB.out)⟩⟩
  case round =>
   clear H'
   try clear p2
   try clear c3
   try clear c4
   try clear c6
   obtain ⟨x5_1, rfl, HA, HK1, HO_4, BK254, BK255, HB⟩ := hrel
   cases gk with
   | zero => exact absurd HA.out (by simp [spec_ConstantOf.l0])
   | succ k1 =>
    have H := HA.out
    clear HA
    simp only [spec_ConstantOf.l0] at H
    by_cases c8 : x5_1 < (t259.length : Int)
    ·
     rw [if_pos c8] at H
     have c8b0 : decide (x5_1 < (t259.length : Int)) = true := decide_eq_true c8
     clear c8
     by_cases c9 : 0 ≤ x5_1
     ·
      rw [if_pos c9] at H
      have c9b0 : decide (0 ≤ x5_1) = true := decide_eq_true c9
      clear c9
      by_cases c10 : 0 ≤ (rd t259 x5_1)
      ·
       rw [if_pos c10] at H
       have c10b0 : decide (0 ≤ (rd t259 x5_1)) = true := decide_eq_true c10
       clear c10
       by_cases c11 : (rd t259 x5_1) < (l0_0.length : Int)
       ·
        rw [if_pos c11] at H
        have c11b0 : decide ((rd t259 x5_1) < (l0_0.length : Int)) = true := decide_eq_true c11
        clear c11
        by_cases c12 : ((rd_T89 l0_0 (rd t259 x5_1)).f0) = 1
        ·
         rw [if_pos c12] at H
         have c12b0 : (((rd_T89 l0_0 (rd t259 x5_1)).f0) == 1) = true := beq_iff_eq.mpr c12
         have c12b1 : (((rd_T89 l0_0 (rd t259 x5_1)).f0) != 1) = false := bne_eq_false_iff_eq.mpr c12
         clear c12
         simp only [Option.some.injEq, Prod.mk.injEq] at H
         obtain ⟨rfl, rfl, rfl⟩ := H
         obtain ⟨Ao13, co13, eo13⟩ := Kd.R_slice HO_4.out
         subst eo13
         try go_wp2
         have n0_ := Aside0.mk (Kd.R_drew HO_4.out)
         have n1_ := Aside0.mk (blk_drew BK254.out)
         have n2_ := Aside0.mk (blk_drew BK255.out)
         have n3_ := Aside0.mk (below_drew1 HB.out)
         clear HO_4
         clear BK254
         clear BK255
         clear HB
         have HO_4 := n0_
         have BK254 := n1_
         have BK255 := n2_
         have HB := n3_
         clear n0_ n1_ n2_ n3_
         have p262 : 0 ≤ (x5_1 : Int) := of_decide_eq_true (by assumption)
         have q262 : x5_1 < (t259.length : Int) := of_decide_eq_true (by assumption)
         obtain ⟨ad262, e262, hx262_0⟩ := Kd.at_int (Kd.R_reads' HO_4.out).2.2 x5_1 p262 q262
         cases e262
         replace p262 := eq_true p262
         replace q262 := eq_true q262
         have p263 : 0 ≤ ((rd t259 x5_1) : Int) := of_decide_eq_true (by assumption)
         have q263 : (rd t259 x5_1) < (l0_0.length : Int) := of_decide_eq_true (by assumption)
         obtain ⟨ad263, e263, hx263_0, hx263_1, hx263_2, hx263_3, hx263_4⟩ := at_T89 HR0_0.out (rd t259 x5_1) p263 q263
         have hw263_4 := hx263_4
         have hw263_3 := hx263_3
         have hw263_2 := hx263_2
         have hw263_1 := hx263_1
         have hw263_0 := hx263_0
         cases e263
         replace hx263_0 := (HB.out.cell (World.block_lt_of_cell? w _ hx263_0)).trans hx263_0
         replace hx263_1 := (HB.out.cell (World.block_lt_of_cell? w _ hx263_1)).trans hx263_1
         replace hx263_2 := (HB.out.cell (World.block_lt_of_cell? w _ hx263_2)).trans hx263_2
         replace hx263_3 := (HB.out.cell (World.block_lt_of_cell? w _ hx263_3)).trans hx263_3
         replace hx263_4 := (HB.out.cell (World.block_lt_of_cell? w _ hx263_4)).trans hx263_4
         replace p263 := eq_true p263
         replace q263 := eq_true q263
         refine start_ (n := 10) (S := fun w' => w'.cell? ⟨gb254, 0, none⟩ = some (.slice (some ad263) l0_0.length c0_0) ∧ w'.cell? (ad262.add (x5_1).toNat) = some (.int .i16 (rd t259 x5_1)) ∧ w'.cell? (ad263.add (((rd t259 x5_1)).toNat * 5)) = some (.int .i8 ((rd_T89 l0_0 (rd t259 x5_1)).f0)) ∧ w'.cell? ⟨(ad263.add (((rd t259 x5_1)).toNat * 5)).block, (ad263.add (((rd t259 x5_1)).toNat * 5)).off + 1, none⟩ = some (.int .i8 ((rd_T89 l0_0 (rd t259 x5_1)).f1)) ∧ w'.cell? ⟨(ad263.add (((rd t259 x5_1)).toNat * 5)).block, (ad263.add (((rd t259 x5_1)).toNat * 5)).off + 2, none⟩ = some (.int .i16 ((rd_T89 l0_0 (rd t259 x5_1)).f2.f0)) ∧ w'.cell? ⟨(ad263.add (((rd t259 x5_1)).toNat * 5)).block, (ad263.add (((rd t259 x5_1)).toNat * 5)).off + 3, none⟩ = some (.int .i16 ((rd_T89 l0_0 (rd t259 x5_1)).f2.f1)) ∧ w'.cell? ⟨(ad263.add (((rd t259 x5_1)).toNat * 5)).block, (ad263.add (((rd t259 x5_1)).toNat * 5)).off + 4, none⟩ = some (.int .i16 ((rd_T89 l0_0 (rd t259 x5_1)).f2.f2))) (ds := []) #[false, false, false, false, false, false, false, false, false, false] (by kernel_rfl) rfl rfl ⟨(blk_cell BK254.out 0).trans rfl, hx262_0, ((HB.out.cell (World.block_lt_of_cell? w _ hw263_0)).trans hw263_0), ((HB.out.cell (World.block_lt_of_cell? w _ hw263_1)).trans hw263_1), ((HB.out.cell (World.block_lt_of_cell? w _ hw263_2)).trans hw263_2), ((HB.out.cell (World.block_lt_of_cell? w _ hw263_3)).trans hw263_3), ((HB.out.cell (World.block_lt_of_cell? w _ hw263_4)).trans hw263_4)⟩ (fun hHeld => ?_); refine with_tabW spec_ConstantOf.tab7 spec_ConstantOf.bits7 (fun HT_ HW_ => ?_)
         generalize wr.drew = w14 at HO_4 BK254 BK255 HB hx262_0 hx263_0 hx263_1 hx263_2 hx263_3 hx263_4 hHeld ⊢
         refine pure_ (i := 0) (N := some 21) (v := ?_) (a' := ?_) #[true, false, false, false, false, false, false, false, false, false] rfl rfl (any_of HT_.out (by kernel_rfl)) (fun _ _ _ h => h) (Or.inl ⟨by rfl, ?_⟩) ?_ ?_
         rotate_left
         ·
          intro w'
          go_simp
          with_reducible rfl
         rotate_left
         ·
          simp only [Act.put, sA_, sB_, sC_, i64_w, i32_w]
          rfl
         refine pure_ (i := 2) (N := some 23) (v := ?_) (a' := ?_) #[true, false, true, false, false, false, false, false, false, false] rfl rfl (any_of HT_.out (by kernel_rfl)) (fun _ _ _ h => h) (Or.inl ⟨by rfl, ?_⟩) ?_ ?_
         rotate_left
         ·
          intro w'
          go_simp
          with_reducible rfl
         rotate_left
         ·
          simp only [Act.put, sA_, sB_, sC_, i64_w, i32_w]
          rfl
         refine pure_ (i := 3) (N := some 24) (v := ?_) (a' := ?_) #[true, false, true, true, false, false, false, false, false, false] rfl rfl (any_of HT_.out (by kernel_rfl)) (fun _ _ _ h => h) (Or.inl ⟨by rfl, ?_⟩) ?_ ?_
         rotate_left
         ·
          intro w'
          go_simp
          with_reducible rfl
         rotate_left
         ·
          simp only [Act.put, sA_, sB_, sC_, i64_w, i32_w]
          rfl
         refine pure_ (i := 4) (N := some 25) (v := ?_) (a' := ?_) #[true, false, true, true, true, false, false, false, false, false] rfl rfl (any_of HT_.out (by kernel_rfl)) (fun _ _ _ h => h) (Or.inl ⟨by rfl, ?_⟩) ?_ ?_
         rotate_left
         ·
          intro w'
          go_simp
          with_reducible rfl
         rotate_left
         ·
          simp only [Act.put, sA_, sB_, sC_, i64_w, i32_w]
          rfl
         refine take_ (i := 1) (N := some 22) (v := ?_) (a' := ?_) #[true, true, true, true, true, false, false, false, false, false] rfl rfl (take_ofW HT_.out HW_.out (by kernel_rfl)) (fun _ _ _ h => h) (Or.inl ⟨by rfl, ?_⟩) hHeld ?_ ?_
         rotate_left
         ·
          rintro w' ⟨s0, s1, s2, s3, s4, s5, s6⟩
          go_simp
          with_reducible rfl
         rotate_left
         ·
          simp only [Act.put, sA_, sB_, sC_, i64_w, i32_w]
          rfl
         refine take_ (i := 5) (N := some 26) (v := ?_) (a' := ?_) #[true, true, true, true, true, true, false, false, false, false] rfl rfl (take_ofW HT_.out HW_.out (by kernel_rfl)) (fun _ _ _ h => h) (Or.inl ⟨by rfl, ?_⟩) hHeld ?_ ?_
         rotate_left
         ·
          rintro w' ⟨s0, s1, s2, s3, s4, s5, s6⟩
          go_simp
          with_reducible rfl
         rotate_left
         ·
          simp only [Act.put, sA_, sB_, sC_, i64_w, i32_w]
          rfl
         refine pure_ (i := 6) (N := some 27) (v := ?_) (a' := ?_) #[true, true, true, true, true, true, true, false, false, false] rfl rfl (any_of HT_.out (by kernel_rfl)) (fun _ _ _ h => h) (Or.inl ⟨by rfl, ?_⟩) ?_ ?_
         rotate_left
         ·
          intro w'
          go_simp
          with_reducible rfl
         rotate_left
         ·
          simp only [Act.put, sA_, sB_, sC_, i64_w, i32_w]
          rfl
         refine pure_ (i := 7) (N := some 28) (v := ?_) (a' := ?_) #[true, true, true, true, true, true, true, true, false, false] rfl rfl (any_of HT_.out (by kernel_rfl)) (fun _ _ _ h => h) (Or.inl ⟨by rfl, ?_⟩) ?_ ?_
         rotate_left
         ·
          intro w'
          go_simp
          with_reducible rfl
         rotate_left
         ·
          simp only [Act.put, sA_, sB_, sC_, i64_w, i32_w]
          rfl
         refine take_ (i := 8) (N := some 29) (v := ?_) (a' := ?_) #[true, true, true, true, true, true, true, true, true, false] rfl rfl (take_ofW HT_.out HW_.out (by kernel_rfl)) (fun _ _ _ h => h) (Or.inl ⟨by rfl, ?_⟩) hHeld ?_ ?_
         rotate_left
         ·
          rintro w' ⟨s0, s1, s2, s3, s4, s5, s6⟩
          go_simp
          with_reducible rfl
         rotate_left
         ·
          simp only [Act.put, sA_, sB_, sC_, i64_w, i32_w]
          rfl
         refine pure_ (i := 9) (N := some 30) (v := ?_) (a' := ?_) #[true, true, true, true, true, true, true, true, true, true] rfl rfl (any_of HT_.out (by kernel_rfl)) (fun _ _ _ h => h) (Or.inl ⟨by rfl, ?_⟩) ?_ ?_
         rotate_left
         ·
          intro w'
          go_simp
          with_reducible rfl
         rotate_left
         ·
          simp only [Act.put, sA_, sB_, sC_, i64_w, i32_w]
          rfl
         refine done_ (done_of HT_.out (by kernel_rfl)) ?_
         have hnb15 := NB255_254.out
         have hnc15 := NB254_255.out
         have hcz16_0 : w14.cell? ⟨gb255, 0, none⟩ = some (.slice none 0 0) := (blk_cell BK255.out 0).trans rfl
         have hcz16_1 : w14.cell? ⟨gb255, 1, none⟩ = some (.slice none 0 0) := (blk_cell BK255.out 1).trans rfl
         have hfz16_0 := blk_frozen BK255.out 0
         have hfz16_1 := blk_frozen BK255.out 1
         try go_wp2
         refine bodyPost_ret (results_ct rfl _ _ gb255 36 #[.slice none 0 0, .slice none 0 0] (0, 0) _ rfl z8_17_ Try.underlying36 rfl (by kernel_rfl)) rfl ?_
         exact ⟨_, _, by first | rfl | (simp [errW_none, errW_some] <;> rfl) | (simp [*, errW_none, errW_some] <;> rfl), by first | exact Kd.R_nil _ _ _ _ _ | exact Kd.N_nil _ _ _ _ _ | exact Kd.V_nil _ _ _ _ _ | exact Kd.Q_nil _ _ _ _ _ | exact Kd.S_nil _ _ _ _ _, by first | exact Kd.R_nil _ _ _ _ _ | exact Kd.N_nil _ _ _ _ _ | exact Kd.V_nil _ _ _ _ _ | exact Kd.Q_nil _ _ _ _ _ | exact Kd.S_nil _ _ _ _ _, by repeat (first | (with_reducible first | exact HB.out | apply below_alloc | apply pw_below_drewN | apply below_drew1 | refine below_set ?_ GE254.out | refine below_set ?_ GE255.out) | exact HB.out)⟩
        ·
         rw [if_neg c12] at H
         have c12b0 : (((rd_T89 l0_0 (rd t259 x5_1)).f0) == 1) = false := beq_eq_false_iff_ne.mpr c12
         have c12b1 : (((rd_T89 l0_0 (rd t259 x5_1)).f0) != 1) = true := bne_iff_ne.mpr c12
         have H' := Aside0.mk H
         clear H
         obtain ⟨Ao17, co17, eo17⟩ := Kd.R_slice HO_4.out
         subst eo17
         try go_wp2
         have n0_ := Aside0.mk (Kd.R_drew HO_4.out)
         have n1_ := Aside0.mk (blk_drew BK254.out)
         have n2_ := Aside0.mk (blk_drew BK255.out)
         have n3_ := Aside0.mk (below_drew1 HB.out)
         clear HO_4
         clear BK254
         clear BK255
         clear HB
         have HO_4 := n0_
         have BK254 := n1_
         have BK255 := n2_
         have HB := n3_
         clear n0_ n1_ n2_ n3_
         have p262 : 0 ≤ (x5_1 : Int) := of_decide_eq_true (by assumption)
         have q262 : x5_1 < (t259.length : Int) := of_decide_eq_true (by assumption)
         obtain ⟨ad262, e262, hx262_0⟩ := Kd.at_int (Kd.R_reads' HO_4.out).2.2 x5_1 p262 q262
         cases e262
         replace p262 := eq_true p262
         replace q262 := eq_true q262
         have p263 : 0 ≤ ((rd t259 x5_1) : Int) := of_decide_eq_true (by assumption)
         have q263 : (rd t259 x5_1) < (l0_0.length : Int) := of_decide_eq_true (by assumption)
         obtain ⟨ad263, e263, hx263_0, hx263_1, hx263_2, hx263_3, hx263_4⟩ := at_T89 HR0_0.out (rd t259 x5_1) p263 q263
         have hw263_4 := hx263_4
         have hw263_3 := hx263_3
         have hw263_2 := hx263_2
         have hw263_1 := hx263_1
         have hw263_0 := hx263_0
         cases e263
         replace hx263_0 := (HB.out.cell (World.block_lt_of_cell? w _ hx263_0)).trans hx263_0
         replace hx263_1 := (HB.out.cell (World.block_lt_of_cell? w _ hx263_1)).trans hx263_1
         replace hx263_2 := (HB.out.cell (World.block_lt_of_cell? w _ hx263_2)).trans hx263_2
         replace hx263_3 := (HB.out.cell (World.block_lt_of_cell? w _ hx263_3)).trans hx263_3
         replace hx263_4 := (HB.out.cell (World.block_lt_of_cell? w _ hx263_4)).trans hx263_4
         replace p263 := eq_true p263
         replace q263 := eq_true q263
         refine start_ (n := 10) (S := fun w' => w'.cell? ⟨gb254, 0, none⟩ = some (.slice (some ad263) l0_0.length c0_0) ∧ w'.cell? (ad262.add (x5_1).toNat) = some (.int .i16 (rd t259 x5_1)) ∧ w'.cell? (ad263.add (((rd t259 x5_1)).toNat * 5)) = some (.int .i8 ((rd_T89 l0_0 (rd t259 x5_1)).f0)) ∧ w'.cell? ⟨(ad263.add (((rd t259 x5_1)).toNat * 5)).block, (ad263.add (((rd t259 x5_1)).toNat * 5)).off + 1, none⟩ = some (.int .i8 ((rd_T89 l0_0 (rd t259 x5_1)).f1)) ∧ w'.cell? ⟨(ad263.add (((rd t259 x5_1)).toNat * 5)).block, (ad263.add (((rd t259 x5_1)).toNat * 5)).off + 2, none⟩ = some (.int .i16 ((rd_T89 l0_0 (rd t259 x5_1)).f2.f0)) ∧ w'.cell? ⟨(ad263.add (((rd t259 x5_1)).toNat * 5)).block, (ad263.add (((rd t259 x5_1)).toNat * 5)).off + 3, none⟩ = some (.int .i16 ((rd_T89 l0_0 (rd t259 x5_1)).f2.f1)) ∧ w'.cell? ⟨(ad263.add (((rd t259 x5_1)).toNat * 5)).block, (ad263.add (((rd t259 x5_1)).toNat * 5)).off + 4, none⟩ = some (.int .i16 ((rd_T89 l0_0 (rd t259 x5_1)).f2.f2))) (ds := []) #[false, false, false, false, false, false, false, false, false, false] (by kernel_rfl) rfl rfl ⟨(blk_cell BK254.out 0).trans rfl, hx262_0, ((HB.out.cell (World.block_lt_of_cell? w _ hw263_0)).trans hw263_0), ((HB.out.cell (World.block_lt_of_cell? w _ hw263_1)).trans hw263_1), ((HB.out.cell (World.block_lt_of_cell? w _ hw263_2)).trans hw263_2), ((HB.out.cell (World.block_lt_of_cell? w _ hw263_3)).trans hw263_3), ((HB.out.cell (World.block_lt_of_cell? w _ hw263_4)).trans hw263_4)⟩ (fun hHeld => ?_); refine with_tabW spec_ConstantOf.tab7 spec_ConstantOf.bits7 (fun HT_ HW_ => ?_)
         generalize wr.drew = w18 at HO_4 BK254 BK255 HB hx262_0 hx263_0 hx263_1 hx263_2 hx263_3 hx263_4 hHeld ⊢
         refine pure_ (i := 0) (N := some 21) (v := ?_) (a' := ?_) #[true, false, false, false, false, false, false, false, false, false] rfl rfl (any_of HT_.out (by kernel_rfl)) (fun _ _ _ h => h) (Or.inl ⟨by rfl, ?_⟩) ?_ ?_
         rotate_left
         ·
          intro w'
          go_simp
          with_reducible rfl
         rotate_left
         ·
          simp only [Act.put, sA_, sB_, sC_, i64_w, i32_w]
          rfl
         refine pure_ (i := 2) (N := some 23) (v := ?_) (a' := ?_) #[true, false, true, false, false, false, false, false, false, false] rfl rfl (any_of HT_.out (by kernel_rfl)) (fun _ _ _ h => h) (Or.inl ⟨by rfl, ?_⟩) ?_ ?_
         rotate_left
         ·
          intro w'
          go_simp
          with_reducible rfl
         rotate_left
         ·
          simp only [Act.put, sA_, sB_, sC_, i64_w, i32_w]
          rfl
         refine pure_ (i := 3) (N := some 24) (v := ?_) (a' := ?_) #[true, false, true, true, false, false, false, false, false, false] rfl rfl (any_of HT_.out (by kernel_rfl)) (fun _ _ _ h => h) (Or.inl ⟨by rfl, ?_⟩) ?_ ?_
         rotate_left
         ·
          intro w'
          go_simp
          with_reducible rfl
         rotate_left
         ·
          simp only [Act.put, sA_, sB_, sC_, i64_w, i32_w]
          rfl
         refine pure_ (i := 4) (N := some 25) (v := ?_) (a' := ?_) #[true, false, true, true, true, false, false, false, false, false] rfl rfl (any_of HT_.out (by kernel_rfl)) (fun _ _ _ h => h) (Or.inl ⟨by rfl, ?_⟩) ?_ ?_
         rotate_left
         ·
          intro w'
          go_simp
          with_reducible rfl
         rotate_left
         ·
          simp only [Act.put, sA_, sB_, sC_, i64_w, i32_w]
          rfl
         refine take_ (i := 1) (N := some 22) (v := ?_) (a' := ?_) #[true, true, true, true, true, false, false, false, false, false] rfl rfl (take_ofW HT_.out HW_.out (by kernel_rfl)) (fun _ _ _ h => h) (Or.inl ⟨by rfl, ?_⟩) hHeld ?_ ?_
         rotate_left
         ·
          rintro w' ⟨s0, s1, s2, s3, s4, s5, s6⟩
          go_simp
          with_reducible rfl
         rotate_left
         ·
          simp only [Act.put, sA_, sB_, sC_, i64_w, i32_w]
          rfl
         refine take_ (i := 5) (N := some 26) (v := ?_) (a' := ?_) #[true, true, true, true, true, true, false, false, false, false] rfl rfl (take_ofW HT_.out HW_.out (by kernel_rfl)) (fun _ _ _ h => h) (Or.inl ⟨by rfl, ?_⟩) hHeld ?_ ?_
         rotate_left
         ·
          rintro w' ⟨s0, s1, s2, s3, s4, s5, s6⟩
          go_simp
          with_reducible rfl
         rotate_left
         ·
          simp only [Act.put, sA_, sB_, sC_, i64_w, i32_w]
          rfl
         refine pure_ (i := 6) (N := some 27) (v := ?_) (a' := ?_) #[true, true, true, true, true, true, true, false, false, false] rfl rfl (any_of HT_.out (by kernel_rfl)) (fun _ _ _ h => h) (Or.inl ⟨by rfl, ?_⟩) ?_ ?_
         rotate_left
         ·
          intro w'
          go_simp
          with_reducible rfl
         rotate_left
         ·
          simp only [Act.put, sA_, sB_, sC_, i64_w, i32_w]
          rfl
         refine pure_ (i := 7) (N := some 28) (v := ?_) (a' := ?_) #[true, true, true, true, true, true, true, true, false, false] rfl rfl (any_of HT_.out (by kernel_rfl)) (fun _ _ _ h => h) (Or.inl ⟨by rfl, ?_⟩) ?_ ?_
         rotate_left
         ·
          intro w'
          go_simp
          with_reducible rfl
         rotate_left
         ·
          simp only [Act.put, sA_, sB_, sC_, i64_w, i32_w]
          rfl
         refine take_ (i := 8) (N := some 29) (v := ?_) (a' := ?_) #[true, true, true, true, true, true, true, true, true, false] rfl rfl (take_ofW HT_.out HW_.out (by kernel_rfl)) (fun _ _ _ h => h) (Or.inl ⟨by rfl, ?_⟩) hHeld ?_ ?_
         rotate_left
         ·
          rintro w' ⟨s0, s1, s2, s3, s4, s5, s6⟩
          go_simp
          with_reducible rfl
         rotate_left
         ·
          simp only [Act.put, sA_, sB_, sC_, i64_w, i32_w]
          rfl
         refine pure_ (i := 9) (N := some 30) (v := ?_) (a' := ?_) #[true, true, true, true, true, true, true, true, true, true] rfl rfl (any_of HT_.out (by kernel_rfl)) (fun _ _ _ h => h) (Or.inl ⟨by rfl, ?_⟩) ?_ ?_
         rotate_left
         ·
          intro w'
          go_simp
          with_reducible rfl
         rotate_left
         ·
          simp only [Act.put, sA_, sB_, sC_, i64_w, i32_w]
          rfl
         refine done_ (done_of HT_.out (by kernel_rfl)) ?_
         try go_wp2
         go_roundg k1
         case measure => have := HK1.out; omega
         case rel => exact ⟨(wrap64 (x5_1 + 1)), z8_20_, H', ⟨by have := HK1.out; omega⟩, ⟨by (with_reducible repeat (first | apply Kd.R_alloc | apply Kd.R_drewN | apply Kd.R_drew)); exact HO_4.out⟩, ⟨by (with_reducible repeat (first | refine blk_drewN ?_ _ | refine blk_drew ?_ | refine blk_alloc ?_ _)); exact BK254.out⟩, ⟨by (with_reducible repeat (first | refine blk_drewN ?_ _ | refine blk_drew ?_ | refine blk_alloc ?_ _)); exact BK255.out⟩, ⟨by repeat (first | (with_reducible first | exact HB.out | apply below_alloc | apply pw_below_drewN | apply below_drew1 | refine below_set ?_ GE254.out | refine below_set ?_ GE255.out) | exact HB.out)⟩⟩
       ·
        rw [if_neg c11] at H
        exact absurd H (by simp)
      ·
       rw [if_neg c10] at H
       exact absurd H (by simp)
     ·
      rw [if_neg c9] at H
      exact absurd H (by simp)
    ·
     rw [if_neg c8] at H
     have c8b0 : decide (x5_1 < (t259.length : Int)) = false := decide_eq_false c8
     clear c8
     replace H := Option.bind_eq_some_iff.mp H
     obtain ⟨t265, A190, H⟩ := H
     replace H : (spec_ConstantOf.l1 k1 (([] : List Int)) 0 t265) = some (r1, r2, r3) := H
     have A19 := Aside0.mk A190
     clear A190
     obtain ⟨y269, hy269⟩ : ∃ y_ : List Int, y_ = (([] : List Int)) := ⟨_, rfl⟩
     replace H : (spec_ConstantOf.l1 k1 y269 0 t265) = some (r1, r2, r3) := by first | (rw [hy269]; with_reducible exact H) | (have H2_ := (Option.bind_some _ _).symm.trans H; rw [hy269]; with_reducible exact H2_) | (have H2_ := (Option.bind_some _ _).symm.trans H; with_reducible exact H2_) | with_reducible exact H | (rw [hy269]; exact H) | exact H
     have Ny269 := Aside0.mk hy269
     clear hy269
     have H' := Aside0.mk H
     clear H
     obtain ⟨Ao20, co20, eo20⟩ := Kd.R_slice HO_4.out
     subst eo20
     go_wp2_with (first | ((with_reducible refine gate_callee (f := 96) rfl ?_); refine goesL_ (some 33) rfl rfl Try.func96 (by kernel_rfl) rfl #[.pointer (some ⟨gb254, 0, none⟩), .slice Ao20 t259.length co20] rfl z8_11_ ?_; (with_reducible refine (spec_l06Tree.calls k1 _ ([(⟨l0_0⟩ : S34)]).length [(⟨l0_0⟩ : S34)] _ _ t259 t265 _ ?side1 ?side2 ?side3 ?side4 A19.out).mono ?_); (case side1 => refine Kd.C_block k34 (g := gb254) (cs := #[.slice A0_0 l0_0.length c0_0]) (T := 34) z8_2_ (show Kd.K k34 _ (⟨l0_0⟩ : S34) [.slice A0_0 l0_0.length c0_0] from k34_mk _ _ (by exact HC0_0.out) z8_19_) (by decide)); (case side2 => exact Nat.le_refl _); (case side3 => repeat (first | exact (Kd.R_reads' HO_4.out).2.2 | (with_reducible refine Kd.C_alloc ?_ _) | (with_reducible refine Kd.C_drewN ?_ _) | (with_reducible refine Kd.C_drew ?_))); (case side4 => exact (Kd.R_reads' HO_4.out).2.1); rintro e w21 ⟨v266, rfl, ho0, hb⟩; refine ⟨_, rfl, ?_⟩; have n0_ := Aside0.mk (Kd.R_below (by (with_reducible repeat (first | apply Kd.R_alloc | apply Kd.R_drewN | apply Kd.R_drew)); exact HO_4.out) hb); have n1_ := Aside0.mk (Kd.R_lower ho0 (below_size z8_9_)); have n2_ := Aside0.mk (blk_below (g := gb254) (o := .cells #[.slice A0_0 l0_0.length c0_0] 34 (0, 0)) z8_2_ hb); have n3_ := Aside0.mk (blk_below (g := gb255) (o := .cells #[.slice none 0 0, .slice none 0 0] 36 (0, 0)) z8_3_ hb); have n4_ := Aside0.mk (below_step z8_9_ hb); clear HO_4; clear BK254; clear BK255; clear HB; have HO_4 := n0_; have HO267 := n1_; have BK254 := n2_; have BK255 := n3_; have HB := n4_; clear n0_ n1_ n2_ n3_ n4_; (try clear hb); (try clear hb2); (try clear hk); (try clear hi); (try clear ho0)) | ((with_reducible refine gate_dst (N := 6) rfl ?_); refine box_event ?hg (N := 6) ?hd (cs := #[.slice none 0 0]) (t := 34) ?hr ?_; (case hd => rfl); (case hg => rfl); (case hr => first | (go_simp; done) | (go_simp; rfl)); intro gb268 hg w22 hbox hb; have n0_ := Aside0.mk (Kd.R_below (by (with_reducible repeat (first | apply Kd.R_alloc | apply Kd.R_drewN | apply Kd.R_drew)); exact HO_4.out) hb); have n1_ := Aside0.mk (Kd.R_below (by (with_reducible repeat (first | apply Kd.R_alloc | apply Kd.R_drewN | apply Kd.R_drew)); exact HO267.out) hb); have n2_ := Aside0.mk (blk_below (g := gb254) (o := .cells #[.slice A0_0 l0_0.length c0_0] 34 (0, 0)) z8_2_ hb); have n3_ := Aside0.mk (blk_below (g := gb255) (o := .cells #[.slice none 0 0, .slice none 0 0] 36 (0, 0)) z8_3_ hb); have n4_ := Aside0.mk (below_step z8_9_ hb); have n5_ := Aside0.mk (hbox); have n6_ := Aside0.mk ((by rw [hg]; exact (below_size z8_9_) : w.heap.size ≤ gb268)); have n7_ := Aside0.mk ((by rw [hg]; exact (below_size z8_9_) : w.heap.size ≤ gb268)); have n8_ := Aside0.mk ((by rw [hg]; exact Nat.ne_of_lt (blk_lt (g := gb254) (o := .cells #[.slice A0_0 l0_0.length c0_0] 34 (0, 0)) z8_2_) : gb254 ≠ gb268)); have n9_ := Aside0.mk ((by rw [hg]; exact Nat.ne_of_gt (blk_lt (g := gb254) (o := .cells #[.slice A0_0 l0_0.length c0_0] 34 (0, 0)) z8_2_) : gb268 ≠ gb254)); have n10_ := Aside0.mk ((by rw [hg]; exact Nat.ne_of_lt (blk_lt (g := gb255) (o := .cells #[.slice none 0 0, .slice none 0 0] 36 (0, 0)) z8_3_) : gb255 ≠ gb268)); have n11_ := Aside0.mk ((by rw [hg]; exact Nat.ne_of_gt (blk_lt (g := gb255) (o := .cells #[.slice none 0 0, .slice none 0 0] 36 (0, 0)) z8_3_) : gb268 ≠ gb255)); clear HO_4; clear HO267; clear BK254; clear BK255; clear HB; have HO_4 := n0_; have HO267 := n1_; have BK254 := n2_; have BK255 := n3_; have HB := n4_; have BK268 := n5_; have GW268 := n6_; have GE268 := n7_; have NB254_268 := n8_; have NB268_254 := n9_; have NB255_268 := n10_; have NB268_255 := n11_; clear n0_ n1_ n2_ n3_ n4_ n5_ n6_ n7_ n8_ n9_ n10_ n11_; clear hb hbox hg; obtain ⟨Ao23, co23, eo23⟩ := Kd.R_slice HO267.out; subst eo23; have hnb24 := NB268_254.out; have hnc24 := NB254_268.out; have hnb25 := NB268_255.out; have hnc25 := NB255_268.out; have hcz26_0 : w22.cell? ⟨gb268, 0, none⟩ = some (.slice none 0 0) := (blk_cell BK268.out 0).trans rfl; have hfz26_0 := blk_frozen BK268.out 0) | ((with_reducible refine gate_dst (N := 34) rfl ?_); refine Kd.R_lit (Kd.int .i8) _ 86 ?hg (N := 34) ?hd (xs := ([] : List Int)) (inner := []) (ok := fun _ => True) (okp := fun _ => True) ?hr ?hp (fun _ hk => hk) trivial (Below.refl _ _) (Nat.le_refl _) (by simp) ?_; (case hd => rfl); (case hg => rfl); (case hr => first | (go_simp; done) | (go_simp; rfl)); (case hp => exact (Reps.none _ _)); intro v270 w27 ho28 hb hg_ hnew_; clear hg_ hnew_; (first | rw [← Ny269.out] at ho28 | (simp only [Int.reduceToNat] at ho28; rw [← Ny269.out] at ho28)); have n0_ := Aside0.mk (Kd.R_below (by (with_reducible repeat (first | apply Kd.R_alloc | apply Kd.R_drewN | apply Kd.R_drew)); exact (Kd.R_mono (Kd.R_far (p := ⟨gb268, 0, none⟩) (Kd.R_types HO_4.out BK268.out (by decide)) (fun _ hk => hk.2) (.slice Ao23 t265.length co23)) (fun _ h_ => h_.1))) hb); have n1_ := Aside0.mk (Kd.R_below (by (with_reducible repeat (first | apply Kd.R_alloc | apply Kd.R_drewN | apply Kd.R_drew)); exact (Kd.R_mono (Kd.R_far (p := ⟨gb268, 0, none⟩) (Kd.R_types HO267.out BK268.out (by decide)) (fun _ hk => hk.2) (.slice Ao23 t265.length co23)) (fun _ h_ => h_.1))) hb); have n2_ := Aside0.mk (Kd.R_lower ho28 (below_size z8_1_)); have n3_ := Aside0.mk (blk_below (g := gb254) (o := .cells #[.slice A0_0 l0_0.length c0_0] 34 (0, 0)) (by (with_reducible repeat (first | refine blk_drewN ?_ _ | refine blk_drew ?_ | refine blk_alloc ?_ _)); refine blk_far ?_ NB254_268.out _; (with_reducible repeat (first | refine blk_drewN ?_ _ | refine blk_drew ?_ | refine blk_alloc ?_ _)); exact BK254.out) hb); have n4_ := Aside0.mk (blk_below (g := gb255) (o := .cells #[.slice none 0 0, .slice none 0 0] 36 (0, 0)) (by (with_reducible repeat (first | refine blk_drewN ?_ _ | refine blk_drew ?_ | refine blk_alloc ?_ _)); refine blk_far ?_ NB255_268.out _; (with_reducible repeat (first | refine blk_drewN ?_ _ | refine blk_drew ?_ | refine blk_alloc ?_ _)); exact BK255.out) hb); have n5_ := Aside0.mk (blk_below (g := gb268) (o := .cells #[.slice Ao23 t265.length co23] 34 (0, 0)) (by (with_reducible repeat (first | refine blk_drewN ?_ _ | refine blk_drew ?_ | refine blk_alloc ?_ _)); refine blk_put (cs := #[.slice none 0 0]) ?_ 0 _ rfl; (with_reducible repeat (first | refine blk_drewN ?_ _ | refine blk_drew ?_ | refine blk_alloc ?_ _)); exact BK268.out) hb); have n6_ := Aside0.mk (below_step z8_1_ hb); clear HO_4; clear HO267; clear BK254; clear BK255; clear BK268; clear HB; have HO_4 := n0_; have HO267 := n1_; have HO271 := n2_; have BK254 := n3_; have BK255 := n4_; have BK268 := n5_; have HB := n6_; clear n0_ n1_ n2_ n3_ n4_ n5_ n6_; clear hb ho28))
     go_loopg [7, 8] k1 (fun kq v7 v8 w' => ∃ (x7_2 : List Int) (x8_2 : Int), v8 = .int .i64 x8_2 ∧ Aside0 (spec_ConstantOf.l1 kq x7_2 x8_2 t265 = some (r1, r2, r3)) ∧ Aside0 (kq ≤ k1) ∧ Aside0 (Kd.R (Kd.int .i8) 86 w' w.heap.size (fun _ => True) v7 x7_2) ∧ Aside0 (Kd.R k89 89 w' w.heap.size (fun _ => True) (.slice Ao23 t265.length co23) t265) ∧ Aside0 (w'.heap[gb254]? = some (.cells #[(.slice A0_0 l0_0.length c0_0)] 34 (0, 0))) ∧ Aside0 (w'.heap[gb255]? = some (.cells #[(.slice none 0 0), (.slice none 0 0)] 36 (0, 0))) ∧ Aside0 (w'.heap[gb268]? = some (.cells #[(.slice Ao23 t265.length co23)] 34 (0, 0))) ∧ Aside0 (Below w.heap.size w w'))
     case atStart => exact ⟨(y269), (0), z8_20_, H', ⟨Nat.le_refl _⟩, ⟨by (with_reducible repeat (first | apply Kd.R_alloc | apply Kd.R_drewN | apply Kd.R_drew)); exact HO271.out⟩, ⟨by (with_reducible repeat (first | apply Kd.R_alloc | apply Kd.R_drewN | apply Kd.R_drew)); exact HO267.out⟩, ⟨by (with_reducible repeat (first | refine blk_drewN ?_ _ | refine blk_drew ?_ | refine blk_alloc ?_ _)); exact BK254.out⟩, ⟨by (with_reducible repeat (first | refine blk_drewN ?_ _ | refine blk_drew ?_ | refine blk_alloc ?_ _)); exact BK255.out⟩, ⟨by (with_reducible repeat (first | refine blk_drewN ?_ _ | refine blk_drew ?_ | refine blk_alloc ?_ _)); exact BK268.out⟩, ⟨by repeat (first | (with_reducible first | exact HB.out | apply below_alloc | apply pw_below_drewN | apply below_drew1 | refine below_set ?_ GE254.out | refine below_set ?_ GE255.out | refine below_set ?_ GE268.out) | exact HB.out)⟩⟩
     case round =>
      clear H'
      try clear c1
      try clear c2
      try clear p2
      try clear q2
      try clear hx2
      try clear c3
      try clear c4
      try clear c6
      try clear p6
      try clear c8
      try clear c8b0
      try clear c9
      try clear c9b0
      try clear c10
      try clear c10b0
      try clear c11
      try clear c11b0
      try clear c12
      try clear c12b0
      try clear c12b1
      try clear c15
      try clear c24
      try clear c25
      try clear p26
      try clear q26
      try clear hx26
      try clear hcz16_0
      try clear hcz16_1
      try clear hcz26_0
      try clear hfz16_0
      try clear hfz16_1
      try clear hfz26_0
      try clear hx262_0
      try clear hx263_0
      try clear hx263_1
      try clear hx263_2
      try clear hx263_3
      try clear hx263_4
      try clear p2
      try clear p262
      try clear p263
      try clear q262
      try clear q263
      obtain ⟨x7_2, x8_2, rfl, HA, HK2, HO_7, HO_269000, BK254, BK255, BK268, HB⟩ := hrel
      cases gk with
      | zero => exact absurd HA.out (by simp [spec_ConstantOf.l1])
      | succ k2 =>
       have H := HA.out
       clear HA
       simp only [spec_ConstantOf.l1] at H
       by_cases c29 : x8_2 < (t265.length : Int)
       ·
        rw [if_pos c29] at H
        have c29b0 : decide (x8_2 < (t265.length : Int)) = true := decide_eq_true c29
        clear c29
        by_cases c30 : 0 ≤ x8_2
        ·
         rw [if_pos c30] at H
         have c30b0 : decide (0 ≤ x8_2) = true := decide_eq_true c30
         clear c30
         by_cases c31 : x7_2.length < 140737488355328
         ·
          rw [if_pos c31] at H
          have LMc31 := Aside0.mk c31
          clear c31
          obtain ⟨y273, hy273⟩ : ∃ y_ : List Int, y_ = (x7_2 ++ [(rd_T89 t265 x8_2).f1]) := ⟨_, rfl⟩
          replace H : (spec_ConstantOf.l1 k2 y273 (wrap64 (x8_2 + 1)) t265) = some (r1, r2, r3) := by first | (rw [hy273]; with_reducible exact H) | (have H2_ := (Option.bind_some _ _).symm.trans H; rw [hy273]; with_reducible exact H2_) | (have H2_ := (Option.bind_some _ _).symm.trans H; with_reducible exact H2_) | with_reducible exact H | (rw [hy273]; exact H) | exact H
          have Ny273 := Aside0.mk hy273
          clear hy273
          have H' := Aside0.mk H
          clear H
          have hnb32 := NB268_254.out
          have hnc32 := NB254_268.out
          have hnb33 := NB268_255.out
          have hnc33 := NB255_268.out
          have hcz34_0 : wr.cell? ⟨gb268, 0, none⟩ = some (.slice Ao23 t265.length co23) := (blk_cell BK268.out 0).trans rfl
          have hfz34_0 := blk_frozen BK268.out 0
          have p272 : 0 ≤ (x8_2 : Int) := of_decide_eq_true (by assumption)
          have q272 : x8_2 < (t265.length : Int) := of_decide_eq_true (by assumption)
          obtain ⟨ad272, e272, hx272_0, hx272_1, hx272_2, hx272_3, hx272_4⟩ := at_T89 (Kd.R_reads' HO_269000.out).2.2 x8_2 p272 q272
          cases e272
          replace p272 := eq_true p272
          replace q272 := eq_true q272
          go_wp2_with (first | ((with_reducible refine gate_builtin (b := .append) (xs := #[.tmp 42, .tmp 49]) rfl ?_); at_builtin; refine Kd.R_append (Kd.int .i8) (w0 := w) w.heap.size rfl (.tmp 42) (.tmp 49) 25 86 (.int .i8 0) 1 rfl Try.underlying25 info86 rfl (by decide) (by omega) u7 x7_2 ((rd_T89 t265 x8_2).f1) [.int .i8 ((rd_T89 t265 x8_2).f1)] (fun _ => True) (fun _ => False) rfl rfl ?aP (fun _ hk => hk.elim) ?aF ?aO ?aB ?aS ?aL ?_; (case aP => exact rfl); (case aB => exact z8_1_); (case aF => exact (fun _ _ => trivial)); (case aO => exact z8_8_); (case aS => exact (below_size z8_1_)); (case aL => have := LMc31.out; omega); intro v274 w35 ho hb hg hat; rw [← Ny273.out] at ho; have n0_ := Aside0.mk (Kd.R_over' z8_10_ (Kd.R_typed z8_8_) (by decide) hg); have n1_ := Aside0.mk (blk_grown (g := gb254) (o := .cells #[.slice A0_0 l0_0.length c0_0] 34 (0, 0)) z8_2_ hg (Kd.R_ne HO_7.out BK254.out (by decide))); have n2_ := Aside0.mk (blk_grown (g := gb255) (o := .cells #[.slice none 0 0, .slice none 0 0] 36 (0, 0)) z8_3_ hg (Kd.R_ne HO_7.out BK255.out (by decide))); have n3_ := Aside0.mk (blk_grown (g := gb268) (o := .cells #[.slice (some ad272) t265.length co23] 34 (0, 0)) z8_5_ hg (Kd.R_ne HO_7.out BK268.out (by decide))); have n4_ := Aside0.mk (hb); have n5_ := Aside0.mk (ho); clear HO_269000; clear BK254; clear BK255; clear BK268; clear HB; clear HO_7; have HO_269000 := n0_; have BK254 := n1_; have BK255 := n2_; have BK268 := n3_; have HB := n4_; have HO275 := n5_; clear n0_ n1_ n2_ n3_ n4_ n5_; clear ho hb hg hat))
          go_roundg k2
          case measure => have := HK1.out; have := HK2.out; omega
          case rel => exact ⟨(y273), (wrap64 (x8_2 + 1)), z8_20_, H', ⟨by have := HK1.out; have := HK2.out; omega⟩, ⟨by (with_reducible repeat (first | apply Kd.R_alloc | apply Kd.R_drewN | apply Kd.R_drew)); exact HO275.out⟩, ⟨by (with_reducible repeat (first | apply Kd.R_alloc | apply Kd.R_drewN | apply Kd.R_drew)); exact HO_269000.out⟩, ⟨by (with_reducible repeat (first | refine blk_drewN ?_ _ | refine blk_drew ?_ | refine blk_alloc ?_ _)); exact BK254.out⟩, ⟨by (with_reducible repeat (first | refine blk_drewN ?_ _ | refine blk_drew ?_ | refine blk_alloc ?_ _)); exact BK255.out⟩, ⟨by (with_reducible repeat (first | refine blk_drewN ?_ _ | refine blk_drew ?_ | refine blk_alloc ?_ _)); exact BK268.out⟩, ⟨by repeat (first | (with_reducible first | exact HB.out | apply below_alloc | apply pw_below_drewN | apply below_drew1 | refine below_set ?_ GE254.out | refine below_set ?_ GE255.out | refine below_set ?_ GE268.out) | exact HB.out)⟩⟩
         ·
          rw [if_neg c31] at H
          exact absurd H (by simp)
        ·
         rw [if_neg c30] at H
         exact absurd H (by simp)
       ·
        rw [if_neg c29] at H
        have c29b0 : decide (x8_2 < (t265.length : Int)) = false := decide_eq_false c29
        clear c29
        obtain ⟨ji36, hji36⟩ : ∃ j_ : Int, (wrap64 ((t265.length : Int) - 1)) = j_ := ⟨_, rfl⟩
        replace H : (if 0 ≤ (ji36) then (if (ji36) < (t265.length : Int) then (if 0 ≤ ((rd_T89 t265 (ji36)).f2.f0) then (if ((rd_T89 t265 (ji36)).f2.f0) ≤ (x7_2.length : Int) then ((spec_l03Normal.f k2 (x7_2.take (((rd_T89 t265 (ji36)).f2.f0) : Int).toNat) (x7_2.drop (((rd_T89 t265 (ji36)).f2.f0) : Int).toNat)).bind fun bt285 => ((spec_l03Ok.f k2 [(⟨bt285.1, bt285.2⟩ : S36)]).bind fun t293 => (if t293 = true then (some (bt285.1, bt285.2, 0)) else (some (([] : List Int), ([] : List Int), 3))))) else (none)) else (none)) else (none)) else (none)) = some (r1, r2, r3) := by first | (rw [hji36] at H; exact H) | (simp only [hji36] at H ⊢; exact H)
        have hji36w : (IntKind.i64.wrap ((t265.length : Int) - 1)) = ji36 := (i64_w _).trans hji36
        by_cases c37 : 0 ≤ (ji36)
        ·
         rw [if_pos c37] at H
         have c37b0 : decide (0 ≤ (ji36)) = true := decide_eq_true c37
         clear c37
         by_cases c38 : (ji36) < (t265.length : Int)
         ·
          rw [if_pos c38] at H
          have c38b0 : decide ((ji36) < (t265.length : Int)) = true := decide_eq_true c38
          clear c38
          by_cases c39 : 0 ≤ ((rd_T89 t265 (ji36)).f2.f0)
          ·
           rw [if_pos c39] at H
           have c39b0 := eq_true c39
           have c39b1 : decide (0 ≤ ((rd_T89 t265 (ji36)).f2.f0)) = true := decide_eq_true c39
           clear c39
           by_cases c40 : ((rd_T89 t265 (ji36)).f2.f0) ≤ (x7_2.length : Int)
           ·
            rw [if_pos c40] at H
            have c40b0 := eq_true c40
            have c40b1 : decide (((rd_T89 t265 (ji36)).f2.f0) ≤ (x7_2.length : Int)) = true := decide_eq_true c40
            clear c40
            obtain ⟨y277, hy277⟩ : ∃ y_ : List Int, y_ = (x7_2.take (((rd_T89 t265 (ji36)).f2.f0) : Int).toNat) := ⟨_, rfl⟩
            replace H : ((spec_l03Normal.f k2 y277 (x7_2.drop (((rd_T89 t265 (ji36)).f2.f0) : Int).toNat)).bind fun bt285 => ((spec_l03Ok.f k2 [(⟨bt285.1, bt285.2⟩ : S36)]).bind fun t293 => (if t293 = true then (some (bt285.1, bt285.2, 0)) else (some (([] : List Int), ([] : List Int), 3))))) = some (r1, r2, r3) := by first | (rw [hy277]; with_reducible exact H) | (have H2_ := (Option.bind_some _ _).symm.trans H; rw [hy277]; with_reducible exact H2_) | (have H2_ := (Option.bind_some _ _).symm.trans H; with_reducible exact H2_) | with_reducible exact H | (rw [hy277]; exact H) | exact H
            have Ny277 := Aside0.mk hy277
            clear hy277
            have c41b0 := eq_true (of_decide_eq_true (by assumption) : 0 ≤ ((rd_T89 t265 (ji36)).f2.f0))
            have c42b0 := eq_true (of_decide_eq_true (by assumption) : ((rd_T89 t265 (ji36)).f2.f0) ≤ (x7_2.length : Int))
            obtain ⟨y281, hy281⟩ : ∃ y_ : List Int, y_ = (x7_2.drop (((rd_T89 t265 (ji36)).f2.f0) : Int).toNat) := ⟨_, rfl⟩
            replace H : ((spec_l03Normal.f k2 y277 y281).bind fun bt285 => ((spec_l03Ok.f k2 [(⟨bt285.1, bt285.2⟩ : S36)]).bind fun t293 => (if t293 = true then (some (bt285.1, bt285.2, 0)) else (some (([] : List Int), ([] : List Int), 3))))) = some (r1, r2, r3) := by first | (rw [hy281]; with_reducible exact H) | (have H2_ := (Option.bind_some _ _).symm.trans H; rw [hy281]; with_reducible exact H2_) | (have H2_ := (Option.bind_some _ _).symm.trans H; with_reducible exact H2_) | with_reducible exact H | (rw [hy281]; exact H) | exact H
            have Ny281 := Aside0.mk hy281
            clear hy281
            replace H := Option.bind_eq_some_iff.mp H
            obtain ⟨⟨t285, t288⟩, A430, H⟩ := H
            replace H : ((spec_l03Ok.f k2 [(⟨t285, t288⟩ : S36)]).bind fun t293 => (if t293 = true then (some (t285, t288, 0)) else (some (([] : List Int), ([] : List Int), 3)))) = some (r1, r2, r3) := H
            have A43 := Aside0.mk A430
            clear A430
            replace H := Option.bind_eq_some_iff.mp H
            obtain ⟨t293, A440, H⟩ := H
            replace H : (if t293 = true then (some (t285, t288, 0)) else (some (([] : List Int), ([] : List Int), 3))) = some (r1, r2, r3) := H
            have A44 := Aside0.mk A440
            clear A440
            by_cases c45 : t293 = true
            ·
             subst c45
             have H1 : (some (t285, t288, 0)) = some (r1, r2, r3) := by first | (rw [if_pos rfl] at H; exact H) | rfl
             clear H
             have H := H1
             clear H1
             simp only [Option.some.injEq, Prod.mk.injEq] at H
             obtain ⟨rfl, rfl, rfl⟩ := H
             have hnb46 := NB268_254.out
             have hnc46 := NB254_268.out
             have hnb47 := NB268_255.out
             have hnc47 := NB255_268.out
             have hcz48_0 : wr.cell? ⟨gb268, 0, none⟩ = some (.slice Ao23 t265.length co23) := (blk_cell BK268.out 0).trans rfl
             have hfz48_0 := blk_frozen BK268.out 0
             have p276 : 0 ≤ ((ji36) : Int) := of_decide_eq_true (by assumption)
             have q276 : (ji36) < (t265.length : Int) := of_decide_eq_true (by assumption)
             obtain ⟨ad276, e276, hx276_0, hx276_1, hx276_2, hx276_3, hx276_4⟩ := at_T89 (Kd.R_reads' HO_269000.out).2.2 (ji36) p276 q276
             cases e276
             replace p276 := eq_true p276
             replace q276 := eq_true q276
             try go_wp2
             have n0_ := Aside0.mk (Kd.R_drew HO_7.out)
             have n1_ := Aside0.mk (Kd.R_drew HO_269000.out)
             have n2_ := Aside0.mk (blk_drew BK254.out)
             have n3_ := Aside0.mk (blk_drew BK255.out)
             have n4_ := Aside0.mk (blk_drew BK268.out)
             have n5_ := Aside0.mk (below_drew1 HB.out)
             clear HO_7
             clear HO_269000
             clear BK254
             clear BK255
             clear BK268
             clear HB
             have HO_7 := n0_
             have HO_269000 := n1_
             have BK254 := n2_
             have BK255 := n3_
             have BK268 := n4_
             have HB := n5_
             clear n0_ n1_ n2_ n3_ n4_ n5_
             obtain ⟨Ao51, co51, eo51⟩ := Kd.R_slice HO_7.out
             (first | subst eo51 | (injection eo51 with f1_ f2_ f3_; have f4_ := f1_.symm; have f5_ := f3_.symm; clear f1_ f2_ f3_; subst f4_; subst f5_))
             have q50 : (((rd_T89 t265 (ji36)).f2.f0) : Int) ≤ ((x7_2.length : Int) : Int) := of_decide_eq_true (by assumption)
             obtain ⟨i050, hi050, _, hsz50, _⟩ := info_parts info86
             have hroom50 : x7_2.length ≤ co51 := (Kd.R_reads' HO_7.out).2.1
             have hC50 : Kd.C (Kd.int .i8) _ Ao51 x7_2.length x7_2 := (Kd.R_reads' HO_7.out).2.2
             have hcut50 := cut_to (P := Try.prog) 25 86 .i16 Try.underlying25 hi050 Ao51 x7_2.length co51 ((rd_T89 t265 (ji36)).f2.f0) (of_decide_eq_true (by assumption)) q50 hroom50
             have hr50 := Kd.C_take (m := (((rd_T89 t265 (ji36)).f2.f0) : Int).toNat) hC50 (by omega)
             have hy50 : y277.length = (((rd_T89 t265 (ji36)).f2.f0) : Int).toNat := (by rw [Ny277.out, List.length_take]; omega)
             rw [← Ny277.out] at hr50
             rw [← hy50] at hcut50
             have HR280 := Aside0.mk hr50
             have HC280 := Aside0.mk (show y277.length ≤ co51 from by omega)
             clear hr50 hC50 hroom50 hi050 hsz50
             have KY50 := Aside0.mk hy50
             clear hy50
             have KL50 := Aside0.mk (show (((rd_T89 t265 (ji36)).f2.f0) : Int).toNat ≤ x7_2.length from by omega)
             replace q50 := eq_true q50
             have q52 : (((rd_T89 t265 (ji36)).f2.f0) : Int) ≤ ((x7_2.length : Int) : Int) := of_decide_eq_true (by assumption)
             obtain ⟨i052, hi052, _, hsz52, _⟩ := info_parts info86
             have hroom52 : x7_2.length ≤ co51 := (Kd.R_reads' HO_7.out).2.1
             have hC52 : Kd.C (Kd.int .i8) _ Ao51 x7_2.length x7_2 := (Kd.R_reads' HO_7.out).2.2
             have q052 : (0 : Int) ≤ (((rd_T89 t265 (ji36)).f2.f0) : Int) := of_decide_eq_true (by assumption)
             have hcut52 := cut_from (P := Try.prog) 25 86 .i16 Try.underlying25 hi052 1 hsz52 Ao51 x7_2.length co51 ((rd_T89 t265 (ji36)).f2.f0) q052 q52
             have hr52 := Kd.C_drop (m := (((rd_T89 t265 (ji36)).f2.f0) : Int).toNat) (c := co51) hC52 (by omega) hroom52
             obtain ⟨A52, hA52⟩ : ∃ A1, A1 = (if co51 = (((rd_T89 t265 (ji36)).f2.f0) : Int).toNat then Ao51 else (Ao51 : Option Addr).map (·.add ((((rd_T89 t265 (ji36)).f2.f0) : Int).toNat * 1))) := ⟨_, rfl⟩
             obtain ⟨c52, hc52⟩ : ∃ c1, c1 = co51 - (((rd_T89 t265 (ji36)).f2.f0) : Int).toNat := ⟨_, rfl⟩
             have hy52 : y281.length = x7_2.length - (((rd_T89 t265 (ji36)).f2.f0) : Int).toNat := (by rw [Ny281.out, List.length_drop] <;> omega)
             rw [show (x7_2).drop (((rd_T89 t265 (ji36)).f2.f0) : Int).toNat = y281 from Ny281.out.symm] at hr52
             replace hr52 : Kd.C (Kd.int .i8) _ A52 y281.length y281 := (by rw [hA52]; exact hr52)
             rw [← hy52, ← hA52, ← hc52] at hcut52
             have HR284 := Aside0.mk hr52
             have HC284 := Aside0.mk (show y281.length ≤ c52 from by rw [hy52, hc52]; exact Nat.sub_le_sub_right hroom52 _)
             clear hr52 hC52 hroom52 hi052 hsz52 hc52
             have KY52 := Aside0.mk hy52
             have KA52 := Aside0.mk hA52
             clear hy52 hA52
             have KL52 := Aside0.mk (show (((rd_T89 t265 (ji36)).f2.f0) : Int).toNat ≤ x7_2.length from by omega)
             replace q52 := eq_true q52
             refine start_ (n := 9) (S := fun w' => True) (ds := []) #[false, false, false, false, false, false, false, false, false] (by kernel_rfl) rfl rfl trivial (fun hHeld => ?_); refine with_tabW spec_ConstantOf.tab16 spec_ConstantOf.bits16 (fun HT_ HW_ => ?_)
             generalize wr.drew = w49 at HO_7 HO_269000 BK254 BK255 BK268 HB HR280 HR284 hHeld ⊢
             refine pure_ (i := 0) (N := some 61) (v := ?_) (a' := ?_) #[true, false, false, false, false, false, false, false, false] rfl rfl (any_of HT_.out (by kernel_rfl)) (fun _ _ _ h => h) (Or.inl ⟨by rfl, ?_⟩) ?_ ?_
             rotate_left
             ·
              intro w'
              go_simp
              with_reducible rfl
             rotate_left
             ·
              simp only [Act.put, sA_, sB_, sC_, i64_w, i32_w]
              rfl
             refine pure_ (i := 1) (N := some 62) (v := ?_) (a' := ?_) #[true, true, false, false, false, false, false, false, false] rfl rfl (any_of HT_.out (by kernel_rfl)) (fun _ _ _ h => h) (Or.inl ⟨by rfl, ?_⟩) ?_ ?_
             rotate_left
             ·
              intro w'
              go_simp
              with_reducible rfl
             rotate_left
             ·
              simp only [Act.put, sA_, sB_, sC_, i64_w, i32_w]
              rfl
             refine pure_ (i := 2) (N := some 63) (v := ?_) (a' := ?_) #[true, true, true, false, false, false, false, false, false] rfl rfl (any_of HT_.out (by kernel_rfl)) (fun _ _ _ h => h) (Or.inl ⟨by rfl, ?_⟩) ?_ ?_
             rotate_left
             ·
              intro w'
              go_simp
              with_reducible rfl
             rotate_left
             ·
              simp only [Act.put, sA_, sB_, sC_, i64_w, i32_w]
              rfl
             refine pure_ (i := 3) (N := some 64) (v := ?_) (a' := ?_) #[true, true, true, true, false, false, false, false, false] rfl rfl (any_of HT_.out (by kernel_rfl)) (fun _ _ _ h => h) (Or.inl ⟨by rfl, ?_⟩) ?_ ?_
             rotate_left
             ·
              intro w'
              go_simp
              with_reducible rfl
             rotate_left
             ·
              simp only [Act.put, sA_, sB_, sC_, i64_w, i32_w]
              rfl
             refine pure_ (i := 4) (N := some 65) (v := ?_) (a' := ?_) #[true, true, true, true, true, false, false, false, false] rfl rfl (any_of HT_.out (by kernel_rfl)) (fun _ _ _ h => h) (Or.inl ⟨by rfl, ?_⟩) ?_ ?_
             rotate_left
             ·
              intro w'
              go_simp
              with_reducible rfl
             rotate_left
             ·
              simp only [Act.put, sA_, sB_, sC_, i64_w, i32_w]
              rfl
             refine pure_ (i := 5) (N := some 66) (v := ?_) (a' := ?_) #[true, true, true, true, true, true, false, false, false] rfl rfl (any_of HT_.out (by kernel_rfl)) (fun _ _ _ h => h) (Or.inl ⟨by rfl, ?_⟩) ?_ ?_
             rotate_left
             ·
              intro w'
              go_simp
              with_reducible rfl
             rotate_left
             ·
              simp only [Act.put, sA_, sB_, sC_, i64_w, i32_w]
              rfl
             refine join_ (σ := Value × Value × Nat) 1 #[true, true, true, true, true, true, true, true, false] (fun s_ => [(67, .agg #[s_.1, s_.2.1]), (10, .pointer (some ⟨s_.2.2, 0, none⟩))]) (fun s_ w' => (Kd.R (Kd.int .i8) 86 w' w.heap.size (fun k_ => some k_ ≠ (s_.2.1 : Value).ownBlock ∧ some k_ ≠ (.slice Ao51 x7_2.length co51 : Value).ownBlock) s_.1 t285) ∧ (Kd.R (Kd.int .i8) 86 w' w.heap.size (fun k_ => some k_ ≠ (s_.1 : Value).ownBlock ∧ some k_ ≠ (.slice Ao51 x7_2.length co51 : Value).ownBlock) s_.2.1 t288) ∧ (Kd.R k89 89 w' w.heap.size (fun _ => True) (.slice (some ad276) t265.length co23) t265) ∧ (Kd.R (Kd.int .i8) 86 w' w.heap.size (fun k_ => some k_ ≠ (s_.1 : Value).ownBlock ∧ some k_ ≠ (s_.2.1 : Value).ownBlock) (.slice Ao51 x7_2.length co51) x7_2) ∧ (w'.heap[gb254]? = some (.cells #[.slice A0_0 l0_0.length c0_0] 34 (0, 0))) ∧ (w'.heap[gb255]? = some (.cells #[.slice none 0 0, .slice none 0 0] 36 (0, 0))) ∧ (w'.heap[gb268]? = some (.cells #[.slice (some ad276) t265.length co23] 34 (0, 0))) ∧ (w'.heap[s_.2.2]? = some (.cells #[.slice none 0 0, .slice none 0 0] 36 (0, 0))) ∧ (w.heap.size ≤ s_.2.2) ∧ (w.heap.size ≤ s_.2.2) ∧ (gb254 ≠ s_.2.2) ∧ (s_.2.2 ≠ gb254) ∧ (gb255 ≠ s_.2.2) ∧ (s_.2.2 ≠ gb255) ∧ (gb268 ≠ s_.2.2) ∧ (s_.2.2 ≠ gb268) ∧ (Below w.heap.size w w')) ?_ ?_
             rotate_left
             ·
              intro hCont
              refine two_ (i := 6) (j := 7) (Ni := some 67) (Nj := some 10) #[true, true, true, true, true, true, true, false, false] #[true, true, true, true, true, true, false, true, false] rfl rfl rfl rfl (two_of HT_.out (by kernel_rfl)) (by decide) (by decide) (fun K hK => ?_) (fun K hK => ?_)
              ·
               skip
               refine goes_ Try.func97 (by kernel_rfl) rfl #[.slice Ao51 y277.length co51, .slice A52 y281.length c52] (by rfl) rfl rfl z8_11_ ?_
               with_reducible refine (spec_l03Normal.calls k2 _ _ y277 _ _ y281 t285 t288 _ ?side1 ?side2 ?side3 ?side4 A43.out).mono ?_
               (case side1 => repeat (first | exact z8_7_ | (with_reducible refine Kd.C_alloc ?_ _) | (with_reducible refine Kd.C_drewN ?_ _) | (with_reducible refine Kd.C_drew ?_)))
               (case side2 => exact HC280.out)
               (case side3 => repeat (first | exact z8_6_ | (with_reducible refine Kd.C_alloc ?_ _) | (with_reducible refine Kd.C_drewN ?_ _) | (with_reducible refine Kd.C_drew ?_)))
               (case side4 => exact HC284.out)
               rintro e w53 ⟨v286, v289, rfl, ho0, ho1, hb⟩
               refine ⟨_, rfl, ?_⟩
               have n0_ := Aside0.mk (Kd.R_mono (Kd.R_told (Kd.R_told (Kd.R_old z8_8_ hb) (Kd.R_base ho0)) (Kd.R_base ho1)) (fun _ h_ => h_.1))
               have n1_ := Aside0.mk (Kd.R_below z8_10_ hb)
               have n2_ := Aside0.mk (Kd.R_lower (Kd.R_new' ho0 (Kd.R_lt z8_8_)) (below_size z8_1_))
               have n3_ := Aside0.mk (Kd.R_lower (Kd.R_new' ho1 (Kd.R_lt z8_8_)) (below_size z8_1_))
               have n4_ := Aside0.mk (blk_below (g := gb254) (o := .cells #[.slice A0_0 l0_0.length c0_0] 34 (0, 0)) z8_2_ hb)
               have n5_ := Aside0.mk (blk_below (g := gb255) (o := .cells #[.slice none 0 0, .slice none 0 0] 36 (0, 0)) z8_3_ hb)
               have n6_ := Aside0.mk (blk_below (g := gb268) (o := .cells #[.slice (some ad276) t265.length co23] 34 (0, 0)) z8_5_ hb)
               have n7_ := Aside0.mk (Kd.C_below z8_7_ hb)
               have n8_ := Aside0.mk (Kd.C_below z8_6_ hb)
               have n9_ := Aside0.mk (below_step z8_1_ hb)
               clear HO_7
               clear HO_269000
               clear BK254
               clear BK255
               clear BK268
               clear HR280
               clear HR284
               clear HB
               have HO_7 := n0_
               have HO_269000 := n1_
               have HO287 := n2_
               have HO290 := n3_
               have BK254 := n4_
               have BK255 := n5_
               have BK268 := n6_
               have HR280 := n7_
               have HR284 := n8_
               have HB := n9_
               clear n0_ n1_ n2_ n3_ n4_ n5_ n6_ n7_ n8_ n9_
               (try clear hb)
               (try clear hb2)
               (try clear hk)
               (try clear hi)
               (try clear ho0)
               (try clear ho1)
               refine hK.out _ _ trivial (fun hHeld => ?_)
               clear hK K
               refine norm_ (a' := ?_) ?_ ?_
               rotate_left
               ·
                show Act.put _ (some 67) _ = _
                simp only [Act.put, sA_, sB_, sC_, i64_w, i32_w]
                rfl
               refine one_ (i := 7) (N := some 10) #[true, true, true, true, true, true, true, true, false] rfl rfl (one_of HT_.out (by kernel_rfl)) (by decide) (fun K hK => ?_)
               refine box_step ?hg (N := 10) ?hd (cs := #[.slice none 0 0, .slice none 0 0]) (t := 36) ?hr ?_; (case hd => rfl); (case hg => rfl); (case hr => first | (go_simp; done) | (go_simp; rfl))
               intro gb291 hg w54 hbox hb
               have n0_ := Aside0.mk (Kd.R_below z8_8_ hb)
               have n1_ := Aside0.mk (Kd.R_below z8_10_ hb)
               have n2_ := Aside0.mk (Kd.R_below z8_16_ hb)
               have n3_ := Aside0.mk (Kd.R_below z8_15_ hb)
               have n4_ := Aside0.mk (blk_below (g := gb254) (o := .cells #[.slice A0_0 l0_0.length c0_0] 34 (0, 0)) z8_2_ hb)
               have n5_ := Aside0.mk (blk_below (g := gb255) (o := .cells #[.slice none 0 0, .slice none 0 0] 36 (0, 0)) z8_3_ hb)
               have n6_ := Aside0.mk (blk_below (g := gb268) (o := .cells #[.slice (some ad276) t265.length co23] 34 (0, 0)) z8_5_ hb)
               have n7_ := Aside0.mk (Kd.C_below z8_7_ hb)
               have n8_ := Aside0.mk (Kd.C_below z8_6_ hb)
               have n9_ := Aside0.mk (below_step z8_1_ hb)
               have n10_ := Aside0.mk (hbox)
               have n11_ := Aside0.mk ((by rw [hg]; exact (below_size z8_1_) : w.heap.size ≤ gb291))
               have n12_ := Aside0.mk ((by rw [hg]; exact (below_size z8_1_) : w.heap.size ≤ gb291))
               have n13_ := Aside0.mk ((by rw [hg]; exact Nat.ne_of_lt (blk_lt (g := gb254) (o := .cells #[.slice A0_0 l0_0.length c0_0] 34 (0, 0)) z8_2_) : gb254 ≠ gb291))
               have n14_ := Aside0.mk ((by rw [hg]; exact Nat.ne_of_gt (blk_lt (g := gb254) (o := .cells #[.slice A0_0 l0_0.length c0_0] 34 (0, 0)) z8_2_) : gb291 ≠ gb254))
               have n15_ := Aside0.mk ((by rw [hg]; exact Nat.ne_of_lt (blk_lt (g := gb255) (o := .cells #[.slice none 0 0, .slice none 0 0] 36 (0, 0)) z8_3_) : gb255 ≠ gb291))
               have n16_ := Aside0.mk ((by rw [hg]; exact Nat.ne_of_gt (blk_lt (g := gb255) (o := .cells #[.slice none 0 0, .slice none 0 0] 36 (0, 0)) z8_3_) : gb291 ≠ gb255))
               have n17_ := Aside0.mk ((by rw [hg]; exact Nat.ne_of_lt (blk_lt (g := gb268) (o := .cells #[.slice (some ad276) t265.length co23] 34 (0, 0)) z8_5_) : gb268 ≠ gb291))
               have n18_ := Aside0.mk ((by rw [hg]; exact Nat.ne_of_gt (blk_lt (g := gb268) (o := .cells #[.slice (some ad276) t265.length co23] 34 (0, 0)) z8_5_) : gb291 ≠ gb268))
               clear HO_7
               clear HO_269000
               clear HO287
               clear HO290
               clear BK254
               clear BK255
               clear BK268
               clear HR280
               clear HR284
               clear HB
               have HO_7 := n0_
               have HO_269000 := n1_
               have HO287 := n2_
               have HO290 := n3_
               have BK254 := n4_
               have BK255 := n5_
               have BK268 := n6_
               have HR280 := n7_
               have HR284 := n8_
               have HB := n9_
               have BK291 := n10_
               have GW291 := n11_
               have GE291 := n12_
               have NB254_291 := n13_
               have NB291_254 := n14_
               have NB255_291 := n15_
               have NB291_255 := n16_
               have NB268_291 := n17_
               have NB291_268 := n18_
               clear n0_ n1_ n2_ n3_ n4_ n5_ n6_ n7_ n8_ n9_ n10_ n11_ n12_ n13_ n14_ n15_ n16_ n17_ n18_
               clear hb hbox hg
               refine hK.out _ _ trivial (fun hHeld => ?_)
               clear hK K
               refine norm_ (a' := ?_) ?_ ?_
               rotate_left
               ·
                show Act.put _ (some 10) _ = _
                simp only [Act.put, sA_, sB_, sC_, i64_w, i32_w]
                rfl
               exact norm_ z8_21_ (hCont (v286, v289, gb291) _ ⟨z8_16_, z8_15_, z8_10_, z8_18_, z8_2_, z8_3_, z8_5_, z8_14_, GW291.out, GE291.out, NB254_291.out, NB291_254.out, NB255_291.out, NB291_255.out, NB268_291.out, NB291_268.out, z8_4_⟩)
              ·
               skip
               refine box_step ?hg (N := 10) ?hd (cs := #[.slice none 0 0, .slice none 0 0]) (t := 36) ?hr ?_; (case hd => rfl); (case hg => rfl); (case hr => first | (go_simp; done) | (go_simp; rfl))
               intro gb291 hg w53 hbox hb
               have n0_ := Aside0.mk (Kd.R_below z8_8_ hb)
               have n1_ := Aside0.mk (Kd.R_below z8_10_ hb)
               have n2_ := Aside0.mk (blk_below (g := gb254) (o := .cells #[.slice A0_0 l0_0.length c0_0] 34 (0, 0)) z8_2_ hb)
               have n3_ := Aside0.mk (blk_below (g := gb255) (o := .cells #[.slice none 0 0, .slice none 0 0] 36 (0, 0)) z8_3_ hb)
               have n4_ := Aside0.mk (blk_below (g := gb268) (o := .cells #[.slice (some ad276) t265.length co23] 34 (0, 0)) z8_5_ hb)
               have n5_ := Aside0.mk (Kd.C_below z8_7_ hb)
               have n6_ := Aside0.mk (Kd.C_below z8_6_ hb)
               have n7_ := Aside0.mk (below_step z8_1_ hb)
               have n8_ := Aside0.mk (hbox)
               have n9_ := Aside0.mk ((by rw [hg]; exact (below_size z8_1_) : w.heap.size ≤ gb291))
               have n10_ := Aside0.mk ((by rw [hg]; exact (below_size z8_1_) : w.heap.size ≤ gb291))
               have n11_ := Aside0.mk ((by rw [hg]; exact Nat.ne_of_lt (blk_lt (g := gb254) (o := .cells #[.slice A0_0 l0_0.length c0_0] 34 (0, 0)) z8_2_) : gb254 ≠ gb291))
               have n12_ := Aside0.mk ((by rw [hg]; exact Nat.ne_of_gt (blk_lt (g := gb254) (o := .cells #[.slice A0_0 l0_0.length c0_0] 34 (0, 0)) z8_2_) : gb291 ≠ gb254))
               have n13_ := Aside0.mk ((by rw [hg]; exact Nat.ne_of_lt (blk_lt (g := gb255) (o := .cells #[.slice none 0 0, .slice none 0 0] 36 (0, 0)) z8_3_) : gb255 ≠ gb291))
               have n14_ := Aside0.mk ((by rw [hg]; exact Nat.ne_of_gt (blk_lt (g := gb255) (o := .cells #[.slice none 0 0, .slice none 0 0] 36 (0, 0)) z8_3_) : gb291 ≠ gb255))
               have n15_ := Aside0.mk ((by rw [hg]; exact Nat.ne_of_lt (blk_lt (g := gb268) (o := .cells #[.slice (some ad276) t265.length co23] 34 (0, 0)) z8_5_) : gb268 ≠ gb291))
               have n16_ := Aside0.mk ((by rw [hg]; exact Nat.ne_of_gt (blk_lt (g := gb268) (o := .cells #[.slice (some ad276) t265.length co23] 34 (0, 0)) z8_5_) : gb291 ≠ gb268))
               clear HO_7
               clear HO_269000
               clear BK254
               clear BK255
               clear BK268
               clear HR280
               clear HR284
               clear HB
               have HO_7 := n0_
               have HO_269000 := n1_
               have BK254 := n2_
               have BK255 := n3_
               have BK268 := n4_
               have HR280 := n5_
               have HR284 := n6_
               have HB := n7_
               have BK291 := n8_
               have GW291 := n9_
               have GE291 := n10_
               have NB254_291 := n11_
               have NB291_254 := n12_
               have NB255_291 := n13_
               have NB291_255 := n14_
               have NB268_291 := n15_
               have NB291_268 := n16_
               clear n0_ n1_ n2_ n3_ n4_ n5_ n6_ n7_ n8_ n9_ n10_ n11_ n12_ n13_ n14_ n15_ n16_
               clear hb hbox hg
               refine hK.out _ _ trivial (fun hHeld => ?_)
               clear hK K
               refine norm_ (a' := ?_) ?_ ?_
               rotate_left
               ·
                show Act.put _ (some 10) _ = _
                simp only [Act.put, sA_, sB_, sC_, i64_w, i32_w]
                rfl
               refine one_ (i := 6) (N := some 67) #[true, true, true, true, true, true, true, true, false] rfl rfl (one_of HT_.out (by kernel_rfl)) (by decide) (fun K hK => ?_)
               refine goes_ Try.func97 (by kernel_rfl) rfl #[.slice Ao51 y277.length co51, .slice A52 y281.length c52] (by rfl) rfl rfl z8_11_ ?_
               with_reducible refine (spec_l03Normal.calls k2 _ _ y277 _ _ y281 t285 t288 _ ?side1 ?side2 ?side3 ?side4 A43.out).mono ?_
               (case side1 => repeat (first | exact z8_7_ | (with_reducible refine Kd.C_alloc ?_ _) | (with_reducible refine Kd.C_drewN ?_ _) | (with_reducible refine Kd.C_drew ?_)))
               (case side2 => exact HC280.out)
               (case side3 => repeat (first | exact z8_6_ | (with_reducible refine Kd.C_alloc ?_ _) | (with_reducible refine Kd.C_drewN ?_ _) | (with_reducible refine Kd.C_drew ?_)))
               (case side4 => exact HC284.out)
               rintro e w54 ⟨v286, v289, rfl, ho0, ho1, hb⟩
               refine ⟨_, rfl, ?_⟩
               have n0_ := Aside0.mk (Kd.R_mono (Kd.R_told (Kd.R_told (Kd.R_old z8_8_ hb) (Kd.R_base ho0)) (Kd.R_base ho1)) (fun _ h_ => h_.1))
               have n1_ := Aside0.mk (Kd.R_below z8_10_ hb)
               have n2_ := Aside0.mk (Kd.R_lower (Kd.R_new' ho0 (Kd.R_lt z8_8_)) (below_size z8_4_))
               have n3_ := Aside0.mk (Kd.R_lower (Kd.R_new' ho1 (Kd.R_lt z8_8_)) (below_size z8_4_))
               have n4_ := Aside0.mk (blk_below (g := gb254) (o := .cells #[.slice A0_0 l0_0.length c0_0] 34 (0, 0)) z8_2_ hb)
               have n5_ := Aside0.mk (blk_below (g := gb255) (o := .cells #[.slice none 0 0, .slice none 0 0] 36 (0, 0)) z8_3_ hb)
               have n6_ := Aside0.mk (blk_below (g := gb268) (o := .cells #[.slice (some ad276) t265.length co23] 34 (0, 0)) z8_5_ hb)
               have n7_ := Aside0.mk (Kd.C_below z8_7_ hb)
               have n8_ := Aside0.mk (Kd.C_below z8_6_ hb)
               have n9_ := Aside0.mk (blk_below (g := gb291) (o := .cells #[.slice none 0 0, .slice none 0 0] 36 (0, 0)) z8_14_ hb)
               have n10_ := Aside0.mk (below_step z8_4_ hb)
               clear HO_7
               clear HO_269000
               clear BK254
               clear BK255
               clear BK268
               clear HR280
               clear HR284
               clear BK291
               clear HB
               have HO_7 := n0_
               have HO_269000 := n1_
               have HO287 := n2_
               have HO290 := n3_
               have BK254 := n4_
               have BK255 := n5_
               have BK268 := n6_
               have HR280 := n7_
               have HR284 := n8_
               have BK291 := n9_
               have HB := n10_
               clear n0_ n1_ n2_ n3_ n4_ n5_ n6_ n7_ n8_ n9_ n10_
               (try clear hb)
               (try clear hb2)
               (try clear hk)
               (try clear hi)
               (try clear ho0)
               (try clear ho1)
               refine hK.out _ _ trivial (fun hHeld => ?_)
               clear hK K
               refine norm_ (a' := ?_) ?_ ?_
               rotate_left
               ·
                show Act.put _ (some 67) _ = _
                simp only [Act.put, sA_, sB_, sC_, i64_w, i32_w]
                rfl
               exact norm_ z8_21_ (hCont (v286, v289, gb291) _ ⟨z8_16_, z8_15_, z8_10_, z8_18_, z8_2_, z8_3_, z8_5_, z8_14_, GW291.out, GE291.out, NB254_291.out, NB291_254.out, NB255_291.out, NB291_255.out, NB268_291.out, NB291_268.out, z8_4_⟩)
             rintro ⟨v286, v289, gb291⟩ w55 ⟨h0_, h1_, h2_, h3_, h4_, h5_, h6_, h7_, h8_, h9_, h10_, h11_, h12_, h13_, h14_, h15_, h16_⟩
             have n0_ : Aside0 (Kd.R (Kd.int .i8) 86 w55 w.heap.size (fun k_ => some k_ ≠ (v289 : Value).ownBlock ∧ some k_ ≠ (.slice Ao51 x7_2.length co51 : Value).ownBlock) v286 t285) := ⟨h0_⟩
             have n1_ : Aside0 (Kd.R (Kd.int .i8) 86 w55 w.heap.size (fun k_ => some k_ ≠ (v286 : Value).ownBlock ∧ some k_ ≠ (.slice Ao51 x7_2.length co51 : Value).ownBlock) v289 t288) := ⟨h1_⟩
             have n2_ : Aside0 (Kd.R k89 89 w55 w.heap.size (fun _ => True) (.slice (some ad276) t265.length co23) t265) := ⟨h2_⟩
             have n3_ : Aside0 (Kd.R (Kd.int .i8) 86 w55 w.heap.size (fun k_ => some k_ ≠ (v286 : Value).ownBlock ∧ some k_ ≠ (v289 : Value).ownBlock) (.slice Ao51 x7_2.length co51) x7_2) := ⟨h3_⟩
             have n4_ : Aside0 (w55.heap[gb254]? = some (.cells #[.slice A0_0 l0_0.length c0_0] 34 (0, 0))) := ⟨h4_⟩
             have n5_ : Aside0 (w55.heap[gb255]? = some (.cells #[.slice none 0 0, .slice none 0 0] 36 (0, 0))) := ⟨h5_⟩
             have n6_ : Aside0 (w55.heap[gb268]? = some (.cells #[.slice (some ad276) t265.length co23] 34 (0, 0))) := ⟨h6_⟩
             have n7_ : Aside0 (w55.heap[gb291]? = some (.cells #[.slice none 0 0, .slice none 0 0] 36 (0, 0))) := ⟨h7_⟩
             have n8_ : Aside0 (w.heap.size ≤ gb291) := ⟨h8_⟩
             have n9_ : Aside0 (w.heap.size ≤ gb291) := ⟨h9_⟩
             have n10_ : Aside0 (gb254 ≠ gb291) := ⟨h10_⟩
             have n11_ : Aside0 (gb291 ≠ gb254) := ⟨h11_⟩
             have n12_ : Aside0 (gb255 ≠ gb291) := ⟨h12_⟩
             have n13_ : Aside0 (gb291 ≠ gb255) := ⟨h13_⟩
             have n14_ : Aside0 (gb268 ≠ gb291) := ⟨h14_⟩
             have n15_ : Aside0 (gb291 ≠ gb268) := ⟨h15_⟩
             have n16_ : Aside0 (Below w.heap.size w w55) := ⟨h16_⟩
             clear HO_7
             clear HO_269000
             clear BK254
             clear BK255
             clear BK268
             clear HB
             clear h0_ h1_ h2_ h3_ h4_ h5_ h6_ h7_ h8_ h9_ h10_ h11_ h12_ h13_ h14_ h15_ h16_
             have HO287 := n0_
             have HO290 := n1_
             have HO_269000 := n2_
             have HO_7 := n3_
             have BK254 := n4_
             have BK255 := n5_
             have BK268 := n6_
             have BK291 := n7_
             have GW291 := n8_
             have GE291 := n9_
             have NB254_291 := n10_
             have NB291_254 := n11_
             have NB255_291 := n12_
             have NB291_255 := n13_
             have NB268_291 := n14_
             have NB291_268 := n15_
             have HB := n16_
             clear n0_ n1_ n2_ n3_ n4_ n5_ n6_ n7_ n8_ n9_ n10_ n11_ n12_ n13_ n14_ n15_ n16_
             have hHeld := trivial
             obtain ⟨Ao56, co56, eo56⟩ := Kd.R_slice HO287.out
             (first | subst eo56 | (injection eo56 with f1_ f2_ f3_; have f4_ := f1_.symm; have f5_ := f3_.symm; clear f1_ f2_ f3_; subst f4_; subst f5_))
             obtain ⟨Ao58, co58, eo58⟩ := Kd.R_slice HO290.out
             (first | subst eo58 | (injection eo58 with f1_ f2_ f3_; have f4_ := f1_.symm; have f5_ := f3_.symm; clear f1_ f2_ f3_; subst f4_; subst f5_))
             refine norm_ (a' := ?_) ?_ ?_
             rotate_left
             ·
              simp only [putAll, Act.put, sA_, sB_, sC_]
              rfl
             refine one_ (i := 8) (N := none) #[true, true, true, true, true, true, true, true, true] rfl rfl (one_of HT_.out (by kernel_rfl)) (by decide) (fun K hK => ?_)
             have hs57 : w55.cell? ⟨gb291, 0, none⟩ = some (.slice none 0 0) := (blk_cell BK291.out 0).trans rfl
             have hfs57 := blk_frozen BK291.out 0
             have hns57_0 := NB254_291.out
             have hns57_1 := NB255_291.out
             have hns57_2 := NB268_291.out
             have hms57_0 := NB291_254.out
             have hms57_1 := NB291_255.out
             have hms57_2 := NB291_268.out
             have hs59 : w55.cell? ⟨gb291, 1, none⟩ = some (.slice none 0 0) := (blk_cell BK291.out 1).trans rfl
             have hfs59 := blk_frozen BK291.out 1
             have hns59_0 := NB254_291.out
             have hns59_1 := NB255_291.out
             have hns59_2 := NB268_291.out
             have hms59_0 := NB291_254.out
             have hms59_1 := NB291_255.out
             have hms59_2 := NB291_268.out
             refine skip_ (w1 := ?_) (by rfl) rfl ?_ ?_
             rotate_left
             ·
              go_simp
              rfl
             refine hK.out _ _ trivial (fun hHeld => ?_)
             clear hK K
             refine done_ (done_of HT_.out (by kernel_rfl)) ?_
             try go_wp2_with (first | ((with_reducible refine gate_callee (f := 98) rfl ?_); refine goesL_ (some 68) rfl rfl Try.func98 (by kernel_rfl) rfl #[.pointer (some ⟨gb291, 0, none⟩)] rfl z8_11_ ?_; (with_reducible refine (spec_l03Ok.calls k2 _ ([(⟨t285, t288⟩ : S36)]).length [(⟨t285, t288⟩ : S36)] true _ ?side1 ?side2 A44.out).mono ?_); (case side1 => refine Kd.C_block k36 (g := gb291) (cs := #[.slice Ao56 t285.length co56, .slice Ao58 t288.length co58]) (T := 36) (by (with_reducible repeat (first | refine blk_drewN ?_ _ | refine blk_drew ?_ | refine blk_alloc ?_ _)); refine blk_put (cs := #[.slice Ao56 t285.length co56, .slice none 0 0]) ?_ 1 _ rfl; (with_reducible repeat (first | refine blk_drewN ?_ _ | refine blk_drew ?_ | refine blk_alloc ?_ _)); refine blk_put (cs := #[.slice none 0 0, .slice none 0 0]) ?_ 0 _ rfl; (with_reducible repeat (first | refine blk_drewN ?_ _ | refine blk_drew ?_ | refine blk_alloc ?_ _)); exact BK291.out) (show Kd.K k36 _ (⟨t285, t288⟩ : S36) [.slice Ao56 t285.length co56, .slice Ao58 t288.length co58] from k36_mk _ _ (by exact (Kd.R_reads' HO287.out).2.1) (by refine (Kd.R_reads' (e := 86) (base := w.heap.size) (ok := fun k_ => (some k_ ≠ (.slice Ao58 t288.length co58 : Value).ownBlock ∧ some k_ ≠ (.slice Ao51 x7_2.length co51 : Value).ownBlock)) (n := t285.length) (c := co56) ?_).2.2; exact (by (with_reducible repeat (first | apply Kd.R_alloc | apply Kd.R_drewN | apply Kd.R_drew)); exact (Kd.R_mono (Kd.R_far (p := ⟨gb291, 1, none⟩) (Kd.R_far (p := ⟨gb291, 0, none⟩) (Kd.R_types HO287.out BK291.out (by decide)) (fun _ hk => hk.2) (.slice Ao56 t285.length co56)) (fun _ hk => hk.2) (.slice Ao58 t288.length co58)) (fun _ h_ => h_.1)))) (by exact (Kd.R_reads' HO290.out).2.1) (by refine (Kd.R_reads' (e := 86) (base := w.heap.size) (ok := fun k_ => (some k_ ≠ (.slice Ao56 t285.length co56 : Value).ownBlock ∧ some k_ ≠ (.slice Ao51 x7_2.length co51 : Value).ownBlock)) (n := t288.length) (c := co58) ?_).2.2; exact (by (with_reducible repeat (first | apply Kd.R_alloc | apply Kd.R_drewN | apply Kd.R_drew)); exact (Kd.R_mono (Kd.R_far (p := ⟨gb291, 1, none⟩) (Kd.R_far (p := ⟨gb291, 0, none⟩) (Kd.R_types HO290.out BK291.out (by decide)) (fun _ hk => hk.2) (.slice Ao56 t285.length co56)) (fun _ hk => hk.2) (.slice Ao58 t288.length co58)) (fun _ h_ => h_.1))))) (by decide)); (case side2 => exact Nat.le_refl _); rintro e w' ⟨rfl, ⟨nd, rfl⟩⟩; refine ⟨_, rfl, ?_⟩; have hnb60 := NB291_254.out; have hnc60 := NB254_291.out; have hnb61 := NB291_255.out; have hnc61 := NB255_291.out; have hnb62 := NB291_268.out; have hnc62 := NB268_291.out; have hcz63_0 : w55.cell? ⟨gb291, 0, none⟩ = some (.slice none 0 0) := (blk_cell BK291.out 0).trans rfl; have hcz63_1 : w55.cell? ⟨gb291, 1, none⟩ = some (.slice none 0 0) := (blk_cell BK291.out 1).trans rfl; have hfz63_0 := blk_frozen BK291.out 0; have hfz63_1 := blk_frozen BK291.out 1; have hnb64 := NB255_254.out; have hnc64 := NB254_255.out; have hcz65_0 : w55.cell? ⟨gb255, 0, none⟩ = some (.slice none 0 0) := (blk_cell BK255.out 0).trans rfl; have hcz65_1 : w55.cell? ⟨gb255, 1, none⟩ = some (.slice none 0 0) := (blk_cell BK255.out 1).trans rfl; have hfz65_0 := blk_frozen BK255.out 0; have hfz65_1 := blk_frozen BK255.out 1))
             refine bodyPost_ret (results_ct rfl _ _ gb255 36 #[.slice Ao56 t285.length co56, .slice Ao58 t288.length co58] (0, 0) _ rfl (by (with_reducible repeat (first | refine blk_drewN ?_ _ | refine blk_drew ?_ | refine blk_alloc ?_ _)); refine blk_put (cs := #[.slice Ao56 t285.length co56, .slice none 0 0]) ?_ 1 _ rfl; (with_reducible repeat (first | refine blk_drewN ?_ _ | refine blk_drew ?_ | refine blk_alloc ?_ _)); refine blk_put (cs := #[.slice none 0 0, .slice none 0 0]) ?_ 0 _ rfl; (with_reducible repeat (first | refine blk_drewN ?_ _ | refine blk_drew ?_ | refine blk_alloc ?_ _)); refine blk_far ?_ NB255_291.out _; (with_reducible repeat (first | refine blk_drewN ?_ _ | refine blk_drew ?_ | refine blk_alloc ?_ _)); refine blk_far ?_ NB255_291.out _; (with_reducible repeat (first | refine blk_drewN ?_ _ | refine blk_drew ?_ | refine blk_alloc ?_ _)); exact BK255.out) Try.underlying36 rfl (by kernel_rfl)) rfl ?_
             exact ⟨_, _, by first | rfl | (simp [errW_none, errW_some] <;> rfl) | (simp only [← hji36]; first | rfl | (simp [errW_none, errW_some] <;> rfl)) | (simp [*, errW_none, errW_some] <;> rfl), by (with_reducible repeat (first | apply Kd.R_alloc | apply Kd.R_drewN | apply Kd.R_drew)); exact Kd.R_mono (Kd.R_far (p := ⟨gb255, 1, none⟩) (Kd.R_far (p := ⟨gb255, 0, none⟩) (Kd.R_far (p := ⟨gb291, 1, none⟩) (Kd.R_far (p := ⟨gb291, 0, none⟩) (Kd.R_types (Kd.R_types HO287.out BK291.out (by decide)) BK255.out (by decide)) (fun _ hk => hk.1.2) (.slice Ao56 t285.length co56)) (fun _ hk => hk.1.2) (.slice Ao58 t288.length co58)) (fun _ hk => hk.2) (.slice Ao56 t285.length co56)) (fun _ hk => hk.2) (.slice Ao58 t288.length co58)) (fun _ hk => hk.1.1.1), by (with_reducible repeat (first | apply Kd.R_alloc | apply Kd.R_drewN | apply Kd.R_drew)); exact Kd.R_mono (Kd.R_far (p := ⟨gb255, 1, none⟩) (Kd.R_far (p := ⟨gb255, 0, none⟩) (Kd.R_far (p := ⟨gb291, 1, none⟩) (Kd.R_far (p := ⟨gb291, 0, none⟩) (Kd.R_types (Kd.R_types HO290.out BK291.out (by decide)) BK255.out (by decide)) (fun _ hk => hk.1.2) (.slice Ao56 t285.length co56)) (fun _ hk => hk.1.2) (.slice Ao58 t288.length co58)) (fun _ hk => hk.2) (.slice Ao56 t285.length co56)) (fun _ hk => hk.2) (.slice Ao58 t288.length co58)) (fun _ hk => hk.1.1.1), by repeat (first | (with_reducible first | exact HB.out | apply below_alloc | apply pw_below_drewN | apply below_drew1 | refine below_set ?_ GE254.out | refine below_set ?_ GE255.out | refine below_set ?_ GE268.out | refine below_set ?_ GE291.out) | exact HB.out)⟩
            ·
             replace c45 := Bool.eq_false_iff.mpr c45
             subst c45
             have H1 : (some (([] : List Int), ([] : List Int), 3)) = some (r1, r2, r3) := by first | (rw [if_neg (show ¬ (false = true) by decide)] at H; exact H) | rfl
             clear H
             have H := H1
             clear H1
             simp only [Option.some.injEq, Prod.mk.injEq] at H
             obtain ⟨rfl, rfl, rfl⟩ := H
             have hnb66 := NB268_254.out
             have hnc66 := NB254_268.out
             have hnb67 := NB268_255.out
             have hnc67 := NB255_268.out
             have hcz68_0 : wr.cell? ⟨gb268, 0, none⟩ = some (.slice Ao23 t265.length co23) := (blk_cell BK268.out 0).trans rfl
             have hfz68_0 := blk_frozen BK268.out 0
             have p276 : 0 ≤ ((ji36) : Int) := of_decide_eq_true (by assumption)
             have q276 : (ji36) < (t265.length : Int) := of_decide_eq_true (by assumption)
             obtain ⟨ad276, e276, hx276_0, hx276_1, hx276_2, hx276_3, hx276_4⟩ := at_T89 (Kd.R_reads' HO_269000.out).2.2 (ji36) p276 q276
             cases e276
             replace p276 := eq_true p276
             replace q276 := eq_true q276
             try go_wp2
             have n0_ := Aside0.mk (Kd.R_drew HO_7.out)
             have n1_ := Aside0.mk (Kd.R_drew HO_269000.out)
             have n2_ := Aside0.mk (blk_drew BK254.out)
             have n3_ := Aside0.mk (blk_drew BK255.out)
             have n4_ := Aside0.mk (blk_drew BK268.out)
             have n5_ := Aside0.mk (below_drew1 HB.out)
             clear HO_7
             clear HO_269000
             clear BK254
             clear BK255
             clear BK268
             clear HB
             have HO_7 := n0_
             have HO_269000 := n1_
             have BK254 := n2_
             have BK255 := n3_
             have BK268 := n4_
             have HB := n5_
             clear n0_ n1_ n2_ n3_ n4_ n5_
             obtain ⟨Ao71, co71, eo71⟩ := Kd.R_slice HO_7.out
             (first | subst eo71 | (injection eo71 with f1_ f2_ f3_; have f4_ := f1_.symm; have f5_ := f3_.symm; clear f1_ f2_ f3_; subst f4_; subst f5_))
             have q70 : (((rd_T89 t265 (ji36)).f2.f0) : Int) ≤ ((x7_2.length : Int) : Int) := of_decide_eq_true (by assumption)
             obtain ⟨i070, hi070, _, hsz70, _⟩ := info_parts info86
             have hroom70 : x7_2.length ≤ co71 := (Kd.R_reads' HO_7.out).2.1
             have hC70 : Kd.C (Kd.int .i8) _ Ao71 x7_2.length x7_2 := (Kd.R_reads' HO_7.out).2.2
             have hcut70 := cut_to (P := Try.prog) 25 86 .i16 Try.underlying25 hi070 Ao71 x7_2.length co71 ((rd_T89 t265 (ji36)).f2.f0) (of_decide_eq_true (by assumption)) q70 hroom70
             have hr70 := Kd.C_take (m := (((rd_T89 t265 (ji36)).f2.f0) : Int).toNat) hC70 (by omega)
             have hy70 : y277.length = (((rd_T89 t265 (ji36)).f2.f0) : Int).toNat := (by rw [Ny277.out, List.length_take]; omega)
             rw [← Ny277.out] at hr70
             rw [← hy70] at hcut70
             have HR280 := Aside0.mk hr70
             have HC280 := Aside0.mk (show y277.length ≤ co71 from by omega)
             clear hr70 hC70 hroom70 hi070 hsz70
             have KY70 := Aside0.mk hy70
             clear hy70
             have KL70 := Aside0.mk (show (((rd_T89 t265 (ji36)).f2.f0) : Int).toNat ≤ x7_2.length from by omega)
             replace q70 := eq_true q70
             have q72 : (((rd_T89 t265 (ji36)).f2.f0) : Int) ≤ ((x7_2.length : Int) : Int) := of_decide_eq_true (by assumption)
             obtain ⟨i072, hi072, _, hsz72, _⟩ := info_parts info86
             have hroom72 : x7_2.length ≤ co71 := (Kd.R_reads' HO_7.out).2.1
             have hC72 : Kd.C (Kd.int .i8) _ Ao71 x7_2.length x7_2 := (Kd.R_reads' HO_7.out).2.2
             have q072 : (0 : Int) ≤ (((rd_T89 t265 (ji36)).f2.f0) : Int) := of_decide_eq_true (by assumption)
             have hcut72 := cut_from (P := Try.prog) 25 86 .i16 Try.underlying25 hi072 1 hsz72 Ao71 x7_2.length co71 ((rd_T89 t265 (ji36)).f2.f0) q072 q72
             have hr72 := Kd.C_drop (m := (((rd_T89 t265 (ji36)).f2.f0) : Int).toNat) (c := co71) hC72 (by omega) hroom72
             obtain ⟨A72, hA72⟩ : ∃ A1, A1 = (if co71 = (((rd_T89 t265 (ji36)).f2.f0) : Int).toNat then Ao71 else (Ao71 : Option Addr).map (·.add ((((rd_T89 t265 (ji36)).f2.f0) : Int).toNat * 1))) := ⟨_, rfl⟩
             obtain ⟨c72, hc72⟩ : ∃ c1, c1 = co71 - (((rd_T89 t265 (ji36)).f2.f0) : Int).toNat := ⟨_, rfl⟩
             have hy72 : y281.length = x7_2.length - (((rd_T89 t265 (ji36)).f2.f0) : Int).toNat := (by rw [Ny281.out, List.length_drop] <;> omega)
             rw [show (x7_2).drop (((rd_T89 t265 (ji36)).f2.f0) : Int).toNat = y281 from Ny281.out.symm] at hr72
             replace hr72 : Kd.C (Kd.int .i8) _ A72 y281.length y281 := (by rw [hA72]; exact hr72)
             rw [← hy72, ← hA72, ← hc72] at hcut72
             have HR284 := Aside0.mk hr72
             have HC284 := Aside0.mk (show y281.length ≤ c72 from by rw [hy72, hc72]; exact Nat.sub_le_sub_right hroom72 _)
             clear hr72 hC72 hroom72 hi072 hsz72 hc72
             have KY72 := Aside0.mk hy72
             have KA72 := Aside0.mk hA72
             clear hy72 hA72
             have KL72 := Aside0.mk (show (((rd_T89 t265 (ji36)).f2.f0) : Int).toNat ≤ x7_2.length from by omega)
             replace q72 := eq_true q72
             refine start_ (n := 9) (S := fun w' => True) (ds := []) #[false, false, false, false, false, false, false, false, false] (by kernel_rfl) rfl rfl trivial (fun hHeld => ?_); refine with_tabW spec_ConstantOf.tab16 spec_ConstantOf.bits16 (fun HT_ HW_ => ?_)
             generalize wr.drew = w69 at HO_7 HO_269000 BK254 BK255 BK268 HB HR280 HR284 hHeld ⊢
             refine pure_ (i := 0) (N := some 61) (v := ?_) (a' := ?_) #[true, false, false, false, false, false, false, false, false] rfl rfl (any_of HT_.out (by kernel_rfl)) (fun _ _ _ h => h) (Or.inl ⟨by rfl, ?_⟩) ?_ ?_
             rotate_left
             ·
              intro w'
              go_simp
              with_reducible rfl
             rotate_left
             ·
              simp only [Act.put, sA_, sB_, sC_, i64_w, i32_w]
              rfl
             refine pure_ (i := 1) (N := some 62) (v := ?_) (a' := ?_) #[true, true, false, false, false, false, false, false, false] rfl rfl (any_of HT_.out (by kernel_rfl)) (fun _ _ _ h => h) (Or.inl ⟨by rfl, ?_⟩) ?_ ?_
             rotate_left
             ·
              intro w'
              go_simp
              with_reducible rfl
             rotate_left
             ·
              simp only [Act.put, sA_, sB_, sC_, i64_w, i32_w]
              rfl
             refine pure_ (i := 2) (N := some 63) (v := ?_) (a' := ?_) #[true, true, true, false, false, false, false, false, false] rfl rfl (any_of HT_.out (by kernel_rfl)) (fun _ _ _ h => h) (Or.inl ⟨by rfl, ?_⟩) ?_ ?_
             rotate_left
             ·
              intro w'
              go_simp
              with_reducible rfl
             rotate_left
             ·
              simp only [Act.put, sA_, sB_, sC_, i64_w, i32_w]
              rfl
             refine pure_ (i := 3) (N := some 64) (v := ?_) (a' := ?_) #[true, true, true, true, false, false, false, false, false] rfl rfl (any_of HT_.out (by kernel_rfl)) (fun _ _ _ h => h) (Or.inl ⟨by rfl, ?_⟩) ?_ ?_
             rotate_left
             ·
              intro w'
              go_simp
              with_reducible rfl
             rotate_left
             ·
              simp only [Act.put, sA_, sB_, sC_, i64_w, i32_w]
              rfl
             refine pure_ (i := 4) (N := some 65) (v := ?_) (a' := ?_) #[true, true, true, true, true, false, false, false, false] rfl rfl (any_of HT_.out (by kernel_rfl)) (fun _ _ _ h => h) (Or.inl ⟨by rfl, ?_⟩) ?_ ?_
             rotate_left
             ·
              intro w'
              go_simp
              with_reducible rfl
             rotate_left
             ·
              simp only [Act.put, sA_, sB_, sC_, i64_w, i32_w]
              rfl
             refine pure_ (i := 5) (N := some 66) (v := ?_) (a' := ?_) #[true, true, true, true, true, true, false, false, false] rfl rfl (any_of HT_.out (by kernel_rfl)) (fun _ _ _ h => h) (Or.inl ⟨by rfl, ?_⟩) ?_ ?_
             rotate_left
             ·
              intro w'
              go_simp
              with_reducible rfl
             rotate_left
             ·
              simp only [Act.put, sA_, sB_, sC_, i64_w, i32_w]
              rfl
             refine join_ (σ := Value × Value × Nat) 1 #[true, true, true, true, true, true, true, true, false] (fun s_ => [(67, .agg #[s_.1, s_.2.1]), (10, .pointer (some ⟨s_.2.2, 0, none⟩))]) (fun s_ w' => (Kd.R (Kd.int .i8) 86 w' w.heap.size (fun k_ => some k_ ≠ (s_.2.1 : Value).ownBlock ∧ some k_ ≠ (.slice Ao71 x7_2.length co71 : Value).ownBlock) s_.1 t285) ∧ (Kd.R (Kd.int .i8) 86 w' w.heap.size (fun k_ => some k_ ≠ (s_.1 : Value).ownBlock ∧ some k_ ≠ (.slice Ao71 x7_2.length co71 : Value).ownBlock) s_.2.1 t288) ∧ (Kd.R k89 89 w' w.heap.size (fun _ => True) (.slice (some ad276) t265.length co23) t265) ∧ (Kd.R (Kd.int .i8) 86 w' w.heap.size (fun k_ => some k_ ≠ (s_.1 : Value).ownBlock ∧ some k_ ≠ (s_.2.1 : Value).ownBlock) (.slice Ao71 x7_2.length co71) x7_2) ∧ (w'.heap[gb254]? = some (.cells #[.slice A0_0 l0_0.length c0_0] 34 (0, 0))) ∧ (w'.heap[gb255]? = some (.cells #[.slice none 0 0, .slice none 0 0] 36 (0, 0))) ∧ (w'.heap[gb268]? = some (.cells #[.slice (some ad276) t265.length co23] 34 (0, 0))) ∧ (w'.heap[s_.2.2]? = some (.cells #[.slice none 0 0, .slice none 0 0] 36 (0, 0))) ∧ (w.heap.size ≤ s_.2.2) ∧ (w.heap.size ≤ s_.2.2) ∧ (gb254 ≠ s_.2.2) ∧ (s_.2.2 ≠ gb254) ∧ (gb255 ≠ s_.2.2) ∧ (s_.2.2 ≠ gb255) ∧ (gb268 ≠ s_.2.2) ∧ (s_.2.2 ≠ gb268) ∧ (Below w.heap.size w w')) ?_ ?_
             rotate_left
             ·
              intro hCont
              refine two_ (i := 6) (j := 7) (Ni := some 67) (Nj := some 10) #[true, true, true, true, true, true, true, false, false] #[true, true, true, true, true, true, false, true, false] rfl rfl rfl rfl (two_of HT_.out (by kernel_rfl)) (by decide) (by decide) (fun K hK => ?_) (fun K hK => ?_)
              ·
               skip
               refine goes_ Try.func97 (by kernel_rfl) rfl #[.slice Ao71 y277.length co71, .slice A72 y281.length c72] (by rfl) rfl rfl z8_11_ ?_
               with_reducible refine (spec_l03Normal.calls k2 _ _ y277 _ _ y281 t285 t288 _ ?side1 ?side2 ?side3 ?side4 A43.out).mono ?_
               (case side1 => repeat (first | exact z8_7_ | (with_reducible refine Kd.C_alloc ?_ _) | (with_reducible refine Kd.C_drewN ?_ _) | (with_reducible refine Kd.C_drew ?_)))
               (case side2 => exact HC280.out)
               (case side3 => repeat (first | exact z8_6_ | (with_reducible refine Kd.C_alloc ?_ _) | (with_reducible refine Kd.C_drewN ?_ _) | (with_reducible refine Kd.C_drew ?_)))
               (case side4 => exact HC284.out)
               rintro e w73 ⟨v286, v289, rfl, ho0, ho1, hb⟩
               refine ⟨_, rfl, ?_⟩
               have n0_ := Aside0.mk (Kd.R_mono (Kd.R_told (Kd.R_told (Kd.R_old z8_8_ hb) (Kd.R_base ho0)) (Kd.R_base ho1)) (fun _ h_ => h_.1))
               have n1_ := Aside0.mk (Kd.R_below z8_10_ hb)
               have n2_ := Aside0.mk (Kd.R_lower (Kd.R_new' ho0 (Kd.R_lt z8_8_)) (below_size z8_1_))
               have n3_ := Aside0.mk (Kd.R_lower (Kd.R_new' ho1 (Kd.R_lt z8_8_)) (below_size z8_1_))
               have n4_ := Aside0.mk (blk_below (g := gb254) (o := .cells #[.slice A0_0 l0_0.length c0_0] 34 (0, 0)) z8_2_ hb)
               have n5_ := Aside0.mk (blk_below (g := gb255) (o := .cells #[.slice none 0 0, .slice none 0 0] 36 (0, 0)) z8_3_ hb)
               have n6_ := Aside0.mk (blk_below (g := gb268) (o := .cells #[.slice (some ad276) t265.length co23] 34 (0, 0)) z8_5_ hb)
               have n7_ := Aside0.mk (Kd.C_below z8_7_ hb)
               have n8_ := Aside0.mk (Kd.C_below z8_6_ hb)
               have n9_ := Aside0.mk (below_step z8_1_ hb)
               clear HO_7
               clear HO_269000
               clear BK254
               clear BK255
               clear BK268
               clear HR280
               clear HR284
               clear HB
               have HO_7 := n0_
               have HO_269000 := n1_
               have HO287 := n2_
               have HO290 := n3_
               have BK254 := n4_
               have BK255 := n5_
               have BK268 := n6_
               have HR280 := n7_
               have HR284 := n8_
               have HB := n9_
               clear n0_ n1_ n2_ n3_ n4_ n5_ n6_ n7_ n8_ n9_
               (try clear hb)
               (try clear hb2)
               (try clear hk)
               (try clear hi)
               (try clear ho0)
               (try clear ho1)
               refine hK.out _ _ trivial (fun hHeld => ?_)
               clear hK K
               refine norm_ (a' := ?_) ?_ ?_
               rotate_left
               ·
                show Act.put _ (some 67) _ = _
                simp only [Act.put, sA_, sB_, sC_, i64_w, i32_w]
                rfl
               refine one_ (i := 7) (N := some 10) #[true, true, true, true, true, true, true, true, false] rfl rfl (one_of HT_.out (by kernel_rfl)) (by decide) (fun K hK => ?_)
               refine box_step ?hg (N := 10) ?hd (cs := #[.slice none 0 0, .slice none 0 0]) (t := 36) ?hr ?_; (case hd => rfl); (case hg => rfl); (case hr => first | (go_simp; done) | (go_simp; rfl))
               intro gb291 hg w74 hbox hb
               have n0_ := Aside0.mk (Kd.R_below z8_8_ hb)
               have n1_ := Aside0.mk (Kd.R_below z8_10_ hb)
               have n2_ := Aside0.mk (Kd.R_below z8_16_ hb)
               have n3_ := Aside0.mk (Kd.R_below z8_15_ hb)
               have n4_ := Aside0.mk (blk_below (g := gb254) (o := .cells #[.slice A0_0 l0_0.length c0_0] 34 (0, 0)) z8_2_ hb)
               have n5_ := Aside0.mk (blk_below (g := gb255) (o := .cells #[.slice none 0 0, .slice none 0 0] 36 (0, 0)) z8_3_ hb)
               have n6_ := Aside0.mk (blk_below (g := gb268) (o := .cells #[.slice (some ad276) t265.length co23] 34 (0, 0)) z8_5_ hb)
               have n7_ := Aside0.mk (Kd.C_below z8_7_ hb)
               have n8_ := Aside0.mk (Kd.C_below z8_6_ hb)
               have n9_ := Aside0.mk (below_step z8_1_ hb)
               have n10_ := Aside0.mk (hbox)
               have n11_ := Aside0.mk ((by rw [hg]; exact (below_size z8_1_) : w.heap.size ≤ gb291))
               have n12_ := Aside0.mk ((by rw [hg]; exact (below_size z8_1_) : w.heap.size ≤ gb291))
               have n13_ := Aside0.mk ((by rw [hg]; exact Nat.ne_of_lt (blk_lt (g := gb254) (o := .cells #[.slice A0_0 l0_0.length c0_0] 34 (0, 0)) z8_2_) : gb254 ≠ gb291))
               have n14_ := Aside0.mk ((by rw [hg]; exact Nat.ne_of_gt (blk_lt (g := gb254) (o := .cells #[.slice A0_0 l0_0.length c0_0] 34 (0, 0)) z8_2_) : gb291 ≠ gb254))
               have n15_ := Aside0.mk ((by rw [hg]; exact Nat.ne_of_lt (blk_lt (g := gb255) (o := .cells #[.slice none 0 0, .slice none 0 0] 36 (0, 0)) z8_3_) : gb255 ≠ gb291))
               have n16_ := Aside0.mk ((by rw [hg]; exact Nat.ne_of_gt (blk_lt (g := gb255) (o := .cells #[.slice none 0 0, .slice none 0 0] 36 (0, 0)) z8_3_) : gb291 ≠ gb255))
               have n17_ := Aside0.mk ((by rw [hg]; exact Nat.ne_of_lt (blk_lt (g := gb268) (o := .cells #[.slice (some ad276) t265.length co23] 34 (0, 0)) z8_5_) : gb268 ≠ gb291))
               have n18_ := Aside0.mk ((by rw [hg]; exact Nat.ne_of_gt (blk_lt (g := gb268) (o := .cells #[.slice (some ad276) t265.length co23] 34 (0, 0)) z8_5_) : gb291 ≠ gb268))
               clear HO_7
               clear HO_269000
               clear HO287
               clear HO290
               clear BK254
               clear BK255
               clear BK268
               clear HR280
               clear HR284
               clear HB
               have HO_7 := n0_
               have HO_269000 := n1_
               have HO287 := n2_
               have HO290 := n3_
               have BK254 := n4_
               have BK255 := n5_
               have BK268 := n6_
               have HR280 := n7_
               have HR284 := n8_
               have HB := n9_
               have BK291 := n10_
               have GW291 := n11_
               have GE291 := n12_
               have NB254_291 := n13_
               have NB291_254 := n14_
               have NB255_291 := n15_
               have NB291_255 := n16_
               have NB268_291 := n17_
               have NB291_268 := n18_
               clear n0_ n1_ n2_ n3_ n4_ n5_ n6_ n7_ n8_ n9_ n10_ n11_ n12_ n13_ n14_ n15_ n16_ n17_ n18_
               clear hb hbox hg
               refine hK.out _ _ trivial (fun hHeld => ?_)
               clear hK K
               refine norm_ (a' := ?_) ?_ ?_
               rotate_left
               ·
                show Act.put _ (some 10) _ = _
                simp only [Act.put, sA_, sB_, sC_, i64_w, i32_w]
                rfl
               exact norm_ z8_21_ (hCont (v286, v289, gb291) _ ⟨z8_16_, z8_15_, z8_10_, z8_18_, z8_2_, z8_3_, z8_5_, z8_14_, GW291.out, GE291.out, NB254_291.out, NB291_254.out, NB255_291.out, NB291_255.out, NB268_291.out, NB291_268.out, z8_4_⟩)
              ·
               skip
               refine box_step ?hg (N := 10) ?hd (cs := #[.slice none 0 0, .slice none 0 0]) (t := 36) ?hr ?_; (case hd => rfl); (case hg => rfl); (case hr => first | (go_simp; done) | (go_simp; rfl))
               intro gb291 hg w73 hbox hb
               have n0_ := Aside0.mk (Kd.R_below z8_8_ hb)
               have n1_ := Aside0.mk (Kd.R_below z8_10_ hb)
               have n2_ := Aside0.mk (blk_below (g := gb254) (o := .cells #[.slice A0_0 l0_0.length c0_0] 34 (0, 0)) z8_2_ hb)
               have n3_ := Aside0.mk (blk_below (g := gb255) (o := .cells #[.slice none 0 0, .slice none 0 0] 36 (0, 0)) z8_3_ hb)
               have n4_ := Aside0.mk (blk_below (g := gb268) (o := .cells #[.slice (some ad276) t265.length co23] 34 (0, 0)) z8_5_ hb)
               have n5_ := Aside0.mk (Kd.C_below z8_7_ hb)
               have n6_ := Aside0.mk (Kd.C_below z8_6_ hb)
               have n7_ := Aside0.mk (below_step z8_1_ hb)
               have n8_ := Aside0.mk (hbox)
               have n9_ := Aside0.mk ((by rw [hg]; exact (below_size z8_1_) : w.heap.size ≤ gb291))
               have n10_ := Aside0.mk ((by rw [hg]; exact (below_size z8_1_) : w.heap.size ≤ gb291))
               have n11_ := Aside0.mk ((by rw [hg]; exact Nat.ne_of_lt (blk_lt (g := gb254) (o := .cells #[.slice A0_0 l0_0.length c0_0] 34 (0, 0)) z8_2_) : gb254 ≠ gb291))
               have n12_ := Aside0.mk ((by rw [hg]; exact Nat.ne_of_gt (blk_lt (g := gb254) (o := .cells #[.slice A0_0 l0_0.length c0_0] 34 (0, 0)) z8_2_) : gb291 ≠ gb254))
               have n13_ := Aside0.mk ((by rw [hg]; exact Nat.ne_of_lt (blk_lt (g := gb255) (o := .cells #[.slice none 0 0, .slice none 0 0] 36 (0, 0)) z8_3_) : gb255 ≠ gb291))
               have n14_ := Aside0.mk ((by rw [hg]; exact Nat.ne_of_gt (blk_lt (g := gb255) (o := .cells #[.slice none 0 0, .slice none 0 0] 36 (0, 0)) z8_3_) : gb291 ≠ gb255))
               have n15_ := Aside0.mk ((by rw [hg]; exact Nat.ne_of_lt (blk_lt (g := gb268) (o := .cells #[.slice (some ad276) t265.length co23] 34 (0, 0)) z8_5_) : gb268 ≠ gb291))
               have n16_ := Aside0.mk ((by rw [hg]; exact Nat.ne_of_gt (blk_lt (g := gb268) (o := .cells #[.slice (some ad276) t265.length co23] 34 (0, 0)) z8_5_) : gb291 ≠ gb268))
               clear HO_7
               clear HO_269000
               clear BK254
               clear BK255
               clear BK268
               clear HR280
               clear HR284
               clear HB
               have HO_7 := n0_
               have HO_269000 := n1_
               have BK254 := n2_
               have BK255 := n3_
               have BK268 := n4_
               have HR280 := n5_
               have HR284 := n6_
               have HB := n7_
               have BK291 := n8_
               have GW291 := n9_
               have GE291 := n10_
               have NB254_291 := n11_
               have NB291_254 := n12_
               have NB255_291 := n13_
               have NB291_255 := n14_
               have NB268_291 := n15_
               have NB291_268 := n16_
               clear n0_ n1_ n2_ n3_ n4_ n5_ n6_ n7_ n8_ n9_ n10_ n11_ n12_ n13_ n14_ n15_ n16_
               clear hb hbox hg
               refine hK.out _ _ trivial (fun hHeld => ?_)
               clear hK K
               refine norm_ (a' := ?_) ?_ ?_
               rotate_left
               ·
                show Act.put _ (some 10) _ = _
                simp only [Act.put, sA_, sB_, sC_, i64_w, i32_w]
                rfl
               refine one_ (i := 6) (N := some 67) #[true, true, true, true, true, true, true, true, false] rfl rfl (one_of HT_.out (by kernel_rfl)) (by decide) (fun K hK => ?_)
               refine goes_ Try.func97 (by kernel_rfl) rfl #[.slice Ao71 y277.length co71, .slice A72 y281.length c72] (by rfl) rfl rfl z8_11_ ?_
               with_reducible refine (spec_l03Normal.calls k2 _ _ y277 _ _ y281 t285 t288 _ ?side1 ?side2 ?side3 ?side4 A43.out).mono ?_
               (case side1 => repeat (first | exact z8_7_ | (with_reducible refine Kd.C_alloc ?_ _) | (with_reducible refine Kd.C_drewN ?_ _) | (with_reducible refine Kd.C_drew ?_)))
               (case side2 => exact HC280.out)
               (case side3 => repeat (first | exact z8_6_ | (with_reducible refine Kd.C_alloc ?_ _) | (with_reducible refine Kd.C_drewN ?_ _) | (with_reducible refine Kd.C_drew ?_)))
               (case side4 => exact HC284.out)
               rintro e w74 ⟨v286, v289, rfl, ho0, ho1, hb⟩
               refine ⟨_, rfl, ?_⟩
               have n0_ := Aside0.mk (Kd.R_mono (Kd.R_told (Kd.R_told (Kd.R_old z8_8_ hb) (Kd.R_base ho0)) (Kd.R_base ho1)) (fun _ h_ => h_.1))
               have n1_ := Aside0.mk (Kd.R_below z8_10_ hb)
               have n2_ := Aside0.mk (Kd.R_lower (Kd.R_new' ho0 (Kd.R_lt z8_8_)) (below_size z8_4_))
               have n3_ := Aside0.mk (Kd.R_lower (Kd.R_new' ho1 (Kd.R_lt z8_8_)) (below_size z8_4_))
               have n4_ := Aside0.mk (blk_below (g := gb254) (o := .cells #[.slice A0_0 l0_0.length c0_0] 34 (0, 0)) z8_2_ hb)
               have n5_ := Aside0.mk (blk_below (g := gb255) (o := .cells #[.slice none 0 0, .slice none 0 0] 36 (0, 0)) z8_3_ hb)
               have n6_ := Aside0.mk (blk_below (g := gb268) (o := .cells #[.slice (some ad276) t265.length co23] 34 (0, 0)) z8_5_ hb)
               have n7_ := Aside0.mk (Kd.C_below z8_7_ hb)
               have n8_ := Aside0.mk (Kd.C_below z8_6_ hb)
               have n9_ := Aside0.mk (blk_below (g := gb291) (o := .cells #[.slice none 0 0, .slice none 0 0] 36 (0, 0)) z8_14_ hb)
               have n10_ := Aside0.mk (below_step z8_4_ hb)
               clear HO_7
               clear HO_269000
               clear BK254
               clear BK255
               clear BK268
               clear HR280
               clear HR284
               clear BK291
               clear HB
               have HO_7 := n0_
               have HO_269000 := n1_
               have HO287 := n2_
               have HO290 := n3_
               have BK254 := n4_
               have BK255 := n5_
               have BK268 := n6_
               have HR280 := n7_
               have HR284 := n8_
               have BK291 := n9_
               have HB := n10_
               clear n0_ n1_ n2_ n3_ n4_ n5_ n6_ n7_ n8_ n9_ n10_
               (try clear hb)
               (try clear hb2)
               (try clear hk)
               (try clear hi)
               (try clear ho0)
               (try clear ho1)
               refine hK.out _ _ trivial (fun hHeld => ?_)
               clear hK K
               refine norm_ (a' := ?_) ?_ ?_
               rotate_left
               ·
                show Act.put _ (some 67) _ = _
                simp only [Act.put, sA_, sB_, sC_, i64_w, i32_w]
                rfl
               exact norm_ z8_21_ (hCont (v286, v289, gb291) _ ⟨z8_16_, z8_15_, z8_10_, z8_18_, z8_2_, z8_3_, z8_5_, z8_14_, GW291.out, GE291.out, NB254_291.out, NB291_254.out, NB255_291.out, NB291_255.out, NB268_291.out, NB291_268.out, z8_4_⟩)
             rintro ⟨v286, v289, gb291⟩ w75 ⟨h0_, h1_, h2_, h3_, h4_, h5_, h6_, h7_, h8_, h9_, h10_, h11_, h12_, h13_, h14_, h15_, h16_⟩
             have n0_ : Aside0 (Kd.R (Kd.int .i8) 86 w75 w.heap.size (fun k_ => some k_ ≠ (v289 : Value).ownBlock ∧ some k_ ≠ (.slice Ao71 x7_2.length co71 : Value).ownBlock) v286 t285) := ⟨h0_⟩
             have n1_ : Aside0 (Kd.R (Kd.int .i8) 86 w75 w.heap.size (fun k_ => some k_ ≠ (v286 : Value).ownBlock ∧ some k_ ≠ (.slice Ao71 x7_2.length co71 : Value).ownBlock) v289 t288) := ⟨h1_⟩
             have n2_ : Aside0 (Kd.R k89 89 w75 w.heap.size (fun _ => True) (.slice (some ad276) t265.length co23) t265) := ⟨h2_⟩
             have n3_ : Aside0 (Kd.R (Kd.int .i8) 86 w75 w.heap.size (fun k_ => some k_ ≠ (v286 : Value).ownBlock ∧ some k_ ≠ (v289 : Value).ownBlock) (.slice Ao71 x7_2.length co71) x7_2) := ⟨h3_⟩
             have n4_ : Aside0 (w75.heap[gb254]? = some (.cells #[.slice A0_0 l0_0.length c0_0] 34 (0, 0))) := ⟨h4_⟩
             have n5_ : Aside0 (w75.heap[gb255]? = some (.cells #[.slice none 0 0, .slice none 0 0] 36 (0, 0))) := ⟨h5_⟩
             have n6_ : Aside0 (w75.heap[gb268]? = some (.cells #[.slice (some ad276) t265.length co23] 34 (0, 0))) := ⟨h6_⟩
             have n7_ : Aside0 (w75.heap[gb291]? = some (.cells #[.slice none 0 0, .slice none 0 0] 36 (0, 0))) := ⟨h7_⟩
             have n8_ : Aside0 (w.heap.size ≤ gb291) := ⟨h8_⟩
             have n9_ : Aside0 (w.heap.size ≤ gb291) := ⟨h9_⟩
             have n10_ : Aside0 (gb254 ≠ gb291) := ⟨h10_⟩
             have n11_ : Aside0 (gb291 ≠ gb254) := ⟨h11_⟩
             have n12_ : Aside0 (gb255 ≠ gb291) := ⟨h12_⟩
             have n13_ : Aside0 (gb291 ≠ gb255) := ⟨h13_⟩
             have n14_ : Aside0 (gb268 ≠ gb291) := ⟨h14_⟩
             have n15_ : Aside0 (gb291 ≠ gb268) := ⟨h15_⟩
             have n16_ : Aside0 (Below w.heap.size w w75) := ⟨h16_⟩
             clear HO_7
             clear HO_269000
             clear BK254
             clear BK255
             clear BK268
             clear HB
             clear h0_ h1_ h2_ h3_ h4_ h5_ h6_ h7_ h8_ h9_ h10_ h11_ h12_ h13_ h14_ h15_ h16_
             have HO287 := n0_
             have HO290 := n1_
             have HO_269000 := n2_
             have HO_7 := n3_
             have BK254 := n4_
             have BK255 := n5_
             have BK268 := n6_
             have BK291 := n7_
             have GW291 := n8_
             have GE291 := n9_
             have NB254_291 := n10_
             have NB291_254 := n11_
             have NB255_291 := n12_
             have NB291_255 := n13_
             have NB268_291 := n14_
             have NB291_268 := n15_
             have HB := n16_
             clear n0_ n1_ n2_ n3_ n4_ n5_ n6_ n7_ n8_ n9_ n10_ n11_ n12_ n13_ n14_ n15_ n16_
             have hHeld := trivial
             obtain ⟨Ao76, co76, eo76⟩ := Kd.R_slice HO287.out
             (first | subst eo76 | (injection eo76 with f1_ f2_ f3_; have f4_ := f1_.symm; have f5_ := f3_.symm; clear f1_ f2_ f3_; subst f4_; subst f5_))
             obtain ⟨Ao78, co78, eo78⟩ := Kd.R_slice HO290.out
             (first | subst eo78 | (injection eo78 with f1_ f2_ f3_; have f4_ := f1_.symm; have f5_ := f3_.symm; clear f1_ f2_ f3_; subst f4_; subst f5_))
             refine norm_ (a' := ?_) ?_ ?_
             rotate_left
             ·
              simp only [putAll, Act.put, sA_, sB_, sC_]
              rfl
             refine one_ (i := 8) (N := none) #[true, true, true, true, true, true, true, true, true] rfl rfl (one_of HT_.out (by kernel_rfl)) (by decide) (fun K hK => ?_)
             have hs77 : w75.cell? ⟨gb291, 0, none⟩ = some (.slice none 0 0) := (blk_cell BK291.out 0).trans rfl
             have hfs77 := blk_frozen BK291.out 0
             have hns77_0 := NB254_291.out
             have hns77_1 := NB255_291.out
             have hns77_2 := NB268_291.out
             have hms77_0 := NB291_254.out
             have hms77_1 := NB291_255.out
             have hms77_2 := NB291_268.out
             have hs79 : w75.cell? ⟨gb291, 1, none⟩ = some (.slice none 0 0) := (blk_cell BK291.out 1).trans rfl
             have hfs79 := blk_frozen BK291.out 1
             have hns79_0 := NB254_291.out
             have hns79_1 := NB255_291.out
             have hns79_2 := NB268_291.out
             have hms79_0 := NB291_254.out
             have hms79_1 := NB291_255.out
             have hms79_2 := NB291_268.out
             refine skip_ (w1 := ?_) (by rfl) rfl ?_ ?_
             rotate_left
             ·
              go_simp
              rfl
             refine hK.out _ _ trivial (fun hHeld => ?_)
             clear hK K
             refine done_ (done_of HT_.out (by kernel_rfl)) ?_
             try go_wp2_with (first | ((with_reducible refine gate_callee (f := 98) rfl ?_); refine goesL_ (some 68) rfl rfl Try.func98 (by kernel_rfl) rfl #[.pointer (some ⟨gb291, 0, none⟩)] rfl z8_11_ ?_; (with_reducible refine (spec_l03Ok.calls k2 _ ([(⟨t285, t288⟩ : S36)]).length [(⟨t285, t288⟩ : S36)] false _ ?side1 ?side2 A44.out).mono ?_); (case side1 => refine Kd.C_block k36 (g := gb291) (cs := #[.slice Ao76 t285.length co76, .slice Ao78 t288.length co78]) (T := 36) (by (with_reducible repeat (first | refine blk_drewN ?_ _ | refine blk_drew ?_ | refine blk_alloc ?_ _)); refine blk_put (cs := #[.slice Ao76 t285.length co76, .slice none 0 0]) ?_ 1 _ rfl; (with_reducible repeat (first | refine blk_drewN ?_ _ | refine blk_drew ?_ | refine blk_alloc ?_ _)); refine blk_put (cs := #[.slice none 0 0, .slice none 0 0]) ?_ 0 _ rfl; (with_reducible repeat (first | refine blk_drewN ?_ _ | refine blk_drew ?_ | refine blk_alloc ?_ _)); exact BK291.out) (show Kd.K k36 _ (⟨t285, t288⟩ : S36) [.slice Ao76 t285.length co76, .slice Ao78 t288.length co78] from k36_mk _ _ (by exact (Kd.R_reads' HO287.out).2.1) (by refine (Kd.R_reads' (e := 86) (base := w.heap.size) (ok := fun k_ => (some k_ ≠ (.slice Ao78 t288.length co78 : Value).ownBlock ∧ some k_ ≠ (.slice Ao71 x7_2.length co71 : Value).ownBlock)) (n := t285.length) (c := co76) ?_).2.2; exact (by (with_reducible repeat (first | apply Kd.R_alloc | apply Kd.R_drewN | apply Kd.R_drew)); exact (Kd.R_mono (Kd.R_far (p := ⟨gb291, 1, none⟩) (Kd.R_far (p := ⟨gb291, 0, none⟩) (Kd.R_types HO287.out BK291.out (by decide)) (fun _ hk => hk.2) (.slice Ao76 t285.length co76)) (fun _ hk => hk.2) (.slice Ao78 t288.length co78)) (fun _ h_ => h_.1)))) (by exact (Kd.R_reads' HO290.out).2.1) (by refine (Kd.R_reads' (e := 86) (base := w.heap.size) (ok := fun k_ => (some k_ ≠ (.slice Ao76 t285.length co76 : Value).ownBlock ∧ some k_ ≠ (.slice Ao71 x7_2.length co71 : Value).ownBlock)) (n := t288.length) (c := co78) ?_).2.2; exact (by (with_reducible repeat (first | apply Kd.R_alloc | apply Kd.R_drewN | apply Kd.R_drew)); exact (Kd.R_mono (Kd.R_far (p := ⟨gb291, 1, none⟩) (Kd.R_far (p := ⟨gb291, 0, none⟩) (Kd.R_types HO290.out BK291.out (by decide)) (fun _ hk => hk.2) (.slice Ao76 t285.length co76)) (fun _ hk => hk.2) (.slice Ao78 t288.length co78)) (fun _ h_ => h_.1))))) (by decide)); (case side2 => exact Nat.le_refl _); rintro e w' ⟨rfl, ⟨nd, rfl⟩⟩; refine ⟨_, rfl, ?_⟩; have hnb80 := NB255_254.out; have hnc80 := NB254_255.out; have hnb81 := NB255_291.out; have hnc81 := NB291_255.out; have hcz82_0 : w75.cell? ⟨gb255, 0, none⟩ = some (.slice none 0 0) := (blk_cell BK255.out 0).trans rfl; have hcz82_1 : w75.cell? ⟨gb255, 1, none⟩ = some (.slice none 0 0) := (blk_cell BK255.out 1).trans rfl; have hfz82_0 := blk_frozen BK255.out 0; have hfz82_1 := blk_frozen BK255.out 1))
             refine bodyPost_ret (results_ct rfl _ _ gb255 36 #[.slice none 0 0, .slice none 0 0] (0, 0) _ rfl (by (with_reducible repeat (first | refine blk_drewN ?_ _ | refine blk_drew ?_ | refine blk_alloc ?_ _)); refine blk_put (cs := #[.slice none 0 0, .slice none 0 0]) ?_ 1 _ rfl; (with_reducible repeat (first | refine blk_drewN ?_ _ | refine blk_drew ?_ | refine blk_alloc ?_ _)); refine blk_put (cs := #[.slice none 0 0, .slice none 0 0]) ?_ 0 _ rfl; (with_reducible repeat (first | refine blk_drewN ?_ _ | refine blk_drew ?_ | refine blk_alloc ?_ _)); refine blk_far ?_ NB255_291.out _; (with_reducible repeat (first | refine blk_drewN ?_ _ | refine blk_drew ?_ | refine blk_alloc ?_ _)); refine blk_far ?_ NB255_291.out _; (with_reducible repeat (first | refine blk_drewN ?_ _ | refine blk_drew ?_ | refine blk_alloc ?_ _)); exact BK255.out) Try.underlying36 rfl (by kernel_rfl)) rfl ?_
             exact ⟨_, _, by first | rfl | (simp [errW_none, errW_some] <;> rfl) | (simp only [← hji36]; first | rfl | (simp [errW_none, errW_some] <;> rfl)) | (simp [*, errW_none, errW_some] <;> rfl), by first | exact Kd.R_nil _ _ _ _ _ | exact Kd.N_nil _ _ _ _ _ | exact Kd.V_nil _ _ _ _ _ | exact Kd.Q_nil _ _ _ _ _ | exact Kd.S_nil _ _ _ _ _, by first | exact Kd.R_nil _ _ _ _ _ | exact Kd.N_nil _ _ _ _ _ | exact Kd.V_nil _ _ _ _ _ | exact Kd.Q_nil _ _ _ _ _ | exact Kd.S_nil _ _ _ _ _, by repeat (first | (with_reducible first | exact HB.out | apply below_alloc | apply pw_below_drewN | apply below_drew1 | refine below_set ?_ GE254.out | refine below_set ?_ GE255.out | refine below_set ?_ GE268.out | refine below_set ?_ GE291.out) | exact HB.out)⟩
           ·
            rw [if_neg c40] at H
            exact absurd H (by simp)
          ·
           rw [if_neg c39] at H
           exact absurd H (by simp)
         ·
          rw [if_neg c38] at H
          exact absurd H (by simp)
        ·
         rw [if_neg c37] at H
         exact absurd H (by simp)
 ·
  replace c3 := Bool.eq_false_iff.mpr c3
  subst c3
  have H1 : (some (([] : List Int), ([] : List Int), 1)) = some (r1, r2, r3) := by first | (rw [if_neg (show ¬ (false = true) by decide)] at H; exact H) | rfl
  clear H
  have H := H1
  clear H1
  simp only [Option.some.injEq, Prod.mk.injEq] at H
  obtain ⟨rfl, rfl, rfl⟩ := H
  go_enter Try.func43, Try.ntmps43
  go_wp2_with (first | ((with_reducible refine gate_dst (N := 1) rfl ?_); refine box_event ?hg (N := 1) ?hd (cs := #[.slice A0_0 l0_0.length c0_0]) (t := 34) ?hr ?_; (case hd => rfl); (case hg => rfl); (case hr => first | (go_simp; done) | (go_simp; rfl)); intro gb254 hg w83 hbox hb; have n0_ := Aside0.mk (below_step z8_13_ hb); have n1_ := Aside0.mk (hbox); have n2_ := Aside0.mk ((by rw [hg]; exact (below_size z8_13_) : w.heap.size ≤ gb254)); have n3_ := Aside0.mk ((by rw [hg]; exact (below_size z8_13_) : w.heap.size ≤ gb254)); clear HB; have HB := n0_; have BK254 := n1_; have GW254 := n2_; have GE254 := n3_; clear n0_ n1_ n2_ n3_; clear hb hbox hg) | ((with_reducible refine gate_dst (N := 2) rfl ?_); refine box_event ?hg (N := 2) ?hd (cs := #[.slice none 0 0, .slice none 0 0]) (t := 36) ?hr ?_; (case hd => rfl); (case hg => rfl); (case hr => first | (go_simp; done) | (go_simp; rfl)); intro gb255 hg w84 hbox hb; have n0_ := Aside0.mk (blk_below (g := gb254) (o := .cells #[.slice A0_0 l0_0.length c0_0] 34 (0, 0)) z8_2_ hb); have n1_ := Aside0.mk (below_step z8_12_ hb); have n2_ := Aside0.mk (hbox); have n3_ := Aside0.mk ((by rw [hg]; exact (below_size z8_12_) : w.heap.size ≤ gb255)); have n4_ := Aside0.mk ((by rw [hg]; exact (below_size z8_12_) : w.heap.size ≤ gb255)); have n5_ := Aside0.mk ((by rw [hg]; exact Nat.ne_of_lt (blk_lt (g := gb254) (o := .cells #[.slice A0_0 l0_0.length c0_0] 34 (0, 0)) z8_2_) : gb254 ≠ gb255)); have n6_ := Aside0.mk ((by rw [hg]; exact Nat.ne_of_gt (blk_lt (g := gb254) (o := .cells #[.slice A0_0 l0_0.length c0_0] 34 (0, 0)) z8_2_) : gb255 ≠ gb254)); clear BK254; clear HB; have BK254 := n0_; have HB := n1_; have BK255 := n2_; have GW255 := n3_; have GE255 := n4_; have NB254_255 := n5_; have NB255_254 := n6_; clear n0_ n1_ n2_ n3_ n4_ n5_ n6_; clear hb hbox hg) | ((with_reducible refine gate_callee (f := 66) rfl ?_); refine goesL_ (some 11) rfl rfl Try.func66 (by kernel_rfl) rfl #[.pointer (some ⟨gb254, 0, none⟩)] rfl z8_11_ ?_; (with_reducible refine (spec_l06Ok.calls k _ ([(⟨l0_0⟩ : S34)]).length [(⟨l0_0⟩ : S34)] false _ ?side1 ?side2 A2.out).mono ?_); (case side1 => refine Kd.C_block k34 (g := gb254) (cs := #[.slice A0_0 l0_0.length c0_0]) (T := 34) z8_2_ (show Kd.K k34 _ (⟨l0_0⟩ : S34) [.slice A0_0 l0_0.length c0_0] from k34_mk _ _ (by exact HC0_0.out) z8_19_) (by decide)); (case side2 => exact Nat.le_refl _); rintro e w' ⟨rfl, ⟨nd, rfl⟩⟩; refine ⟨_, rfl, ?_⟩; (try (rw [drewN_self w84]; generalize hq_ : World.drewN w84 _ = w84; have n0_ : Aside0 (w84.heap[gb254]? = some (.cells #[.slice A0_0 l0_0.length c0_0] 34 (0, 0))) := ⟨by rw [← hq_]; exact z8_2_⟩; have n1_ : Aside0 (w84.heap[gb255]? = some (.cells #[.slice none 0 0, .slice none 0 0] 36 (0, 0))) := ⟨by rw [← hq_]; exact z8_3_⟩; have n2_ : Aside0 (Below w.heap.size w w84) := ⟨by rw [← hq_]; exact z8_9_⟩; clear BK254 BK255 HB hq_; have BK254 := n0_; have BK255 := n1_; have HB := n2_; clear n0_ n1_ n2_)); have hnb85 := NB255_254.out; have hnc85 := NB254_255.out; have hcz86_0 : w84.cell? ⟨gb255, 0, none⟩ = some (.slice none 0 0) := (blk_cell BK255.out 0).trans rfl; have hcz86_1 : w84.cell? ⟨gb255, 1, none⟩ = some (.slice none 0 0) := (blk_cell BK255.out 1).trans rfl; have hfz86_0 := blk_frozen BK255.out 0; have hfz86_1 := blk_frozen BK255.out 1))
  refine bodyPost_ret (results_ct rfl _ _ gb255 36 #[.slice none 0 0, .slice none 0 0] (0, 0) _ rfl z8_17_ Try.underlying36 rfl (by kernel_rfl)) rfl ?_
  exact ⟨_, _, by first | rfl | (simp [errW_none, errW_some] <;> rfl) | (simp [*, errW_none, errW_some] <;> rfl), by first | exact Kd.R_nil _ _ _ _ _ | exact Kd.N_nil _ _ _ _ _ | exact Kd.V_nil _ _ _ _ _ | exact Kd.Q_nil _ _ _ _ _ | exact Kd.S_nil _ _ _ _ _, by first | exact Kd.R_nil _ _ _ _ _ | exact Kd.N_nil _ _ _ _ _ | exact Kd.V_nil _ _ _ _ _ | exact Kd.Q_nil _ _ _ _ _ | exact Kd.S_nil _ _ _ _ _, by repeat (first | (with_reducible first | exact HB.out | apply below_alloc | apply pw_below_drewN | apply below_drew1 | refine below_set ?_ GE254.out | refine below_set ?_ GE255.out) | exact HB.out)⟩
end Go.Proofs.Ytpfnohdnaocpdaa.PT

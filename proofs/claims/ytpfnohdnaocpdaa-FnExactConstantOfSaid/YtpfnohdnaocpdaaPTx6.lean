-- Written by a program (xprint.py) out of the translation's own print; Lean checks it.
import Derived.Test.YtpfnohdnaocpdaaPTx0
import Derived.Test.YtpfnohdnaocpdaaPTx5
namespace Go.Proofs.Ytpfnohdnaocpdaa.PT
open Go.RowKit Go.Proofs.YtpfnohdnaocpdaaW.PrintWords Go.Proofs.YtpfnohdnaocpdaaW.PrintLast Go.Proofs.YtpfnohdnaocpdaaW.PrintMore Go.Proofs.YtpfnohdnaocpdaaRP
attribute [local go_sem] Go.Proofs.YtpfnohdnaocpdaaRP.tmod_len   -- for this text's walks alone
set_option linter.unusedVariables false
set_option linter.unusedSimpArgs false
theorem z6_1_ {P : Prop} (h : P := by repeat (first | (with_reducible first | exact HB.out | apply below_alloc | apply pw_below_drewN | apply below_drew1 | refine below_set ?_ GE217.out) | exact HB.out)) : P := h
theorem z6_2_ {P : Prop} (h : P := by (with_reducible repeat (first | refine blk_drewN ?_ _ | refine blk_drew ?_ | refine blk_alloc ?_ _)); exact BK217.out) : P := h
theorem z6_3_ {P : Prop} (h : P := by (with_reducible repeat (first | apply Kd.R_alloc | apply Kd.R_drewN | apply Kd.R_drew)); exact HO_6.out) : P := h
theorem z6_4_ {P : Prop} (h : P := by (with_reducible repeat (first | apply Kd.R_alloc | apply Kd.R_drewN | apply Kd.R_drew)); exact HO236.out) : P := h
theorem z6_5_ {P : Prop} (h : P := by (with_reducible repeat (first | apply Kd.R_alloc | apply Kd.R_drewN | apply Kd.R_drew)); exact HO223.out) : P := h
theorem z6_6_ {P : Prop} (h : P := by repeat (first | (with_reducible first | exact HB.out | apply below_alloc | apply pw_below_drewN | apply below_drew1) | exact HB.out)) : P := h
theorem z6_7_ {P : Prop} (h : P := by repeat (first | (with_reducible exact HR244.out) | (with_reducible refine Kd.C_alloc ?_ _) | (with_reducible refine Kd.C_drewN ?_ _) | (with_reducible refine Kd.C_drew ?_) | exact HR244.out)) : P := h
/-! ### spec_l03Normal: function 97 -/
def spec_l03Normal.l0 : Nat → List Int → List Int → Option (List Int × List Int)
 | 0, _, _ => none
 | k + 1, x5, x6 => if (x5.length : Int) > 0 then (if 0 ≤ (wrap64 ((x5.length : Int) - 1)) then (if (wrap64 ((x5.length : Int) - 1)) < (x5.length : Int) then (if 0 ≤ (wrap64 ((x6.length : Int) - 1)) then (if (wrap64 ((x6.length : Int) - 1)) < (x6.length : Int) then (if (rd x5 (wrap64 ((x5.length : Int) - 1))) = (rd x6 (wrap64 ((x6.length : Int) - 1))) then (if (wrap64 ((x5.length : Int) - 1)) ≤ (x5.length : Int) then ((some (([rd x6 (wrap64 ((x6.length : Int) - 1))] : List Int) : List Int)).bind fun y238 => (if (wrap64 ((x6.length : Int) - 1)) ≤ (x6.length : Int) then ((some (x6.take ((wrap64 ((x6.length : Int) - 1)) : Int).toNat : List Int)).bind fun y241 => (if y238.length + y241.length < 140737488355328 then (spec_l03Normal.l0 k (x5.take ((wrap64 ((x5.length : Int) - 1)) : Int).toNat) (y238 ++ y241)) else (none))) else (none))) else (none)) else (some (x5, x6))) else (none)) else (none)) else (none)) else (none)) else (some (x5, x6))
def spec_l03Normal.f (k : Nat) (l0 : List Int) (l1 : List Int) : Option (List Int × List Int) := (some (([] : List Int) : List Int)).bind fun y218 => (if y218.length + l0.length < 140737488355328 then ((some (([] : List Int) : List Int)).bind fun y224 => ((spec_l03Period.f k l1).bind fun t227 => (if 0 ≤ t227 then (if t227 ≤ (l1.length : Int) then (if y224.length + (l1.take (t227 : Int).toNat).length < 140737488355328 then (spec_l03Normal.l0 k (y218 ++ l0) (y224 ++ (l1.take (t227 : Int).toNat))) else (none)) else (none)) else (none)))) else (none))
theorem spec_l03Normal.mono_l : ∀ k, (∀ y0 y1, LeO (spec_l03Normal.l0 k y0 y1) (spec_l03Normal.l0 (k + 1) y0 y1))
 | 0 => fun _ _ r h => by simp [spec_l03Normal.l0] at h
 | k + 1 => by
  have ih0 := spec_l03Normal.mono_l k
  ·
   intro y0 y1
   unfold spec_l03Normal.l0
   repeat' first
   | (with_reducible exact ih0 _ _)
   | (with_reducible exact spec_l03Period.mono _ _)
   | (with_reducible exact LeO.refl _)
   | (with_reducible exact LeO.none _)
   | (with_reducible refine LeO.ite ?_ ?_)
   | (with_reducible refine LeO.bind ?_ (fun _ => ?_))
   | refine LeO.bind ?_ (fun _ => ?_)
theorem spec_l03Normal.mono : ∀ a0 a1 k, LeO (spec_l03Normal.f k a0 a1) (spec_l03Normal.f (k + 1) a0 a1) := by
 intro a0 a1 k
 have ih0 := spec_l03Normal.mono_l k
 unfold spec_l03Normal.f
 repeat' first
   | (with_reducible exact ih0 _ _)
   | (with_reducible exact spec_l03Period.mono _ _)
   | (with_reducible exact LeO.refl _)
   | (with_reducible exact LeO.none _)
   | (with_reducible refine LeO.ite ?_ ?_)
   | (with_reducible refine LeO.bind ?_ (fun _ => ?_))
   | refine LeO.bind ?_ (fun _ => ?_)
def spec_l03Normal.T3 : Bool × List (List Nat × List Nat) := (true, [([], []), ([0], [0]), ([1], [1]), ([2], [2]), ([3], [3]), ([3], [3]), ([5, 3], [3, 5]), ([6, 3], [3, 6]), ([4, 7, 3], [3, 4, 7]), ([8, 3], [3, 8]), ([3], [3]), ([3], [3]), ([11, 3], [3, 11]), ([12, 3], [3, 12]), ([10, 13, 3], [3, 10, 13]), ([14, 3], [3, 14]), ([9, 15, 3], [3, 9, 15]), ([3, 16], [3, 16])])
def spec_l03Normal.B3 : List Nat := [0, 1, 3, 7, 15, 15, 47, 111, 255, 511, 15, 15, 2063, 6159, 15375, 31759, 65535, 131071]
theorem spec_l03Normal.tab3 : rtab .any (opsOf Try.f97 3) = spec_l03Normal.T3 := by kernel_rfl
theorem spec_l03Normal.bits3 : waitsOk spec_l03Normal.T3.2 spec_l03Normal.B3 = true := by kernel_rfl
def spec_l03Normal.T5 : Bool × List (List Nat × List Nat) := (true, [([], []), ([], []), ([1], [1]), ([2], [2]), ([0, 3], [0, 3]), ([4], [4]), ([5], [5]), ([], []), ([], []), ([8], [8]), ([9], [9]), ([7, 10], [7, 10]), ([6, 11], [6, 11]), ([12, 12, 0, 1, 2, 3, 4, 5, 6, 7, 8, 9, 10, 11, 12], [0, 1, 7, 8, 12])])
def spec_l03Normal.B5 : List Nat := [0, 0, 2, 6, 15, 31, 63, 0, 0, 256, 768, 1920, 4095, 8191]
theorem spec_l03Normal.tab5 : rtab .any (opsOf Try.f97 5) = spec_l03Normal.T5 := by kernel_rfl
theorem spec_l03Normal.bits5 : waitsOk spec_l03Normal.T5.2 spec_l03Normal.B5 = true := by kernel_rfl
set_option maxHeartbeats 8000000 in
set_option maxRecDepth 100000 in
theorem spec_l03Normal.calls (k : Nat) (A0 : Option Addr) (c0 : Nat) (l0 : List Int) (A1 : Option Addr) (c1 : Nat) (l1 : List Int) (r1 : List Int) (r2 : List Int) (w : World) (hr0 : Kd.C (Kd.int .i8) w A0 l0.length l0) (hc0 : l0.length ≤ c0) (hr1 : Kd.C (Kd.int .i8) w A1 l1.length l1) (hc1 : l1.length ≤ c1) (h : spec_l03Normal.f k l0 l1 = some (r1, r2)) :
  Calls Try.prog 97 #[.slice A0 l0.length c0, .slice A1 l1.length c1] w fun e w' => ∃ v0_ v1_ : Value, e = .returned (.agg #[v0_, v1_]) ∧ Kd.R (Kd.int .i8) 86 w' w.heap.size (fun k_ => some k_ ≠ (v1_ : Value).ownBlock) v0_ r1 ∧ Kd.R (Kd.int .i8) 86 w' w.heap.size (fun k_ => some k_ ≠ (v0_ : Value).ownBlock) v1_ r2 ∧ Below w.heap.size w w' := by
 have hu36 := Try.underlying36
 have HR0 := Aside0.mk hr0
 have HC0 := Aside0.mk hc0
 clear hr0 hc0
 have HR1 := Aside0.mk hr1
 have HC1 := Aside0.mk hc1
 clear hr1 hc1
 have HB := Aside0.mk (Below.refl w.heap.size w)
 have H : ((some (([] : List Int) : List Int)).bind fun y218 => (if y218.length + l0.length < 140737488355328 then ((some (([] : List Int) : List Int)).bind fun y224 => ((spec_l03Period.f k l1).bind fun t227 => (if 0 ≤ t227 then (if t227 ≤ (l1.length : Int) then (if y224.length + (l1.take (t227 : Int).toNat).length < 140737488355328 then (spec_l03Normal.l0 k (y218 ++ l0) (y224 ++ (l1.take (t227 : Int).toNat))) else (none)) else (none)) else (none)))) else (none))) = some (r1, r2) := h
 clear h
 obtain ⟨y218, hy218⟩ : ∃ y_ : List Int, y_ = (([] : List Int)) := ⟨_, rfl⟩
 replace H : (if y218.length + l0.length < 140737488355328 then ((some (([] : List Int) : List Int)).bind fun y224 => ((spec_l03Period.f k l1).bind fun t227 => (if 0 ≤ t227 then (if t227 ≤ (l1.length : Int) then (if y224.length + (l1.take (t227 : Int).toNat).length < 140737488355328 then (spec_l03Normal.l0 k (y218 ++ l0) (y224 ++ (l1.take (t227 : Int).toNat))) else (none)) else (none)) else (none)))) else (none)) = some (r1, r2) := by first | (rw [hy218]; with_reducible exact H) | (have H2_ := (Option.bind_some _ _).symm.trans H; rw [hy218]; with_reducible exact H2_) | (have H2_ := (Option.bind_some _ _).symm.trans H; with_reducible exact H2_) | with_reducible exact H | (rw [hy218]; exact H) | exact H
 have Ny218 := Aside0.mk hy218
 clear hy218
 by_cases c3 : y218.length + l0.length < 140737488355328
 ·
  rw [if_pos c3] at H
  have LMc3 := Aside0.mk c3
  clear c3
  obtain ⟨y221, hy221⟩ : ∃ y_ : List Int, y_ = (y218 ++ l0) := ⟨_, rfl⟩
  replace H : ((some (([] : List Int) : List Int)).bind fun y224 => ((spec_l03Period.f k l1).bind fun t227 => (if 0 ≤ t227 then (if t227 ≤ (l1.length : Int) then (if y224.length + (l1.take (t227 : Int).toNat).length < 140737488355328 then (spec_l03Normal.l0 k y221 (y224 ++ (l1.take (t227 : Int).toNat))) else (none)) else (none)) else (none)))) = some (r1, r2) := by first | (rw [hy221]; with_reducible exact H) | (have H2_ := (Option.bind_some _ _).symm.trans H; rw [hy221]; with_reducible exact H2_) | (have H2_ := (Option.bind_some _ _).symm.trans H; with_reducible exact H2_) | with_reducible exact H | (rw [hy221]; exact H) | exact H
  have Ny221 := Aside0.mk hy221
  clear hy221
  obtain ⟨y224, hy224⟩ : ∃ y_ : List Int, y_ = (([] : List Int)) := ⟨_, rfl⟩
  replace H : ((spec_l03Period.f k l1).bind fun t227 => (if 0 ≤ t227 then (if t227 ≤ (l1.length : Int) then (if y224.length + (l1.take (t227 : Int).toNat).length < 140737488355328 then (spec_l03Normal.l0 k y221 (y224 ++ (l1.take (t227 : Int).toNat))) else (none)) else (none)) else (none))) = some (r1, r2) := by first | (rw [hy224]; with_reducible exact H) | (have H2_ := (Option.bind_some _ _).symm.trans H; rw [hy224]; with_reducible exact H2_) | (have H2_ := (Option.bind_some _ _).symm.trans H; with_reducible exact H2_) | with_reducible exact H | (rw [hy224]; exact H) | exact H
  have Ny224 := Aside0.mk hy224
  clear hy224
  replace H := Option.bind_eq_some_iff.mp H
  obtain ⟨t227, A40, H⟩ := H
  replace H : (if 0 ≤ t227 then (if t227 ≤ (l1.length : Int) then (if y224.length + (l1.take (t227 : Int).toNat).length < 140737488355328 then (spec_l03Normal.l0 k y221 (y224 ++ (l1.take (t227 : Int).toNat))) else (none)) else (none)) else (none)) = some (r1, r2) := H
  have A4 := Aside0.mk A40
  clear A40
  by_cases c5 : 0 ≤ t227
  ·
   rw [if_pos c5] at H
   have c5b0 := eq_true c5
   have c5b1 : decide (0 ≤ t227) = true := decide_eq_true c5
   clear c5
   by_cases c6 : t227 ≤ (l1.length : Int)
   ·
    rw [if_pos c6] at H
    have c6b0 := eq_true c6
    have c6b1 : decide (t227 ≤ (l1.length : Int)) = true := decide_eq_true c6
    clear c6
    by_cases c7 : y224.length + (l1.take (t227 : Int).toNat).length < 140737488355328
    ·
     rw [if_pos c7] at H
     have LMc7 := Aside0.mk c7
     clear c7
     obtain ⟨y229, hy229⟩ : ∃ y_ : List Int, y_ = (y224 ++ (l1.take (t227 : Int).toNat)) := ⟨_, rfl⟩
     replace H : (spec_l03Normal.l0 k y221 y229) = some (r1, r2) := by first | (rw [hy229]; with_reducible exact H) | (have H2_ := (Option.bind_some _ _).symm.trans H; rw [hy229]; with_reducible exact H2_) | (have H2_ := (Option.bind_some _ _).symm.trans H; with_reducible exact H2_) | with_reducible exact H | (rw [hy229]; exact H) | exact H
     have Ny229 := Aside0.mk hy229
     clear hy229
     have H' := Aside0.mk H
     clear H
     go_enter Try.func97, Try.ntmps97
     go_wp2_with (first | ((with_reducible refine gate_dst (N := 4) rfl ?_); (try (refine gate_guard (by rfl) ?_; dsimp only)); refine box_event ?hg (N := 4) ?hd (cs := #[.slice none 0 0, .slice none 0 0]) (t := 36) ?hr ?_; (case hd => rfl); (case hg => rfl); (case hr => first | (go_simp; done) | (go_simp; rfl)); intro gb217 hg w8 hbox hb; have n0_ := Aside0.mk (below_step z6_6_ hb); have n1_ := Aside0.mk (hbox); have n2_ := Aside0.mk ((by rw [hg]; exact (below_size z6_6_) : w.heap.size ≤ gb217)); have n3_ := Aside0.mk ((by rw [hg]; exact (below_size z6_6_) : w.heap.size ≤ gb217)); clear HB; have HB := n0_; have BK217 := n1_; have GW217 := n2_; have GE217 := n3_; clear n0_ n1_ n2_ n3_; clear hb hbox hg) | ((with_reducible refine gate_dst (N := 7) rfl ?_); (try (refine gate_guard (by rfl) ?_; dsimp only)); refine Kd.R_lit (Kd.int .i8) _ 86 ?hg (N := 7) ?hd (xs := ([] : List Int)) (inner := []) (ok := fun _ => True) (okp := fun _ => True) ?hr ?hp (fun _ hk => hk) trivial (Below.refl _ _) (Nat.le_refl _) (by simp) ?_; (case hd => rfl); (case hg => rfl); (case hr => first | (go_simp; done) | (go_simp; rfl)); (case hp => exact (Reps.none _ _)); intro v219 w9 ho10 hb hg_ hnew_; clear hg_ hnew_; (first | rw [← Ny218.out] at ho10 | (simp only [Int.reduceToNat] at ho10; rw [← Ny218.out] at ho10)); have n0_ := Aside0.mk (Kd.R_lower ho10 (below_size z6_1_)); have n1_ := Aside0.mk (blk_below (g := gb217) (o := .cells #[.slice none 0 0, .slice none 0 0] 36 (0, 0)) z6_2_ hb); have n2_ := Aside0.mk (below_step z6_1_ hb); clear BK217; clear HB; have HO220 := n0_; have BK217 := n1_; have HB := n2_; clear n0_ n1_ n2_; clear hb ho10) | ((with_reducible refine gate_builtin (b := .append) (xs := #[.tmp 7, .tmp 8]) rfl ?_); (try (refine gate_guard (by rfl) ?_; dsimp only)); at_builtin; refine Kd.R_append_rows (Kd.int .i8) (w0 := w) w.heap.size rfl (.tmp 7) (.tmp 8) 25 86 (.int .i8 0) 1 rfl Try.underlying25 info86 rfl (by decide) (by omega) v219 y218 l0 _ _ _ (fun _ => True) (fun _ => False) rfl rfl ?aO ?aR (fun _ _ h => h) (fun _ h => h.elim) ?aF ?aB ?aS ?aL ?_; (case aR => repeat (first | exact (Kd.C_below HR0.out HB.out) | (with_reducible refine Kd.C_alloc ?_ _) | (with_reducible refine Kd.C_drewN ?_ _) | (with_reducible refine Kd.C_drew ?_))); (case aB => exact z6_1_); (case aF => exact (fun _ _ => trivial)); (case aO => exact (by (with_reducible repeat (first | apply Kd.R_alloc | apply Kd.R_drewN | apply Kd.R_drew)); exact HO220.out)); (case aS => exact (below_size z6_1_)); (case aL => have := LMc3.out; omega); intro v222 w11 ho hb hg hat; rw [← Ny221.out] at ho; have n0_ := Aside0.mk (blk_grown (g := gb217) (o := .cells #[.slice none 0 0, .slice none 0 0] 36 (0, 0)) z6_2_ hg (Kd.R_ne HO220.out BK217.out (by decide))); have n1_ := Aside0.mk (hb); have n2_ := Aside0.mk (ho); clear BK217; clear HB; clear HO220; have BK217 := n0_; have HB := n1_; have HO223 := n2_; clear n0_ n1_ n2_; clear ho hb hg hat) | ((with_reducible refine gate_dst (N := 10) rfl ?_); (try (refine gate_guard (by rfl) ?_; dsimp only)); refine Kd.R_lit (Kd.int .i8) _ 86 ?hg (N := 10) ?hd (xs := ([] : List Int)) (inner := []) (ok := fun _ => True) (okp := fun _ => True) ?hr ?hp (fun _ hk => hk) trivial (Below.refl _ _) (Nat.le_refl _) (by simp) ?_; (case hd => rfl); (case hg => rfl); (case hr => first | (go_simp; done) | (go_simp; rfl)); (case hp => exact (Reps.none _ _)); intro v225 w12 ho13 hb hg_ hnew_; clear hg_ hnew_; (first | rw [← Ny224.out] at ho13 | (simp only [Int.reduceToNat] at ho13; rw [← Ny224.out] at ho13)); have n0_ := Aside0.mk (Kd.R_elder' z6_5_ (Kd.R_base ho13) hb); have n1_ := Aside0.mk (Kd.R_lower (Kd.R_new' ho13 (Kd.R_lt z6_5_)) (below_size z6_1_)); have n2_ := Aside0.mk (blk_below (g := gb217) (o := .cells #[.slice none 0 0, .slice none 0 0] 36 (0, 0)) z6_2_ hb); have n3_ := Aside0.mk (below_step z6_1_ hb); clear HO223; clear BK217; clear HB; have HO223 := n0_; have HO226 := n1_; have BK217 := n2_; have HB := n3_; clear n0_ n1_ n2_ n3_; clear hb ho13) | ((with_reducible refine gate_callee (f := 134) rfl ?_); refine goesL_ (some 13) rfl rfl Try.func134 (by kernel_rfl) rfl #[.slice A1 l1.length c1] rfl (by (try simp only [List.map_toArray, List.map_cons, List.map_nil]); first | done | rfl | (simp only [List.length_drop, List.length_take]; rfl)) ?_; (with_reducible refine (spec_l03Period.calls k _ _ l1 t227 _ ?side1 ?side2 A4.out).mono ?_); (case side1 => repeat (first | exact (Kd.C_below HR1.out HB.out) | (with_reducible refine Kd.C_alloc ?_ _) | (with_reducible refine Kd.C_drewN ?_ _) | (with_reducible refine Kd.C_drew ?_))); (case side2 => exact HC1.out); rintro e w' ⟨rfl, ⟨nd, rfl⟩⟩; refine ⟨_, rfl, ?_⟩; obtain ⟨i014, hi014, _, hsz14, _⟩ := info_parts info86; obtain ⟨hcut14, hA14, hC14⟩ := print_take_of (P := Try.prog) (Value.int .i8) 0 25 86 .i64 Try.underlying25 hi014 hsz14 A1 c1 l1 t227 (of_decide_eq_true (by assumption)) (of_decide_eq_true (by assumption)) HC1.out; have HR228 := Aside0.mk (Kd.C_of_reads (h1 := fun _ => rfl) (hA14 _ (Kd.reads_of_C HR1.out))); have HC228 := Aside0.mk hC14; clear hA14 hC14 hi014 hsz14) | ((with_reducible refine gate_builtin (b := .append) (xs := #[.tmp 10, .tmp 14]) rfl ?_); (try (refine gate_guard (by rfl) ?_; dsimp only)); at_builtin; refine Kd.R_append_rows (Kd.int .i8) (w0 := w) w.heap.size rfl (.tmp 10) (.tmp 14) 25 86 (.int .i8 0) 1 rfl Try.underlying25 info86 rfl (by decide) (by omega) v225 y224 (l1.take (t227 : Int).toNat) _ _ _ (fun k_ => some k_ ≠ (v222 : Value).ownBlock) (fun _ => False) rfl rfl ?aO ?aR (fun _ _ h => h) (fun _ h => h.elim) ?aF ?aB ?aS ?aL ?_; (case aR => first | (have hR_ := HR228.out; rw [show (l1.take (t227 : Int).toNat).length = t227.toNat from (by rw [List.length_take]; have h_ : (t227 : Int) ≤ (l1.length : Int) := of_decide_eq_true (by assumption); omega)] at hR_; repeat (first | exact (Kd.C_below hR_ z6_1_) | (with_reducible refine Kd.C_alloc ?_ _) | (with_reducible refine Kd.C_drewN ?_ _) | (with_reducible refine Kd.C_drew ?_)); done) | (rw [← show (l1.take (t227 : Int).toNat).length = t227.toNat from (by rw [List.length_take]; have h_ : (t227 : Int) ≤ (l1.length : Int) := of_decide_eq_true (by assumption); omega)]; repeat (first | exact (Kd.C_below HR228.out z6_1_) | (with_reducible refine Kd.C_alloc ?_ _) | (with_reducible refine Kd.C_drewN ?_ _) | (with_reducible refine Kd.C_drew ?_)); done) | (repeat (first | exact (Kd.C_below HR228.out z6_1_) | (with_reducible refine Kd.C_alloc ?_ _) | (with_reducible refine Kd.C_drewN ?_ _) | (with_reducible refine Kd.C_drew ?_)))); (case aB => exact z6_1_); (case aF => exact (fun k_ hk => Kd.fresh' (Kd.R_lt z6_5_) k_ hk)); (case aO => exact (by (with_reducible repeat (first | apply Kd.R_alloc | apply Kd.R_drewN | apply Kd.R_drew)); exact Kd.R_mono HO226.out (fun _ hk => hk.2))); (case aS => exact (below_size z6_1_)); (case aL => have := LMc7.out; have hlx_ := (show (l1.take (t227 : Int).toNat).length = t227.toNat from (by rw [List.length_take]; have h_ : (t227 : Int) ≤ (l1.length : Int) := of_decide_eq_true (by assumption); omega)); omega); intro v230 w15 ho hb hg hat; rw [← Ny229.out] at ho; have n0_ := Aside0.mk (blk_grown (g := gb217) (o := .cells #[.slice none 0 0, .slice none 0 0] 36 (0, 0)) z6_2_ hg (Kd.R_ne HO226.out BK217.out (by decide))); have n1_ := Aside0.mk (Kd.R_after (ok := (fun _ => True)) z6_5_ hg hat); have n2_ := Aside0.mk (hb); have n3_ := Aside0.mk (ho); clear BK217; clear HO223; clear HB; clear HO226; have BK217 := n0_; have HO223 := n1_; have HB := n2_; have HO231 := n3_; clear n0_ n1_ n2_ n3_; clear ho hb hg hat))
     go_loopg [5, 6] k (fun kq v5 v6 w' => ∃ (x5_1 : List Int) (x6_1 : List Int), Aside0 (spec_l03Normal.l0 kq x5_1 x6_1 = some (r1, r2)) ∧ Aside0 (kq ≤ k) ∧ Aside0 (Kd.R (Kd.int .i8) 86 w' w.heap.size (fun k_ => some k_ ≠ (v6 : Value).ownBlock) v5 x5_1) ∧ Aside0 (Kd.R (Kd.int .i8) 86 w' w.heap.size (fun k_ => some k_ ≠ (v5 : Value).ownBlock) v6 x6_1) ∧ Aside0 (w'.heap[gb217]? = some (.cells #[(.slice none 0 0), (.slice none 0 0)] 36 (0, 0))) ∧ Aside0 (Below w.heap.size w w'))
     case atStart => exact ⟨(y221), (y229), H', ⟨Nat.le_refl _⟩, ⟨by (with_reducible repeat (first | apply Kd.R_alloc | apply Kd.R_drewN | apply Kd.R_drew)); exact Kd.R_mono HO223.out (fun _ hk => hk.2)⟩, ⟨by (with_reducible repeat (first | apply Kd.R_alloc | apply Kd.R_drewN | apply Kd.R_drew)); exact HO231.out⟩, ⟨by (with_reducible repeat (first | refine blk_drewN ?_ _ | refine blk_drew ?_ | refine blk_alloc ?_ _)); exact BK217.out⟩, ⟨by repeat (first | (with_reducible first | exact HB.out | apply below_alloc | apply pw_below_drewN | apply below_drew1 | refine below_set ?_ GE217.out) | exact HB.out)⟩⟩
     case round =>
      clear H'
      try clear c1
      try clear p2
      try clear c3
      try clear c5
      try clear c5b0
      try clear c5b1
      try clear c6
      try clear c6b0
      try clear c6b1
      try clear c7
      try clear c9
      try clear c13
      obtain ⟨x5_1, x6_1, HA, HK1, HO_5, HO_6, BK217, HB⟩ := hrel
      cases gk with
      | zero => exact absurd HA.out (by simp [spec_l03Normal.l0])
      | succ k1 =>
       have H := HA.out
       clear HA
       simp only [spec_l03Normal.l0] at H
       by_cases c16 : (x5_1.length : Int) > 0
       ·
        rw [if_pos c16] at H
        have c16b0 : decide (0 < (x5_1.length : Int)) = true := decide_eq_true c16
        have c16b1 : decide (0 < x5_1.length) = true := decide_eq_true (by omega)
        clear c16
        obtain ⟨ji17, hji17⟩ : ∃ j_ : Int, (wrap64 ((x5_1.length : Int) - 1)) = j_ := ⟨_, rfl⟩
        replace H : (if 0 ≤ (ji17) then (if (ji17) < (x5_1.length : Int) then (if 0 ≤ (wrap64 ((x6_1.length : Int) - 1)) then (if (wrap64 ((x6_1.length : Int) - 1)) < (x6_1.length : Int) then (if (rd x5_1 (ji17)) = (rd x6_1 (wrap64 ((x6_1.length : Int) - 1))) then (if (ji17) ≤ (x5_1.length : Int) then ((some (([rd x6_1 (wrap64 ((x6_1.length : Int) - 1))] : List Int) : List Int)).bind fun y238 => (if (wrap64 ((x6_1.length : Int) - 1)) ≤ (x6_1.length : Int) then ((some (x6_1.take ((wrap64 ((x6_1.length : Int) - 1)) : Int).toNat : List Int)).bind fun y241 => (if y238.length + y241.length < 140737488355328 then (spec_l03Normal.l0 k1 (x5_1.take ((ji17) : Int).toNat) (y238 ++ y241)) else (none))) else (none))) else (none)) else (some (x5_1, x6_1))) else (none)) else (none)) else (none)) else (none)) = some (r1, r2) := by first | (rw [hji17] at H; exact H) | (simp only [hji17] at H ⊢; exact H)
        have hji17w : (IntKind.i64.wrap ((x5_1.length : Int) - 1)) = ji17 := (i64_w _).trans hji17
        by_cases c18 : 0 ≤ (ji17)
        ·
         rw [if_pos c18] at H
         have c18b0 : decide (0 ≤ (ji17)) = true := decide_eq_true c18
         clear c18
         by_cases c19 : (ji17) < (x5_1.length : Int)
         ·
          rw [if_pos c19] at H
          have c19b0 : decide ((ji17) < (x5_1.length : Int)) = true := decide_eq_true c19
          clear c19
          obtain ⟨ji20, hji20⟩ : ∃ j_ : Int, (wrap64 ((x6_1.length : Int) - 1)) = j_ := ⟨_, rfl⟩
          replace H : (if 0 ≤ (ji20) then (if (ji20) < (x6_1.length : Int) then (if (rd x5_1 (ji17)) = (rd x6_1 (ji20)) then (if (ji17) ≤ (x5_1.length : Int) then ((some (([rd x6_1 (ji20)] : List Int) : List Int)).bind fun y238 => (if (ji20) ≤ (x6_1.length : Int) then ((some (x6_1.take ((ji20) : Int).toNat : List Int)).bind fun y241 => (if y238.length + y241.length < 140737488355328 then (spec_l03Normal.l0 k1 (x5_1.take ((ji17) : Int).toNat) (y238 ++ y241)) else (none))) else (none))) else (none)) else (some (x5_1, x6_1))) else (none)) else (none)) = some (r1, r2) := by first | (rw [hji20] at H; exact H) | (simp only [hji20] at H ⊢; exact H)
          have hji20w : (IntKind.i64.wrap ((x6_1.length : Int) - 1)) = ji20 := (i64_w _).trans hji20
          by_cases c21 : 0 ≤ (ji20)
          ·
           rw [if_pos c21] at H
           have c21b0 : decide (0 ≤ (ji20)) = true := decide_eq_true c21
           clear c21
           by_cases c22 : (ji20) < (x6_1.length : Int)
           ·
            rw [if_pos c22] at H
            have c22b0 : decide ((ji20) < (x6_1.length : Int)) = true := decide_eq_true c22
            clear c22
            by_cases c23 : (rd x5_1 (ji17)) = (rd x6_1 (ji20))
            ·
             rw [if_pos c23] at H
             have c23b0 : ((rd x5_1 (ji17)) == (rd x6_1 (ji20))) = true := beq_iff_eq.mpr c23
             have c23b1 : ((rd x5_1 (ji17)) != (rd x6_1 (ji20))) = false := bne_eq_false_iff_eq.mpr c23
             clear c23
             by_cases c24 : (ji17) ≤ (x5_1.length : Int)
             ·
              rw [if_pos c24] at H
              have c24b0 := eq_true c24
              have c24b1 : decide ((ji17) ≤ (x5_1.length : Int)) = true := decide_eq_true c24
              clear c24
              obtain ⟨y234, hy234⟩ : ∃ y_ : List Int, y_ = (x5_1.take ((ji17) : Int).toNat) := ⟨_, rfl⟩
              replace H : ((some (([rd x6_1 (ji20)] : List Int) : List Int)).bind fun y238 => (if (ji20) ≤ (x6_1.length : Int) then ((some (x6_1.take ((ji20) : Int).toNat : List Int)).bind fun y241 => (if y238.length + y241.length < 140737488355328 then (spec_l03Normal.l0 k1 y234 (y238 ++ y241)) else (none))) else (none))) = some (r1, r2) := by first | (rw [hy234]; with_reducible exact H) | (have H2_ := (Option.bind_some _ _).symm.trans H; rw [hy234]; with_reducible exact H2_) | (have H2_ := (Option.bind_some _ _).symm.trans H; with_reducible exact H2_) | with_reducible exact H | (rw [hy234]; exact H) | exact H
              have Ny234 := Aside0.mk hy234
              clear hy234
              obtain ⟨y238, hy238⟩ : ∃ y_ : List Int, y_ = (([rd x6_1 (ji20)] : List Int)) := ⟨_, rfl⟩
              replace H : (if (ji20) ≤ (x6_1.length : Int) then ((some (x6_1.take ((ji20) : Int).toNat : List Int)).bind fun y241 => (if y238.length + y241.length < 140737488355328 then (spec_l03Normal.l0 k1 y234 (y238 ++ y241)) else (none))) else (none)) = some (r1, r2) := by first | (rw [hy238]; with_reducible exact H) | (have H2_ := (Option.bind_some _ _).symm.trans H; rw [hy238]; with_reducible exact H2_) | (have H2_ := (Option.bind_some _ _).symm.trans H; with_reducible exact H2_) | with_reducible exact H | (rw [hy238]; exact H) | exact H
              have Ny238 := Aside0.mk hy238
              clear hy238
              have c25b0 := eq_true (of_decide_eq_true (by assumption) : 0 ≤ (ji20))
              by_cases c26 : (ji20) ≤ (x6_1.length : Int)
              ·
               rw [if_pos c26] at H
               have c26b0 := eq_true c26
               have c26b1 : decide ((ji20) ≤ (x6_1.length : Int)) = true := decide_eq_true c26
               clear c26
               obtain ⟨y241, hy241⟩ : ∃ y_ : List Int, y_ = (x6_1.take ((ji20) : Int).toNat) := ⟨_, rfl⟩
               replace H : (if y238.length + y241.length < 140737488355328 then (spec_l03Normal.l0 k1 y234 (y238 ++ y241)) else (none)) = some (r1, r2) := by first | (rw [hy241]; with_reducible exact H) | (have H2_ := (Option.bind_some _ _).symm.trans H; rw [hy241]; with_reducible exact H2_) | (have H2_ := (Option.bind_some _ _).symm.trans H; with_reducible exact H2_) | with_reducible exact H | (rw [hy241]; exact H) | exact H
               have Ny241 := Aside0.mk hy241
               clear hy241
               by_cases c27 : y238.length + y241.length < 140737488355328
               ·
                rw [if_pos c27] at H
                have LMc27 := Aside0.mk c27
                clear c27
                obtain ⟨y245, hy245⟩ : ∃ y_ : List Int, y_ = (y238 ++ y241) := ⟨_, rfl⟩
                replace H : (spec_l03Normal.l0 k1 y234 y245) = some (r1, r2) := by first | (rw [hy245]; with_reducible exact H) | (have H2_ := (Option.bind_some _ _).symm.trans H; rw [hy245]; with_reducible exact H2_) | (have H2_ := (Option.bind_some _ _).symm.trans H; with_reducible exact H2_) | with_reducible exact H | (rw [hy245]; exact H) | exact H
                have Ny245 := Aside0.mk hy245
                clear hy245
                have H' := Aside0.mk H
                clear H
                try go_wp2
                have n0_ := Aside0.mk (Kd.R_drew HO_5.out)
                have n1_ := Aside0.mk (Kd.R_drew HO_6.out)
                have n2_ := Aside0.mk (blk_drew BK217.out)
                have n3_ := Aside0.mk (below_drew1 HB.out)
                clear HO_5
                clear HO_6
                clear BK217
                clear HB
                have HO_5 := n0_
                have HO_6 := n1_
                have BK217 := n2_
                have HB := n3_
                clear n0_ n1_ n2_ n3_
                obtain ⟨Ao29, co29, eo29⟩ := Kd.R_slice HO_5.out
                (first | subst eo29 | (injection eo29 with f1_ f2_ f3_; have f4_ := f1_.symm; have f5_ := f3_.symm; clear f1_ f2_ f3_; subst f4_; subst f5_))
                have p232 : 0 ≤ ((ji17) : Int) := of_decide_eq_true (by assumption)
                have q232 : (ji17) < (x5_1.length : Int) := of_decide_eq_true (by assumption)
                obtain ⟨ad232, e232, hx232_0⟩ := Kd.at_int (Kd.R_reads' HO_5.out).2.2 (ji17) p232 q232
                cases e232
                replace p232 := eq_true p232
                replace q232 := eq_true q232
                obtain ⟨Ao30, co30, eo30⟩ := Kd.R_slice HO_6.out
                (first | subst eo30 | (injection eo30 with f1_ f2_ f3_; have f4_ := f1_.symm; have f5_ := f3_.symm; clear f1_ f2_ f3_; subst f4_; subst f5_))
                have p233 : 0 ≤ ((ji20) : Int) := of_decide_eq_true (by assumption)
                have q233 : (ji20) < (x6_1.length : Int) := of_decide_eq_true (by assumption)
                obtain ⟨ad233, e233, hx233_0⟩ := Kd.at_int (Kd.R_reads' HO_6.out).2.2 (ji20) p233 q233
                cases e233
                replace p233 := eq_true p233
                replace q233 := eq_true q233
                refine start_ (n := 18) (S := fun w' => w'.cell? (ad232.add ((ji17)).toNat) = some (.int .i8 (rd x5_1 (ji17))) ∧ w'.cell? (ad233.add ((ji20)).toNat) = some (.int .i8 (rd x6_1 (ji20)))) (ds := []) #[false, false, false, false, false, false, false, false, false, false, false, false, false, false, false, false, false, false] (by kernel_rfl) rfl rfl ⟨hx232_0, hx233_0⟩ (fun hHeld => ?_); refine with_tabW spec_l03Normal.tab3 spec_l03Normal.bits3 (fun HT_ HW_ => ?_)
                generalize wr.drew = w28 at HO_5 HO_6 BK217 HB hx232_0 hx233_0 hHeld ⊢
                refine pure_ (i := 0) (N := some 16) (v := ?_) (a' := ?_) #[true, false, false, false, false, false, false, false, false, false, false, false, false, false, false, false, false, false] rfl rfl (any_of HT_.out (by kernel_rfl)) (fun _ _ _ h => h) (Or.inl ⟨by rfl, ?_⟩) ?_ ?_
                rotate_left
                ·
                 intro w'
                 go_simp
                 with_reducible rfl
                rotate_left
                ·
                 simp only [Act.put, sA_, sB_, sC_, i64_w, i32_w]
                 rfl
                refine pure_ (i := 1) (N := some 17) (v := ?_) (a' := ?_) #[true, true, false, false, false, false, false, false, false, false, false, false, false, false, false, false, false, false] rfl rfl (any_of HT_.out (by kernel_rfl)) (fun _ _ _ h => h) (Or.inl ⟨by rfl, ?_⟩) ?_ ?_
                rotate_left
                ·
                 intro w'
                 go_simp
                 with_reducible rfl
                rotate_left
                ·
                 simp only [Act.put, sA_, sB_, sC_, i64_w, i32_w]
                 rfl
                refine pure_ (i := 2) (N := some 18) (v := ?_) (a' := ?_) #[true, true, true, false, false, false, false, false, false, false, false, false, false, false, false, false, false, false] rfl rfl (any_of HT_.out (by kernel_rfl)) (fun _ _ _ h => h) (Or.inl ⟨by rfl, ?_⟩) ?_ ?_
                rotate_left
                ·
                 intro w'
                 go_simp
                 with_reducible rfl
                rotate_left
                ·
                 simp only [Act.put, sA_, sB_, sC_, i64_w, i32_w]
                 rfl
                refine pure_ (i := 3) (N := some 19) (v := ?_) (a' := ?_) #[true, true, true, true, false, false, false, false, false, false, false, false, false, false, false, false, false, false] rfl rfl (any_of HT_.out (by kernel_rfl)) (fun _ _ _ h => h) (Or.inl ⟨by rfl, ?_⟩) ?_ ?_
                rotate_left
                ·
                 intro w'
                 go_simp
                 with_reducible rfl
                rotate_left
                ·
                 simp only [Act.put, sA_, sB_, sC_, i64_w, i32_w]
                 rfl
                refine pure_ (i := 4) (N := some 20) (v := ?_) (a' := ?_) #[true, true, true, true, true, false, false, false, false, false, false, false, false, false, false, false, false, false] rfl rfl (any_of HT_.out (by kernel_rfl)) (fun _ _ _ h => h) (Or.inl ⟨by rfl, ?_⟩) ?_ ?_
                rotate_left
                ·
                 intro w'
                 go_simp
                 with_reducible rfl
                rotate_left
                ·
                 simp only [Act.put, sA_, sB_, sC_, i64_w, i32_w]
                 rfl
                refine pure_ (i := 5) (N := some 21) (v := ?_) (a' := ?_) #[true, true, true, true, true, true, false, false, false, false, false, false, false, false, false, false, false, false] rfl rfl (any_of HT_.out (by kernel_rfl)) (fun _ _ _ h => h) (Or.inl ⟨by rfl, ?_⟩) ?_ ?_
                rotate_left
                ·
                 intro w'
                 go_simp
                 with_reducible rfl
                rotate_left
                ·
                 simp only [Act.put, sA_, sB_, sC_, i64_w, i32_w]
                 rfl
                refine pure_ (i := 6) (N := some 22) (v := ?_) (a' := ?_) #[true, true, true, true, true, true, true, false, false, false, false, false, false, false, false, false, false, false] rfl rfl (any_of HT_.out (by kernel_rfl)) (fun _ _ _ h => h) (Or.inl ⟨by rfl, ?_⟩) ?_ ?_
                rotate_left
                ·
                 intro w'
                 go_simp
                 with_reducible rfl
                rotate_left
                ·
                 simp only [Act.put, sA_, sB_, sC_, i64_w, i32_w]
                 rfl
                refine pure_ (i := 7) (N := some 23) (v := ?_) (a' := ?_) #[true, true, true, true, true, true, true, true, false, false, false, false, false, false, false, false, false, false] rfl rfl (any_of HT_.out (by kernel_rfl)) (fun _ _ _ h => h) (Or.inl ⟨by rfl, ?_⟩) ?_ ?_
                rotate_left
                ·
                 intro w'
                 go_simp
                 with_reducible rfl
                rotate_left
                ·
                 simp only [Act.put, sA_, sB_, sC_, i64_w, i32_w]
                 rfl
                refine pure_ (i := 8) (N := some 24) (v := ?_) (a' := ?_) #[true, true, true, true, true, true, true, true, true, false, false, false, false, false, false, false, false, false] rfl rfl (any_of HT_.out (by kernel_rfl)) (fun _ _ _ h => h) (Or.inl ⟨by rfl, ?_⟩) ?_ ?_
                rotate_left
                ·
                 intro w'
                 go_simp
                 with_reducible rfl
                rotate_left
                ·
                 simp only [Act.put, sA_, sB_, sC_, i64_w, i32_w]
                 rfl
                refine pure_ (i := 10) (N := some 26) (v := ?_) (a' := ?_) #[true, true, true, true, true, true, true, true, true, false, true, false, false, false, false, false, false, false] rfl rfl (any_of HT_.out (by kernel_rfl)) (fun _ _ _ h => h) (Or.inl ⟨by rfl, ?_⟩) ?_ ?_
                rotate_left
                ·
                 intro w'
                 go_simp
                 with_reducible rfl
                rotate_left
                ·
                 simp only [Act.put, sA_, sB_, sC_, i64_w, i32_w]
                 rfl
                refine pure_ (i := 11) (N := some 27) (v := ?_) (a' := ?_) #[true, true, true, true, true, true, true, true, true, false, true, true, false, false, false, false, false, false] rfl rfl (any_of HT_.out (by kernel_rfl)) (fun _ _ _ h => h) (Or.inl ⟨by rfl, ?_⟩) ?_ ?_
                rotate_left
                ·
                 intro w'
                 go_simp
                 with_reducible rfl
                rotate_left
                ·
                 simp only [Act.put, sA_, sB_, sC_, i64_w, i32_w]
                 rfl
                refine pure_ (i := 12) (N := some 28) (v := ?_) (a' := ?_) #[true, true, true, true, true, true, true, true, true, false, true, true, true, false, false, false, false, false] rfl rfl (any_of HT_.out (by kernel_rfl)) (fun _ _ _ h => h) (Or.inl ⟨by rfl, ?_⟩) ?_ ?_
                rotate_left
                ·
                 intro w'
                 go_simp
                 with_reducible rfl
                rotate_left
                ·
                 simp only [Act.put, sA_, sB_, sC_, i64_w, i32_w]
                 rfl
                refine pure_ (i := 13) (N := some 29) (v := ?_) (a' := ?_) #[true, true, true, true, true, true, true, true, true, false, true, true, true, true, false, false, false, false] rfl rfl (any_of HT_.out (by kernel_rfl)) (fun _ _ _ h => h) (Or.inl ⟨by rfl, ?_⟩) ?_ ?_
                rotate_left
                ·
                 intro w'
                 go_simp
                 with_reducible rfl
                rotate_left
                ·
                 simp only [Act.put, sA_, sB_, sC_, i64_w, i32_w]
                 rfl
                refine pure_ (i := 14) (N := some 30) (v := ?_) (a' := ?_) #[true, true, true, true, true, true, true, true, true, false, true, true, true, true, true, false, false, false] rfl rfl (any_of HT_.out (by kernel_rfl)) (fun _ _ _ h => h) (Or.inl ⟨by rfl, ?_⟩) ?_ ?_
                rotate_left
                ·
                 intro w'
                 go_simp
                 with_reducible rfl
                rotate_left
                ·
                 simp only [Act.put, sA_, sB_, sC_, i64_w, i32_w]
                 rfl
                refine take_ (i := 9) (N := some 25) (v := ?_) (a' := ?_) #[true, true, true, true, true, true, true, true, true, true, true, true, true, true, true, false, false, false] rfl rfl (take_ofW HT_.out HW_.out (by kernel_rfl)) (fun _ _ _ h => h) (Or.inl ⟨by rfl, ?_⟩) hHeld ?_ ?_
                rotate_left
                ·
                 rintro w' ⟨s0, s1⟩
                 go_simp
                 with_reducible rfl
                rotate_left
                ·
                 simp only [Act.put, sA_, sB_, sC_, i64_w, i32_w]
                 rfl
                refine take_ (i := 15) (N := some 31) (v := ?_) (a' := ?_) #[true, true, true, true, true, true, true, true, true, true, true, true, true, true, true, true, false, false] rfl rfl (take_ofW HT_.out HW_.out (by kernel_rfl)) (fun _ _ _ h => h) (Or.inl ⟨by rfl, ?_⟩) hHeld ?_ ?_
                rotate_left
                ·
                 rintro w' ⟨s0, s1⟩
                 go_simp
                 with_reducible rfl
                rotate_left
                ·
                 simp only [Act.put, sA_, sB_, sC_, i64_w, i32_w]
                 rfl
                refine pure_ (i := 16) (N := some 32) (v := ?_) (a' := ?_) #[true, true, true, true, true, true, true, true, true, true, true, true, true, true, true, true, true, false] rfl rfl (any_of HT_.out (by kernel_rfl)) (fun _ _ _ h => h) (Or.inl ⟨by rfl, ?_⟩) ?_ ?_
                rotate_left
                ·
                 intro w'
                 go_simp
                 with_reducible rfl
                rotate_left
                ·
                 simp only [Act.put, sA_, sB_, sC_, i64_w, i32_w]
                 rfl
                refine pure_ (i := 17) (N := some 33) (v := ?_) (a' := ?_) #[true, true, true, true, true, true, true, true, true, true, true, true, true, true, true, true, true, true] rfl rfl (any_of HT_.out (by kernel_rfl)) (fun _ _ _ h => h) (Or.inl ⟨by rfl, ?_⟩) ?_ ?_
                rotate_left
                ·
                 intro w'
                 go_simp
                 with_reducible rfl
                rotate_left
                ·
                 simp only [Act.put, sA_, sB_, sC_, i64_w, i32_w]
                 rfl
                refine done_ (done_of HT_.out (by kernel_rfl)) ?_
                have q31 : ((ji17) : Int) ≤ ((x5_1.length : Int) : Int) := of_decide_eq_true (by assumption)
                obtain ⟨i031, hi031, _, hsz31, _⟩ := info_parts info86
                have hcut31 := cut_to (P := Try.prog) 25 86 .i64 Try.underlying25 hi031 (some ad232) x5_1.length co29 (ji17) (of_decide_eq_true (by assumption)) q31 (Kd.R_reads' HO_5.out).2.1
                have hr31 := Kd.R_take (m := ((ji17) : Int).toNat) HO_5.out (by omega)
                have hy31 : y234.length = ((ji17) : Int).toNat := (by rw [Ny234.out, List.length_take]; omega)
                rw [← Ny234.out] at hr31
                rw [← hy31] at hr31 hcut31
                clear hy31 hi031 hsz31 HO_5
                have HO236 := Aside0.mk hr31
                clear hr31
                replace q31 := eq_true q31
                try go_wp2
                have n0_ := Aside0.mk (Kd.R_drew HO236.out)
                have n1_ := Aside0.mk (Kd.R_drew HO_6.out)
                have n2_ := Aside0.mk (blk_drew BK217.out)
                have n3_ := Aside0.mk (below_drew1 HB.out)
                clear HO236
                clear HO_6
                clear BK217
                clear HB
                have HO236 := n0_
                have HO_6 := n1_
                have BK217 := n2_
                have HB := n3_
                clear n0_ n1_ n2_ n3_
                have p237 : 0 ≤ ((ji20) : Int) := of_decide_eq_true (by assumption)
                have q237 : (ji20) < (x6_1.length : Int) := of_decide_eq_true (by assumption)
                obtain ⟨ad237, e237, hx237_0⟩ := Kd.at_int (Kd.R_reads' HO_6.out).2.2 (ji20) p237 q237
                obtain rfl : ad233 = ad237 := (by injection e237)
                replace p237 := eq_true p237
                replace q237 := eq_true q237
                have q33 : ((ji20) : Int) ≤ ((x6_1.length : Int) : Int) := of_decide_eq_true (by assumption)
                obtain ⟨i033, hi033, _, hsz33, _⟩ := info_parts info86
                have hroom33 : x6_1.length ≤ co30 := (Kd.R_reads' HO_6.out).2.1
                have hC33 : Kd.C (Kd.int .i8) _ (some ad233) x6_1.length x6_1 := (Kd.R_reads' HO_6.out).2.2
                have hcut33 := cut_to (P := Try.prog) 25 86 .i64 Try.underlying25 hi033 (some ad233) x6_1.length co30 (ji20) (of_decide_eq_true (by assumption)) q33 hroom33
                have hr33 := Kd.C_take (m := ((ji20) : Int).toNat) hC33 (by omega)
                have hy33 : y241.length = ((ji20) : Int).toNat := (by rw [Ny241.out, List.length_take]; omega)
                rw [← Ny241.out] at hr33
                rw [← hy33] at hcut33
                have HR244 := Aside0.mk hr33
                have HC244 := Aside0.mk (show y241.length ≤ co30 from by omega)
                clear hr33 hC33 hroom33 hi033 hsz33
                have KY33 := Aside0.mk hy33
                clear hy33
                have KL33 := Aside0.mk (show ((ji20) : Int).toNat ≤ x6_1.length from by omega)
                replace q33 := eq_true q33
                refine start_ (n := 14) (S := fun w' => w'.cell? (ad233.add ((ji20)).toNat) = some (.int .i8 (rd x6_1 (ji20)))) (ds := [12]) #[false, false, false, false, false, false, false, false, false, false, false, false, false, false] (by kernel_rfl) rfl rfl (hx237_0) (fun hHeld => ?_); refine with_tabW spec_l03Normal.tab5 spec_l03Normal.bits5 (fun HT_ HW_ => ?_)
                generalize w28.drew = w32 at HO236 HO_6 BK217 HB HR244 hx237_0 hHeld ⊢
                refine pure_ (i := 0) (N := some 39) (v := ?_) (a' := ?_) #[true, false, false, false, false, false, false, false, false, false, false, false, false, false] rfl rfl (any_of HT_.out (by kernel_rfl)) (fun _ _ _ h => h) (Or.inl ⟨by rfl, ?_⟩) ?_ ?_
                rotate_left
                ·
                 intro w'
                 go_simp
                 with_reducible rfl
                rotate_left
                ·
                 simp only [Act.put, sA_, sB_, sC_, i64_w, i32_w]
                 rfl
                refine pure_ (i := 1) (N := some 40) (v := ?_) (a' := ?_) #[true, true, false, false, false, false, false, false, false, false, false, false, false, false] rfl rfl (any_of HT_.out (by kernel_rfl)) (fun _ _ _ h => h) (Or.inl ⟨by rfl, ?_⟩) ?_ ?_
                rotate_left
                ·
                 intro w'
                 go_simp
                 with_reducible rfl
                rotate_left
                ·
                 simp only [Act.put, sA_, sB_, sC_, i64_w, i32_w]
                 rfl
                refine pure_ (i := 2) (N := some 41) (v := ?_) (a' := ?_) #[true, true, true, false, false, false, false, false, false, false, false, false, false, false] rfl rfl (any_of HT_.out (by kernel_rfl)) (fun _ _ _ h => h) (Or.inl ⟨by rfl, ?_⟩) ?_ ?_
                rotate_left
                ·
                 intro w'
                 go_simp
                 with_reducible rfl
                rotate_left
                ·
                 simp only [Act.put, sA_, sB_, sC_, i64_w, i32_w]
                 rfl
                refine pure_ (i := 3) (N := some 42) (v := ?_) (a' := ?_) #[true, true, true, true, false, false, false, false, false, false, false, false, false, false] rfl rfl (any_of HT_.out (by kernel_rfl)) (fun _ _ _ h => h) (Or.inl ⟨by rfl, ?_⟩) ?_ ?_
                rotate_left
                ·
                 intro w'
                 go_simp
                 with_reducible rfl
                rotate_left
                ·
                 simp only [Act.put, sA_, sB_, sC_, i64_w, i32_w]
                 rfl
                refine pure_ (i := 4) (N := some 43) (v := ?_) (a' := ?_) #[true, true, true, true, true, false, false, false, false, false, false, false, false, false] rfl rfl (any_of HT_.out (by kernel_rfl)) (fun _ _ _ h => h) (Or.inl ⟨by rfl, ?_⟩) ?_ ?_
                rotate_left
                ·
                 intro w'
                 go_simp
                 with_reducible rfl
                rotate_left
                ·
                 simp only [Act.put, sA_, sB_, sC_, i64_w, i32_w]
                 rfl
                refine pure_ (i := 7) (N := some 46) (v := ?_) (a' := ?_) #[true, true, true, true, true, false, false, true, false, false, false, false, false, false] rfl rfl (any_of HT_.out (by kernel_rfl)) (fun _ _ _ h => h) (Or.inl ⟨by rfl, ?_⟩) ?_ ?_
                rotate_left
                ·
                 intro w'
                 go_simp
                 with_reducible rfl
                rotate_left
                ·
                 simp only [Act.put, sA_, sB_, sC_, i64_w, i32_w]
                 rfl
                refine pure_ (i := 8) (N := some 47) (v := ?_) (a' := ?_) #[true, true, true, true, true, false, false, true, true, false, false, false, false, false] rfl rfl (any_of HT_.out (by kernel_rfl)) (fun _ _ _ h => h) (Or.inl ⟨by rfl, ?_⟩) ?_ ?_
                rotate_left
                ·
                 intro w'
                 go_simp
                 with_reducible rfl
                rotate_left
                ·
                 simp only [Act.put, sA_, sB_, sC_, i64_w, i32_w]
                 rfl
                refine pure_ (i := 9) (N := some 48) (v := ?_) (a' := ?_) #[true, true, true, true, true, false, false, true, true, true, false, false, false, false] rfl rfl (any_of HT_.out (by kernel_rfl)) (fun _ _ _ h => h) (Or.inl ⟨by rfl, ?_⟩) ?_ ?_
                rotate_left
                ·
                 intro w'
                 go_simp
                 with_reducible rfl
                rotate_left
                ·
                 simp only [Act.put, sA_, sB_, sC_, i64_w, i32_w]
                 rfl
                refine pure_ (i := 10) (N := some 49) (v := ?_) (a' := ?_) #[true, true, true, true, true, false, false, true, true, true, true, false, false, false] rfl rfl (any_of HT_.out (by kernel_rfl)) (fun _ _ _ h => h) (Or.inl ⟨by rfl, ?_⟩) ?_ ?_
                rotate_left
                ·
                 intro w'
                 go_simp
                 with_reducible rfl
                rotate_left
                ·
                 simp only [Act.put, sA_, sB_, sC_, i64_w, i32_w]
                 rfl
                refine pure_ (i := 11) (N := some 50) (v := ?_) (a' := ?_) #[true, true, true, true, true, false, false, true, true, true, true, true, false, false] rfl rfl (any_of HT_.out (by kernel_rfl)) (fun _ _ _ h => h) (Or.inl ⟨by rfl, ?_⟩) ?_ ?_
                rotate_left
                ·
                 intro w'
                 go_simp
                 with_reducible rfl
                rotate_left
                ·
                 simp only [Act.put, sA_, sB_, sC_, i64_w, i32_w]
                 rfl
                refine take_ (i := 5) (N := some 44) (v := ?_) (a' := ?_) #[true, true, true, true, true, true, false, true, true, true, true, true, false, false] rfl rfl (take_ofW HT_.out HW_.out (by kernel_rfl)) (fun _ _ _ h => h) (Or.inl ⟨by rfl, ?_⟩) hHeld ?_ ?_
                rotate_left
                ·
                 intro w' s0
                 go_simp
                 with_reducible rfl
                rotate_left
                ·
                 simp only [Act.put, sA_, sB_, sC_, i64_w, i32_w]
                 rfl
                refine one_ (i := 6) (N := some 45) #[true, true, true, true, true, true, true, true, true, true, true, true, false, false] rfl rfl (one_of HT_.out (by kernel_rfl)) (by decide) (fun K hK => ?_)
                refine Kd.R_lit_step (Kd.int .i8) _ 86 ?hg (N := 45) ?hd (xs := ([rd x6_1 (ji20)] : List Int)) (inner := [.int .i8 (rd x6_1 (ji20))]) (ok := fun _ => True) (okp := fun _ => True) ?hr ?hp (fun _ hk => hk) trivial (Below.refl _ _) (Nat.le_refl _) (by simp) ?_; (case hd => rfl); (case hg => rfl); (case hr => first | (go_simp; done) | (go_simp; rfl)); (case hp => exact (Reps.one (show Kd.M (Kd.int .i8) _ _ _ (rd x6_1 (ji20)) [.int .i8 (rd x6_1 (ji20))] from rfl) (Reps.none _ _)))
                intro v239 w34 ho35 hb hg_ hnew_
                have HS0_ := (hb.cell (World.block_lt_of_cell? _ _ (hHeld))).trans (hHeld)
                clear hg_ hnew_
                (first | rw [← Ny238.out] at ho35 | (simp only [Int.reduceToNat] at ho35; rw [← Ny238.out] at ho35))
                have n0_ := Aside0.mk (Kd.R_elder' z6_4_ (Kd.R_base ho35) hb)
                have n1_ := Aside0.mk (Kd.R_elder' z6_3_ (Kd.R_base ho35) hb)
                have n2_ := Aside0.mk (Kd.R_lower (Kd.R_new' (Kd.R_new' ho35 (Kd.R_lt z6_4_)) (Kd.R_lt z6_3_)) (below_size z6_1_))
                have n3_ := Aside0.mk (blk_below (g := gb217) (o := .cells #[.slice none 0 0, .slice none 0 0] 36 (0, 0)) z6_2_ hb)
                have n4_ := Aside0.mk (Kd.C_below z6_7_ hb)
                have n5_ := Aside0.mk (below_step z6_1_ hb)
                clear HO236
                clear HO_6
                clear BK217
                clear HR244
                clear HB
                have HO236 := n0_
                have HO_6 := n1_
                have HO240 := n2_
                have BK217 := n3_
                have HR244 := n4_
                have HB := n5_
                clear n0_ n1_ n2_ n3_ n4_ n5_
                clear hb ho35
                refine hK.out _ _ (HS0_) (fun hHeld => ?_)
                clear hK K
                refine norm_ (a' := ?_) ?_ ?_
                rotate_left
                ·
                 show Act.put _ (some 45) _ = _
                 simp only [Act.put, sA_, sB_, sC_, i64_w, i32_w]
                 rfl
                refine last_ (i := 12) (N := some 51) #[true, true, true, true, true, true, true, true, true, true, true, true, true, false] rfl rfl (one_of HT_.out (by kernel_rfl)) (by decide) (fun K hK => ?_)
                refine Kd.R_append_rows_step (Kd.int .i8) (w0 := w) w.heap.size (by rfl) (.tmp 45) (.tmp 50) 25 86 (.int .i8 0) 1 rfl Try.underlying25 info86 rfl (by decide) (by omega) v239 y238 y241 _ _ _ (fun k_ => some k_ ≠ (.slice (some ad232) y234.length co29 : Value).ownBlock ∧ some k_ ≠ (.slice (some ad233) x6_1.length co30 : Value).ownBlock) (fun _ => False) rfl rfl ?aO ?aR (fun _ _ h => h) (fun _ h => h.elim) ?aF ?aB ?aS ?aL ?_
                (case aR => repeat (first | exact z6_7_ | (with_reducible refine Kd.C_alloc ?_ _) | (with_reducible refine Kd.C_drewN ?_ _) | (with_reducible refine Kd.C_drew ?_)))
                (case aB => exact z6_1_)
                (case aF => exact (fun k_ hk => ⟨Kd.fresh' (Kd.R_lt z6_4_) k_ hk, Kd.fresh' (Kd.R_lt z6_3_) k_ hk⟩))
                (case aO => exact (by (with_reducible repeat (first | apply Kd.R_alloc | apply Kd.R_drewN | apply Kd.R_drew)); exact Kd.R_mono HO240.out (fun _ hk => ⟨hk.1.2, hk.2⟩)))
                (case aS => exact (below_size z6_1_))
                (case aL => have := LMc27.out; omega)
                intro v246 w36 ho hb hg hat
                rw [← Ny245.out] at ho
                have n0_ := Aside0.mk (Kd.R_after (ok := (fun k_ => some k_ ≠ (.slice (some ad233) x6_1.length co30 : Value).ownBlock)) z6_4_ hg hat)
                have n1_ := Aside0.mk (Kd.R_after (ok := (fun k_ => some k_ ≠ (.slice (some ad232) y234.length co29 : Value).ownBlock)) z6_3_ hg hat)
                have n2_ := Aside0.mk (blk_grown (g := gb217) (o := .cells #[.slice none 0 0, .slice none 0 0] 36 (0, 0)) z6_2_ hg (Kd.R_ne HO240.out BK217.out (by decide)))
                have n3_ := Aside0.mk (hb)
                have n4_ := Aside0.mk ((show Kd.C (Kd.int .i8) w36 (some ad233) y241.length y241 from by rw [Ny241.out]; exact Kd.C_take (m := ((ji20) : Int).toNat) ((Kd.R_reads' (Kd.R_after (ok := (fun k_ => some k_ ≠ (.slice (some ad232) y234.length co29 : Value).ownBlock)) z6_3_ hg hat)).2.2) KL33.out))
                have n5_ := Aside0.mk (ho)
                clear HO236
                clear HO_6
                clear BK217
                clear HB
                clear HR244
                clear HO240
                have HO236 := n0_
                have HO_6 := n1_
                have BK217 := n2_
                have HB := n3_
                have HR244 := n4_
                have HO247 := n5_
                clear n0_ n1_ n2_ n3_ n4_ n5_
                clear ho hb hg hat
                refine hK.out _ _ ?_
                clear hK K
                refine norm_ (a' := ?_) ?_ ?_
                rotate_left
                ·
                 show Act.put _ (some 51) _ = _
                 simp only [Act.put, sA_, sB_, sC_, i64_w, i32_w]
                 rfl
                refine pure_ (i := 13) (N := some 6) (v := ?_) (a' := ?_) #[true, true, true, true, true, true, true, true, true, true, true, true, true, true] rfl rfl (any_of HT_.out (by kernel_rfl)) (fun _ _ _ h => h) (Or.inl ⟨by rfl, ?_⟩) ?_ ?_
                rotate_left
                ·
                 intro w'
                 go_simp
                 with_reducible rfl
                rotate_left
                ·
                 simp only [Act.put, sA_, sB_, sC_, i64_w, i32_w]
                 rfl
                refine done_ (done_of HT_.out (by kernel_rfl)) ?_
                try go_wp2
                go_roundg k1
                case measure => have := HK1.out; omega
                case rel => exact ⟨(y234), (y245), H', ⟨by have := HK1.out; omega⟩, ⟨by (with_reducible repeat (first | apply Kd.R_alloc | apply Kd.R_drewN | apply Kd.R_drew)); exact Kd.R_mono HO236.out (fun _ hk => hk.2)⟩, ⟨by (with_reducible repeat (first | apply Kd.R_alloc | apply Kd.R_drewN | apply Kd.R_drew)); exact Kd.R_mono HO247.out (fun _ hk => hk.1)⟩, ⟨by (with_reducible repeat (first | refine blk_drewN ?_ _ | refine blk_drew ?_ | refine blk_alloc ?_ _)); exact BK217.out⟩, ⟨by repeat (first | (with_reducible first | exact HB.out | apply below_alloc | apply pw_below_drewN | apply below_drew1 | refine below_set ?_ GE217.out) | exact HB.out)⟩⟩
               ·
                rw [if_neg c27] at H
                exact absurd H (by simp)
              ·
               rw [if_neg c26] at H
               exact absurd H (by simp)
             ·
              rw [if_neg c24] at H
              exact absurd H (by simp)
            ·
             rw [if_neg c23] at H
             have c23b0 : ((rd x5_1 (ji17)) == (rd x6_1 (ji20))) = false := beq_eq_false_iff_ne.mpr c23
             have c23b1 : ((rd x5_1 (ji17)) != (rd x6_1 (ji20))) = true := bne_iff_ne.mpr c23
             simp only [Option.some.injEq, Prod.mk.injEq] at H
             obtain ⟨rfl, rfl⟩ := H
             try go_wp2
             have n0_ := Aside0.mk (Kd.R_drew HO_5.out)
             have n1_ := Aside0.mk (Kd.R_drew HO_6.out)
             have n2_ := Aside0.mk (blk_drew BK217.out)
             have n3_ := Aside0.mk (below_drew1 HB.out)
             clear HO_5
             clear HO_6
             clear BK217
             clear HB
             have HO_5 := n0_
             have HO_6 := n1_
             have BK217 := n2_
             have HB := n3_
             clear n0_ n1_ n2_ n3_
             obtain ⟨Ao38, co38, eo38⟩ := Kd.R_slice HO_5.out
             (first | subst eo38 | (injection eo38 with f1_ f2_ f3_; have f4_ := f1_.symm; have f5_ := f3_.symm; clear f1_ f2_ f3_; subst f4_; subst f5_))
             have p232 : 0 ≤ ((ji17) : Int) := of_decide_eq_true (by assumption)
             have q232 : (ji17) < (x5_1.length : Int) := of_decide_eq_true (by assumption)
             obtain ⟨ad232, e232, hx232_0⟩ := Kd.at_int (Kd.R_reads' HO_5.out).2.2 (ji17) p232 q232
             cases e232
             replace p232 := eq_true p232
             replace q232 := eq_true q232
             obtain ⟨Ao39, co39, eo39⟩ := Kd.R_slice HO_6.out
             (first | subst eo39 | (injection eo39 with f1_ f2_ f3_; have f4_ := f1_.symm; have f5_ := f3_.symm; clear f1_ f2_ f3_; subst f4_; subst f5_))
             have p233 : 0 ≤ ((ji20) : Int) := of_decide_eq_true (by assumption)
             have q233 : (ji20) < (x6_1.length : Int) := of_decide_eq_true (by assumption)
             obtain ⟨ad233, e233, hx233_0⟩ := Kd.at_int (Kd.R_reads' HO_6.out).2.2 (ji20) p233 q233
             cases e233
             replace p233 := eq_true p233
             replace q233 := eq_true q233
             refine start_ (n := 18) (S := fun w' => w'.cell? (ad232.add ((ji17)).toNat) = some (.int .i8 (rd x5_1 (ji17))) ∧ w'.cell? (ad233.add ((ji20)).toNat) = some (.int .i8 (rd x6_1 (ji20)))) (ds := []) #[false, false, false, false, false, false, false, false, false, false, false, false, false, false, false, false, false, false] (by kernel_rfl) rfl rfl ⟨hx232_0, hx233_0⟩ (fun hHeld => ?_); refine with_tabW spec_l03Normal.tab3 spec_l03Normal.bits3 (fun HT_ HW_ => ?_)
             generalize wr.drew = w37 at HO_5 HO_6 BK217 HB hx232_0 hx233_0 hHeld ⊢
             refine pure_ (i := 0) (N := some 16) (v := ?_) (a' := ?_) #[true, false, false, false, false, false, false, false, false, false, false, false, false, false, false, false, false, false] rfl rfl (any_of HT_.out (by kernel_rfl)) (fun _ _ _ h => h) (Or.inl ⟨by rfl, ?_⟩) ?_ ?_
             rotate_left
             ·
              intro w'
              go_simp
              with_reducible rfl
             rotate_left
             ·
              simp only [Act.put, sA_, sB_, sC_, i64_w, i32_w]
              rfl
             refine pure_ (i := 1) (N := some 17) (v := ?_) (a' := ?_) #[true, true, false, false, false, false, false, false, false, false, false, false, false, false, false, false, false, false] rfl rfl (any_of HT_.out (by kernel_rfl)) (fun _ _ _ h => h) (Or.inl ⟨by rfl, ?_⟩) ?_ ?_
             rotate_left
             ·
              intro w'
              go_simp
              with_reducible rfl
             rotate_left
             ·
              simp only [Act.put, sA_, sB_, sC_, i64_w, i32_w]
              rfl
             refine pure_ (i := 2) (N := some 18) (v := ?_) (a' := ?_) #[true, true, true, false, false, false, false, false, false, false, false, false, false, false, false, false, false, false] rfl rfl (any_of HT_.out (by kernel_rfl)) (fun _ _ _ h => h) (Or.inl ⟨by rfl, ?_⟩) ?_ ?_
             rotate_left
             ·
              intro w'
              go_simp
              with_reducible rfl
             rotate_left
             ·
              simp only [Act.put, sA_, sB_, sC_, i64_w, i32_w]
              rfl
             refine pure_ (i := 3) (N := some 19) (v := ?_) (a' := ?_) #[true, true, true, true, false, false, false, false, false, false, false, false, false, false, false, false, false, false] rfl rfl (any_of HT_.out (by kernel_rfl)) (fun _ _ _ h => h) (Or.inl ⟨by rfl, ?_⟩) ?_ ?_
             rotate_left
             ·
              intro w'
              go_simp
              with_reducible rfl
             rotate_left
             ·
              simp only [Act.put, sA_, sB_, sC_, i64_w, i32_w]
              rfl
             refine pure_ (i := 4) (N := some 20) (v := ?_) (a' := ?_) #[true, true, true, true, true, false, false, false, false, false, false, false, false, false, false, false, false, false] rfl rfl (any_of HT_.out (by kernel_rfl)) (fun _ _ _ h => h) (Or.inl ⟨by rfl, ?_⟩) ?_ ?_
             rotate_left
             ·
              intro w'
              go_simp
              with_reducible rfl
             rotate_left
             ·
              simp only [Act.put, sA_, sB_, sC_, i64_w, i32_w]
              rfl
             refine pure_ (i := 5) (N := some 21) (v := ?_) (a' := ?_) #[true, true, true, true, true, true, false, false, false, false, false, false, false, false, false, false, false, false] rfl rfl (any_of HT_.out (by kernel_rfl)) (fun _ _ _ h => h) (Or.inl ⟨by rfl, ?_⟩) ?_ ?_
             rotate_left
             ·
              intro w'
              go_simp
              with_reducible rfl
             rotate_left
             ·
              simp only [Act.put, sA_, sB_, sC_, i64_w, i32_w]
              rfl
             refine pure_ (i := 6) (N := some 22) (v := ?_) (a' := ?_) #[true, true, true, true, true, true, true, false, false, false, false, false, false, false, false, false, false, false] rfl rfl (any_of HT_.out (by kernel_rfl)) (fun _ _ _ h => h) (Or.inl ⟨by rfl, ?_⟩) ?_ ?_
             rotate_left
             ·
              intro w'
              go_simp
              with_reducible rfl
             rotate_left
             ·
              simp only [Act.put, sA_, sB_, sC_, i64_w, i32_w]
              rfl
             refine pure_ (i := 7) (N := some 23) (v := ?_) (a' := ?_) #[true, true, true, true, true, true, true, true, false, false, false, false, false, false, false, false, false, false] rfl rfl (any_of HT_.out (by kernel_rfl)) (fun _ _ _ h => h) (Or.inl ⟨by rfl, ?_⟩) ?_ ?_
             rotate_left
             ·
              intro w'
              go_simp
              with_reducible rfl
             rotate_left
             ·
              simp only [Act.put, sA_, sB_, sC_, i64_w, i32_w]
              rfl
             refine pure_ (i := 8) (N := some 24) (v := ?_) (a' := ?_) #[true, true, true, true, true, true, true, true, true, false, false, false, false, false, false, false, false, false] rfl rfl (any_of HT_.out (by kernel_rfl)) (fun _ _ _ h => h) (Or.inl ⟨by rfl, ?_⟩) ?_ ?_
             rotate_left
             ·
              intro w'
              go_simp
              with_reducible rfl
             rotate_left
             ·
              simp only [Act.put, sA_, sB_, sC_, i64_w, i32_w]
              rfl
             refine pure_ (i := 10) (N := some 26) (v := ?_) (a' := ?_) #[true, true, true, true, true, true, true, true, true, false, true, false, false, false, false, false, false, false] rfl rfl (any_of HT_.out (by kernel_rfl)) (fun _ _ _ h => h) (Or.inl ⟨by rfl, ?_⟩) ?_ ?_
             rotate_left
             ·
              intro w'
              go_simp
              with_reducible rfl
             rotate_left
             ·
              simp only [Act.put, sA_, sB_, sC_, i64_w, i32_w]
              rfl
             refine pure_ (i := 11) (N := some 27) (v := ?_) (a' := ?_) #[true, true, true, true, true, true, true, true, true, false, true, true, false, false, false, false, false, false] rfl rfl (any_of HT_.out (by kernel_rfl)) (fun _ _ _ h => h) (Or.inl ⟨by rfl, ?_⟩) ?_ ?_
             rotate_left
             ·
              intro w'
              go_simp
              with_reducible rfl
             rotate_left
             ·
              simp only [Act.put, sA_, sB_, sC_, i64_w, i32_w]
              rfl
             refine pure_ (i := 12) (N := some 28) (v := ?_) (a' := ?_) #[true, true, true, true, true, true, true, true, true, false, true, true, true, false, false, false, false, false] rfl rfl (any_of HT_.out (by kernel_rfl)) (fun _ _ _ h => h) (Or.inl ⟨by rfl, ?_⟩) ?_ ?_
             rotate_left
             ·
              intro w'
              go_simp
              with_reducible rfl
             rotate_left
             ·
              simp only [Act.put, sA_, sB_, sC_, i64_w, i32_w]
              rfl
             refine pure_ (i := 13) (N := some 29) (v := ?_) (a' := ?_) #[true, true, true, true, true, true, true, true, true, false, true, true, true, true, false, false, false, false] rfl rfl (any_of HT_.out (by kernel_rfl)) (fun _ _ _ h => h) (Or.inl ⟨by rfl, ?_⟩) ?_ ?_
             rotate_left
             ·
              intro w'
              go_simp
              with_reducible rfl
             rotate_left
             ·
              simp only [Act.put, sA_, sB_, sC_, i64_w, i32_w]
              rfl
             refine pure_ (i := 14) (N := some 30) (v := ?_) (a' := ?_) #[true, true, true, true, true, true, true, true, true, false, true, true, true, true, true, false, false, false] rfl rfl (any_of HT_.out (by kernel_rfl)) (fun _ _ _ h => h) (Or.inl ⟨by rfl, ?_⟩) ?_ ?_
             rotate_left
             ·
              intro w'
              go_simp
              with_reducible rfl
             rotate_left
             ·
              simp only [Act.put, sA_, sB_, sC_, i64_w, i32_w]
              rfl
             refine take_ (i := 9) (N := some 25) (v := ?_) (a' := ?_) #[true, true, true, true, true, true, true, true, true, true, true, true, true, true, true, false, false, false] rfl rfl (take_ofW HT_.out HW_.out (by kernel_rfl)) (fun _ _ _ h => h) (Or.inl ⟨by rfl, ?_⟩) hHeld ?_ ?_
             rotate_left
             ·
              rintro w' ⟨s0, s1⟩
              go_simp
              with_reducible rfl
             rotate_left
             ·
              simp only [Act.put, sA_, sB_, sC_, i64_w, i32_w]
              rfl
             refine take_ (i := 15) (N := some 31) (v := ?_) (a' := ?_) #[true, true, true, true, true, true, true, true, true, true, true, true, true, true, true, true, false, false] rfl rfl (take_ofW HT_.out HW_.out (by kernel_rfl)) (fun _ _ _ h => h) (Or.inl ⟨by rfl, ?_⟩) hHeld ?_ ?_
             rotate_left
             ·
              rintro w' ⟨s0, s1⟩
              go_simp
              with_reducible rfl
             rotate_left
             ·
              simp only [Act.put, sA_, sB_, sC_, i64_w, i32_w]
              rfl
             refine pure_ (i := 16) (N := some 32) (v := ?_) (a' := ?_) #[true, true, true, true, true, true, true, true, true, true, true, true, true, true, true, true, true, false] rfl rfl (any_of HT_.out (by kernel_rfl)) (fun _ _ _ h => h) (Or.inl ⟨by rfl, ?_⟩) ?_ ?_
             rotate_left
             ·
              intro w'
              go_simp
              with_reducible rfl
             rotate_left
             ·
              simp only [Act.put, sA_, sB_, sC_, i64_w, i32_w]
              rfl
             refine pure_ (i := 17) (N := some 33) (v := ?_) (a' := ?_) #[true, true, true, true, true, true, true, true, true, true, true, true, true, true, true, true, true, true] rfl rfl (any_of HT_.out (by kernel_rfl)) (fun _ _ _ h => h) (Or.inl ⟨by rfl, ?_⟩) ?_ ?_
             rotate_left
             ·
              intro w'
              go_simp
              with_reducible rfl
             rotate_left
             ·
              simp only [Act.put, sA_, sB_, sC_, i64_w, i32_w]
              rfl
             refine done_ (done_of HT_.out (by kernel_rfl)) ?_
             have hcz40_0 : w37.cell? ⟨gb217, 0, none⟩ = some (.slice none 0 0) := (blk_cell BK217.out 0).trans rfl
             have hcz40_1 : w37.cell? ⟨gb217, 1, none⟩ = some (.slice none 0 0) := (blk_cell BK217.out 1).trans rfl
             have hfz40_0 := blk_frozen BK217.out 0
             have hfz40_1 := blk_frozen BK217.out 1
             try go_wp2
             refine bodyPost_ret (results_cell_row rfl _ _ gb217 36 #[.slice (some ad232) x5_1.length co38, .slice (some ad233) x6_1.length co39] (0, 0) _ rfl (by (with_reducible repeat (first | refine blk_drewN ?_ _ | refine blk_drew ?_ | refine blk_alloc ?_ _)); refine blk_put (cs := #[.slice (some ad232) x5_1.length co38, .slice none 0 0]) ?_ 1 _ rfl; (with_reducible repeat (first | refine blk_drewN ?_ _ | refine blk_drew ?_ | refine blk_alloc ?_ _)); refine blk_put (cs := #[.slice none 0 0, .slice none 0 0]) ?_ 0 _ rfl; (with_reducible repeat (first | refine blk_drewN ?_ _ | refine blk_drew ?_ | refine blk_alloc ?_ _)); exact BK217.out) Try.underlying36 rfl (by kernel_rfl)) rfl ?_
             exact ⟨_, _, by first | rfl | (simp [errW_none, errW_some] <;> rfl) | (simp only [← hji17, ← hji20]; first | rfl | (simp [errW_none, errW_some] <;> rfl)) | (simp [*, errW_none, errW_some] <;> rfl), by (with_reducible repeat (first | apply Kd.R_alloc | apply Kd.R_drewN | apply Kd.R_drew)); exact Kd.R_mono (Kd.R_far (p := ⟨gb217, 1, none⟩) (Kd.R_far (p := ⟨gb217, 0, none⟩) (Kd.R_types HO_5.out BK217.out (by decide)) (fun _ hk => hk.2) (.slice (some ad232) x5_1.length co38)) (fun _ hk => hk.2) (.slice (some ad233) x6_1.length co39)) (fun _ hk => hk.1), by (with_reducible repeat (first | apply Kd.R_alloc | apply Kd.R_drewN | apply Kd.R_drew)); exact Kd.R_mono (Kd.R_far (p := ⟨gb217, 1, none⟩) (Kd.R_far (p := ⟨gb217, 0, none⟩) (Kd.R_types HO_6.out BK217.out (by decide)) (fun _ hk => hk.2) (.slice (some ad232) x5_1.length co38)) (fun _ hk => hk.2) (.slice (some ad233) x6_1.length co39)) (fun _ hk => hk.1), by repeat (first | (with_reducible first | exact HB.out | apply below_alloc | apply pw_below_drewN | apply below_drew1 | refine below_set ?_ GE217.out) | exact HB.out)⟩
           ·
            rw [if_neg c22] at H
            exact absurd H (by simp)
          ·
           rw [if_neg c21] at H
           exact absurd H (by simp)
         ·
          rw [if_neg c19] at H
          exact absurd H (by simp)
        ·
         rw [if_neg c18] at H
         exact absurd H (by simp)
       ·
        rw [if_neg c16] at H
        have c16b0 : decide (0 < (x5_1.length : Int)) = false := decide_eq_false c16
        have c16b1 : decide (0 < x5_1.length) = false := decide_eq_false (by omega)
        clear c16
        simp only [Option.some.injEq, Prod.mk.injEq] at H
        obtain ⟨rfl, rfl⟩ := H
        try go_wp2
        have n0_ := Aside0.mk (Kd.R_drew HO_5.out)
        have n1_ := Aside0.mk (Kd.R_drew HO_6.out)
        have n2_ := Aside0.mk (blk_drew BK217.out)
        have n3_ := Aside0.mk (below_drew1 HB.out)
        clear HO_5
        clear HO_6
        clear BK217
        clear HB
        have HO_5 := n0_
        have HO_6 := n1_
        have BK217 := n2_
        have HB := n3_
        clear n0_ n1_ n2_ n3_
        obtain ⟨Ao42, co42, eo42⟩ := Kd.R_slice HO_5.out
        (first | subst eo42 | (injection eo42 with f1_ f2_ f3_; have f4_ := f1_.symm; have f5_ := f3_.symm; clear f1_ f2_ f3_; subst f4_; subst f5_))
        refine start_ (n := 18) (S := fun w' => True) (ds := []) #[false, false, false, false, false, false, false, false, false, false, false, false, false, false, false, false, false, false] (by kernel_rfl) rfl rfl trivial (fun hHeld => ?_); refine with_tabW spec_l03Normal.tab3 spec_l03Normal.bits3 (fun HT_ HW_ => ?_)
        generalize wr.drew = w41 at HO_5 HO_6 BK217 HB hHeld ⊢
        refine pure_ (i := 0) (N := some 16) (v := ?_) (a' := ?_) #[true, false, false, false, false, false, false, false, false, false, false, false, false, false, false, false, false, false] rfl rfl (any_of HT_.out (by kernel_rfl)) (fun _ _ _ h => h) (Or.inl ⟨by rfl, ?_⟩) ?_ ?_
        rotate_left
        ·
         intro w'
         go_simp
         with_reducible rfl
        rotate_left
        ·
         simp only [Act.put, sA_, sB_, sC_, i64_w, i32_w]
         rfl
        refine pure_ (i := 1) (N := some 17) (v := ?_) (a' := ?_) #[true, true, false, false, false, false, false, false, false, false, false, false, false, false, false, false, false, false] rfl rfl (any_of HT_.out (by kernel_rfl)) (fun _ _ _ h => h) (Or.inl ⟨by rfl, ?_⟩) ?_ ?_
        rotate_left
        ·
         intro w'
         go_simp
         with_reducible rfl
        rotate_left
        ·
         simp only [Act.put, sA_, sB_, sC_, i64_w, i32_w]
         rfl
        refine pure_ (i := 2) (N := some 18) (v := ?_) (a' := ?_) #[true, true, true, false, false, false, false, false, false, false, false, false, false, false, false, false, false, false] rfl rfl (any_of HT_.out (by kernel_rfl)) (fun _ _ _ h => h) (Or.inl ⟨by rfl, ?_⟩) ?_ ?_
        rotate_left
        ·
         intro w'
         go_simp
         with_reducible rfl
        rotate_left
        ·
         simp only [Act.put, sA_, sB_, sC_, i64_w, i32_w]
         rfl
        refine pure_ (i := 3) (N := some 19) (v := ?_) (a' := ?_) #[true, true, true, true, false, false, false, false, false, false, false, false, false, false, false, false, false, false] rfl rfl (any_of HT_.out (by kernel_rfl)) (fun _ _ _ h => h) (Or.inl ⟨by rfl, ?_⟩) ?_ ?_
        rotate_left
        ·
         intro w'
         go_simp
         with_reducible rfl
        rotate_left
        ·
         simp only [Act.put, sA_, sB_, sC_, i64_w, i32_w]
         rfl
        refine pure_ (i := 4) (N := some 20) (v := undef) (a' := ?_) #[true, true, true, true, true, false, false, false, false, false, false, false, false, false, false, false, false, false] rfl rfl (any_of HT_.out (by kernel_rfl)) (fun _ _ _ h => h) (Or.inr ⟨by rfl, rfl⟩) ?_ ?_
        rotate_left
        ·
         simp only [Act.put, sA_, sB_, sC_, i64_w, i32_w]
         rfl
        refine pure_ (i := 5) (N := some 21) (v := undef) (a' := ?_) #[true, true, true, true, true, true, false, false, false, false, false, false, false, false, false, false, false, false] rfl rfl (any_of HT_.out (by kernel_rfl)) (fun _ _ _ h => h) (Or.inr ⟨by rfl, rfl⟩) ?_ ?_
        rotate_left
        ·
         simp only [Act.put, sA_, sB_, sC_, i64_w, i32_w]
         rfl
        refine pure_ (i := 6) (N := some 22) (v := undef) (a' := ?_) #[true, true, true, true, true, true, true, false, false, false, false, false, false, false, false, false, false, false] rfl rfl (any_of HT_.out (by kernel_rfl)) (fun _ _ _ h => h) (Or.inr ⟨by rfl, rfl⟩) ?_ ?_
        rotate_left
        ·
         simp only [Act.put, sA_, sB_, sC_, i64_w, i32_w]
         rfl
        refine pure_ (i := 7) (N := some 23) (v := undef) (a' := ?_) #[true, true, true, true, true, true, true, true, false, false, false, false, false, false, false, false, false, false] rfl rfl (any_of HT_.out (by kernel_rfl)) (fun _ _ _ h => h) (Or.inr ⟨by rfl, rfl⟩) ?_ ?_
        rotate_left
        ·
         simp only [Act.put, sA_, sB_, sC_, i64_w, i32_w]
         rfl
        refine pure_ (i := 8) (N := some 24) (v := undef) (a' := ?_) #[true, true, true, true, true, true, true, true, true, false, false, false, false, false, false, false, false, false] rfl rfl (any_of HT_.out (by kernel_rfl)) (fun _ _ _ h => h) (Or.inr ⟨by rfl, rfl⟩) ?_ ?_
        rotate_left
        ·
         simp only [Act.put, sA_, sB_, sC_, i64_w, i32_w]
         rfl
        refine pure_ (i := 9) (N := some 25) (v := undef) (a' := ?_) #[true, true, true, true, true, true, true, true, true, true, false, false, false, false, false, false, false, false] rfl rfl (any_of HT_.out (by kernel_rfl)) (fun _ _ _ h => h) (Or.inr ⟨by rfl, rfl⟩) ?_ ?_
        rotate_left
        ·
         simp only [Act.put, sA_, sB_, sC_, i64_w, i32_w]
         rfl
        refine pure_ (i := 10) (N := some 26) (v := undef) (a' := ?_) #[true, true, true, true, true, true, true, true, true, true, true, false, false, false, false, false, false, false] rfl rfl (any_of HT_.out (by kernel_rfl)) (fun _ _ _ h => h) (Or.inr ⟨by rfl, rfl⟩) ?_ ?_
        rotate_left
        ·
         simp only [Act.put, sA_, sB_, sC_, i64_w, i32_w]
         rfl
        refine pure_ (i := 11) (N := some 27) (v := undef) (a' := ?_) #[true, true, true, true, true, true, true, true, true, true, true, true, false, false, false, false, false, false] rfl rfl (any_of HT_.out (by kernel_rfl)) (fun _ _ _ h => h) (Or.inr ⟨by rfl, rfl⟩) ?_ ?_
        rotate_left
        ·
         simp only [Act.put, sA_, sB_, sC_, i64_w, i32_w]
         rfl
        refine pure_ (i := 12) (N := some 28) (v := undef) (a' := ?_) #[true, true, true, true, true, true, true, true, true, true, true, true, true, false, false, false, false, false] rfl rfl (any_of HT_.out (by kernel_rfl)) (fun _ _ _ h => h) (Or.inr ⟨by rfl, rfl⟩) ?_ ?_
        rotate_left
        ·
         simp only [Act.put, sA_, sB_, sC_, i64_w, i32_w]
         rfl
        refine pure_ (i := 13) (N := some 29) (v := undef) (a' := ?_) #[true, true, true, true, true, true, true, true, true, true, true, true, true, true, false, false, false, false] rfl rfl (any_of HT_.out (by kernel_rfl)) (fun _ _ _ h => h) (Or.inr ⟨by rfl, rfl⟩) ?_ ?_
        rotate_left
        ·
         simp only [Act.put, sA_, sB_, sC_, i64_w, i32_w]
         rfl
        refine pure_ (i := 14) (N := some 30) (v := undef) (a' := ?_) #[true, true, true, true, true, true, true, true, true, true, true, true, true, true, true, false, false, false] rfl rfl (any_of HT_.out (by kernel_rfl)) (fun _ _ _ h => h) (Or.inr ⟨by rfl, rfl⟩) ?_ ?_
        rotate_left
        ·
         simp only [Act.put, sA_, sB_, sC_, i64_w, i32_w]
         rfl
        refine pure_ (i := 15) (N := some 31) (v := undef) (a' := ?_) #[true, true, true, true, true, true, true, true, true, true, true, true, true, true, true, true, false, false] rfl rfl (any_of HT_.out (by kernel_rfl)) (fun _ _ _ h => h) (Or.inr ⟨by rfl, rfl⟩) ?_ ?_
        rotate_left
        ·
         simp only [Act.put, sA_, sB_, sC_, i64_w, i32_w]
         rfl
        refine pure_ (i := 16) (N := some 32) (v := undef) (a' := ?_) #[true, true, true, true, true, true, true, true, true, true, true, true, true, true, true, true, true, false] rfl rfl (any_of HT_.out (by kernel_rfl)) (fun _ _ _ h => h) (Or.inr ⟨by rfl, rfl⟩) ?_ ?_
        rotate_left
        ·
         simp only [Act.put, sA_, sB_, sC_, i64_w, i32_w]
         rfl
        refine pure_ (i := 17) (N := some 33) (v := ?_) (a' := ?_) #[true, true, true, true, true, true, true, true, true, true, true, true, true, true, true, true, true, true] rfl rfl (any_of HT_.out (by kernel_rfl)) (fun _ _ _ h => h) (Or.inl ⟨by rfl, ?_⟩) ?_ ?_
        rotate_left
        ·
         intro w'
         go_simp
         with_reducible rfl
        rotate_left
        ·
         simp only [Act.put, sA_, sB_, sC_, i64_w, i32_w]
         rfl
        refine done_ (done_of HT_.out (by kernel_rfl)) ?_
        obtain ⟨Ao43, co43, eo43⟩ := Kd.R_slice HO_6.out
        subst eo43
        have hcz44_0 : w41.cell? ⟨gb217, 0, none⟩ = some (.slice none 0 0) := (blk_cell BK217.out 0).trans rfl
        have hcz44_1 : w41.cell? ⟨gb217, 1, none⟩ = some (.slice none 0 0) := (blk_cell BK217.out 1).trans rfl
        have hfz44_0 := blk_frozen BK217.out 0
        have hfz44_1 := blk_frozen BK217.out 1
        try go_wp2
        refine bodyPost_ret (results_cell_row rfl _ _ gb217 36 #[.slice Ao42 x5_1.length co42, .slice Ao43 x6_1.length co43] (0, 0) _ rfl (by (with_reducible repeat (first | refine blk_drewN ?_ _ | refine blk_drew ?_ | refine blk_alloc ?_ _)); refine blk_put (cs := #[.slice Ao42 x5_1.length co42, .slice none 0 0]) ?_ 1 _ rfl; (with_reducible repeat (first | refine blk_drewN ?_ _ | refine blk_drew ?_ | refine blk_alloc ?_ _)); refine blk_put (cs := #[.slice none 0 0, .slice none 0 0]) ?_ 0 _ rfl; (with_reducible repeat (first | refine blk_drewN ?_ _ | refine blk_drew ?_ | refine blk_alloc ?_ _)); exact BK217.out) Try.underlying36 rfl (by kernel_rfl)) rfl ?_
        exact ⟨_, _, by first | rfl | (simp [errW_none, errW_some] <;> rfl) | (simp [*, errW_none, errW_some] <;> rfl), by (with_reducible repeat (first | apply Kd.R_alloc | apply Kd.R_drewN | apply Kd.R_drew)); exact Kd.R_mono (Kd.R_far (p := ⟨gb217, 1, none⟩) (Kd.R_far (p := ⟨gb217, 0, none⟩) (Kd.R_types HO_5.out BK217.out (by decide)) (fun _ hk => hk.2) (.slice Ao42 x5_1.length co42)) (fun _ hk => hk.2) (.slice Ao43 x6_1.length co43)) (fun _ hk => hk.1), by (with_reducible repeat (first | apply Kd.R_alloc | apply Kd.R_drewN | apply Kd.R_drew)); exact Kd.R_mono (Kd.R_far (p := ⟨gb217, 1, none⟩) (Kd.R_far (p := ⟨gb217, 0, none⟩) (Kd.R_types HO_6.out BK217.out (by decide)) (fun _ hk => hk.2) (.slice Ao42 x5_1.length co42)) (fun _ hk => hk.2) (.slice Ao43 x6_1.length co43)) (fun _ hk => hk.1), by repeat (first | (with_reducible first | exact HB.out | apply below_alloc | apply pw_below_drewN | apply below_drew1 | refine below_set ?_ GE217.out) | exact HB.out)⟩
    ·
     rw [if_neg c7] at H
     exact absurd H (by simp)
   ·
    rw [if_neg c6] at H
    exact absurd H (by simp)
  ·
   rw [if_neg c5] at H
   exact absurd H (by simp)
 ·
  rw [if_neg c3] at H
  exact absurd H (by simp)
end Go.Proofs.Ytpfnohdnaocpdaa.PT

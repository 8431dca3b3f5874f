-- Written by a program (xprint.py) out of the translation's own print; Lean checks it.
import Derived.Test.YtenhgmddpkiliaaPBx0
import Derived.Test.YtenhgmddpkiliaaPBx4
import Derived.Test.YtenhgmddpkiliaaPBx5
import Derived.Test.YtenhgmddpkiliaaPBx6
namespace Go.Proofs.Ytenhgmddpkiliaa.PB
open Go.RowKit Go.Proofs.YtenhgmddpkiliaaW.PrintWords Go.Proofs.YtenhgmddpkiliaaW.PrintLast Go.Proofs.YtenhgmddpkiliaaW.PrintMore Go.Proofs.YtenhgmddpkiliaaRP
attribute [local go_sem] max2_int min2_int max_two min_two max_three min_three max_four min_four Go.Proofs.YtenhgmddpkiliaaRP.max_eight Go.Proofs.YtenhgmddpkiliaaRP.tmod_len   -- for this text's walks alone
set_option linter.unusedVariables false
set_option linter.unusedSimpArgs false
/-! ### spec_RenameLine: function 40 -/
mutual
def spec_RenameLine.j0 : Nat → List (S45) → ByteArray → ByteArray → Bool → Option ((List (S45)) × Int)
 | 0, _, _, _, _ => none
 | k + 1, x0, x1, x2, x36 => if x36 = true then (some ((([] : List (S45))), 4)) else ((some (([] : List (S45)) : List (S45))).bind fun y213 => (if y213.length + x0.length < 1954687338268 then (spec_RenameLine.l0 k x1 x2 (y213 ++ x0) 0) else (none)))
def spec_RenameLine.l0 : Nat → ByteArray → ByteArray → List (S45) → Int → Option ((List (S45)) × Int)
 | 0, _, _, _, _ => none
 | k + 1, x1, x2, x11, x12 => if x12 < (x11.length : Int) then (if 0 ≤ x12 then (if ((rd_T45 x11 x12).f0).toList = x1.toList then (spec_RenameLine.j2 k x1 x2 (x11.set (x12 : Int).toNat (⟨x2, (rd_T45 x11 x12).f1, (rd_T45 x11 x12).f2, (rd_T45 x11 x12).f3, (rd_T45 x11 x12).f4, (rd_T45 x11 x12).f5⟩ : S45)) x12) else (spec_RenameLine.j2 k x1 x2 x11 x12)) else (none)) else (some (x11, 0))
def spec_RenameLine.j2 : Nat → ByteArray → ByteArray → List (S45) → Int → Option ((List (S45)) × Int)
 | 0, _, _, _, _ => none
 | k + 1, x1, x2, x11, x12 => if 0 ≤ x12 then (if x12 < (x11.length : Int) then (if ((rd_T45 x11 x12).f2).toList = x1.toList then ((some (x11.set (x12 : Int).toNat (⟨(rd_T45 x11 x12).f0, (rd_T45 x11 x12).f1, x2, (rd_T45 x11 x12).f3, (rd_T45 x11 x12).f4, (rd_T45 x11 x12).f5⟩ : S45) : List (S45))).bind fun y222 => (if ((rd_T45 y222 x12).f3).toList = x1.toList then (spec_RenameLine.l0 k x1 x2 (y222.set (x12 : Int).toNat (⟨(rd_T45 y222 x12).f0, (rd_T45 y222 x12).f1, (rd_T45 y222 x12).f2, x2, (rd_T45 y222 x12).f4, (rd_T45 y222 x12).f5⟩ : S45)) (wrap64 (x12 + 1))) else (spec_RenameLine.l0 k x1 x2 y222 (wrap64 (x12 + 1))))) else (if ((rd_T45 x11 x12).f3).toList = x1.toList then (spec_RenameLine.l0 k x1 x2 (x11.set (x12 : Int).toNat (⟨(rd_T45 x11 x12).f0, (rd_T45 x11 x12).f1, (rd_T45 x11 x12).f2, x2, (rd_T45 x11 x12).f4, (rd_T45 x11 x12).f5⟩ : S45)) (wrap64 (x12 + 1))) else (spec_RenameLine.l0 k x1 x2 x11 (wrap64 (x12 + 1))))) else (none)) else (none)
end
def spec_RenameLine.f (k : Nat) (l0 : List (S45)) (a1 : ByteArray) (a2 : ByteArray) : Option ((List (S45)) × Int) := (spec_l07Asked.f k l0 a1 0).bind fun bt200 => (if bt200.2 = 0 then ((spec_l07Name.f k a2).bind fun t205 => (if t205 = true then ((spec_l07Find.f k l0 a2).bind fun t209 => (if t209 ≥ 0 then (spec_RenameLine.j0 k l0 a1 a2 (t209 != bt200.1)) else (spec_RenameLine.j0 k l0 a1 a2 false))) else (some ((([] : List (S45))), 2)))) else (some ((([] : List (S45))), bt200.2)))
theorem spec_RenameLine.mono_l : ∀ k, (∀ y0 y1 y2 y3, LeO (spec_RenameLine.j0 k y0 y1 y2 y3) (spec_RenameLine.j0 (k + 1) y0 y1 y2 y3)) ∧ (∀ y0 y1 y2 y3, LeO (spec_RenameLine.l0 k y0 y1 y2 y3) (spec_RenameLine.l0 (k + 1) y0 y1 y2 y3)) ∧ (∀ y0 y1 y2 y3, LeO (spec_RenameLine.j2 k y0 y1 y2 y3) (spec_RenameLine.j2 (k + 1) y0 y1 y2 y3))
 | 0 => ⟨fun _ _ _ _ r h => by simp [spec_RenameLine.j0] at h, fun _ _ _ _ r h => by simp [spec_RenameLine.l0] at h, fun _ _ _ _ r h => by simp [spec_RenameLine.j2] at h⟩
 | k + 1 => by
  obtain ⟨ih0, ih1, ih2⟩ := spec_RenameLine.mono_l k
  refine ⟨?_, ?_, ?_⟩
  ·
   intro y0 y1 y2 y3
   unfold spec_RenameLine.j0
   repeat' first
   | (with_reducible exact ih0 _ _ _ _)
   | (with_reducible exact ih1 _ _ _ _)
   | (with_reducible exact ih2 _ _ _ _)
   | (with_reducible exact spec_l07Asked.mono _ _ _ _)
   | (with_reducible exact spec_l07Find.mono _ _ _)
   | (with_reducible exact spec_l07Name.mono _ _)
   | (with_reducible exact LeO.refl _)
   | (with_reducible exact LeO.none _)
   | (with_reducible refine LeO.ite ?_ ?_)
   | (with_reducible refine LeO.bind ?_ (fun _ => ?_))
   | exact ih0 _ _ _ _
   | exact ih1 _ _ _ _
   | exact ih2 _ _ _ _
   | exact LeO.none _
   | refine LeO.ite ?_ ?_
   | refine LeO.bind ?_ (fun _ => ?_)
  ·
   intro y0 y1 y2 y3
   unfold spec_RenameLine.l0
   repeat' first
   | (with_reducible exact ih0 _ _ _ _)
   | (with_reducible exact ih1 _ _ _ _)
   | (with_reducible exact ih2 _ _ _ _)
   | (with_reducible exact spec_l07Asked.mono _ _ _ _)
   | (with_reducible exact spec_l07Find.mono _ _ _)
   | (with_reducible exact spec_l07Name.mono _ _)
   | (with_reducible exact LeO.refl _)
   | (with_reducible exact LeO.none _)
   | (with_reducible refine LeO.ite ?_ ?_)
   | (with_reducible refine LeO.bind ?_ (fun _ => ?_))
   | exact ih0 _ _ _ _
   | exact ih1 _ _ _ _
   | exact ih2 _ _ _ _
   | exact LeO.none _
   | refine LeO.ite ?_ ?_
   | refine LeO.bind ?_ (fun _ => ?_)
  ·
   intro y0 y1 y2 y3
   unfold spec_RenameLine.j2
   repeat' first
   | (with_reducible exact ih0 _ _ _ _)
   | (with_reducible exact ih1 _ _ _ _)
   | (with_reducible exact ih2 _ _ _ _)
   | (with_reducible exact spec_l07Asked.mono _ _ _ _)
   | (with_reducible exact spec_l07Find.mono _ _ _)
   | (with_reducible exact spec_l07Name.mono _ _)
   | (with_reducible exact LeO.refl _)
   | (with_reducible exact LeO.none _)
   | (with_reducible refine LeO.ite ?_ ?_)
   | (with_reducible refine LeO.bind ?_ (fun _ => ?_))
   | exact ih0 _ _ _ _
   | exact ih1 _ _ _ _
   | exact ih2 _ _ _ _
   | exact LeO.none _
   | refine LeO.ite ?_ ?_
   | refine LeO.bind ?_ (fun _ => ?_)
theorem spec_RenameLine.mono : ∀ a0 a1 a2 k, LeO (spec_RenameLine.f k a0 a1 a2) (spec_RenameLine.f (k + 1) a0 a1 a2) := by
 intro a0 a1 a2 k
 obtain ⟨ih0, ih1, ih2⟩ := spec_RenameLine.mono_l k
 unfold spec_RenameLine.f
 repeat' first
   | (with_reducible exact ih0 _ _ _ _)
   | (with_reducible exact ih1 _ _ _ _)
   | (with_reducible exact ih2 _ _ _ _)
   | (with_reducible exact spec_l07Asked.mono _ _ _ _)
   | (with_reducible exact spec_l07Find.mono _ _ _)
   | (with_reducible exact spec_l07Name.mono _ _)
   | (with_reducible exact LeO.refl _)
   | (with_reducible exact LeO.none _)
   | (with_reducible refine LeO.ite ?_ ?_)
   | (with_reducible refine LeO.bind ?_ (fun _ => ?_))
   | exact ih0 _ _ _ _
   | exact ih1 _ _ _ _
   | exact ih2 _ _ _ _
   | exact LeO.none _
   | refine LeO.ite ?_ ?_
   | refine LeO.bind ?_ (fun _ => ?_)
set_option maxHeartbeats 8000000 in
set_option maxRecDepth 100000 in
theorem spec_RenameLine.calls (k : Nat) (A0 : Option Addr) (c0 : Nat) (l0 : List (S45)) (a1 : ByteArray) (a2 : ByteArray) (r1 : List (S45)) (r2 : Int) (w : World) (hr0 : Kd.C k45 w A0 l0.length l0) (hc0 : l0.length ≤ c0) (h : spec_RenameLine.f k l0 a1 a2 = some (r1, r2)) :
  Calls Try.prog 40 #[.slice A0 l0.length c0, .string a1, .string a2] w fun e w' => ∃ v0_ : Value, e = .returned (.tuple #[v0_, .int .i64 r2]) ∧ Kd.R k45 45 w' w.heap.size (fun _ => True) v0_ r1 ∧ Below w.heap.size w w' := by
 have HR0 := Aside0.mk hr0
 have HC0 := Aside0.mk hc0
 clear hr0 hc0
 have HB := Aside0.mk (Below.refl w.heap.size w)
 have H : ((spec_l07Asked.f k l0 a1 0).bind fun bt200 => (if bt200.2 = 0 then ((spec_l07Name.f k a2).bind fun t205 => (if t205 = true then ((spec_l07Find.f k l0 a2).bind fun t209 => (if t209 ≥ 0 then (spec_RenameLine.j0 k l0 a1 a2 (t209 != bt200.1)) else (spec_RenameLine.j0 k l0 a1 a2 false))) else (some ((([] : List (S45))), 2)))) else (some ((([] : List (S45))), bt200.2)))) = some (r1, r2) := h
 clear h
 replace H := Option.bind_eq_some_iff.mp H
 obtain ⟨⟨t200, t201⟩, A40, H⟩ := H
 replace H : (if t201 = 0 then ((spec_l07Name.f k a2).bind fun t205 => (if t205 = true then ((spec_l07Find.f k l0 a2).bind fun t209 => (if t209 ≥ 0 then (spec_RenameLine.j0 k l0 a1 a2 (t209 != t200)) else (spec_RenameLine.j0 k l0 a1 a2 false))) else (some ((([] : List (S45))), 2)))) else (some ((([] : List (S45))), t201))) = some (r1, r2) := H
 have A4 := Aside0.mk A40
 clear A40
 by_cases c5 : t201 = 0
 ·
  rw [if_pos c5] at H
  have c5b0 : (t201 == 0) = true := beq_iff_eq.mpr c5
  have c5b1 : (t201 != 0) = false := bne_eq_false_iff_eq.mpr c5
  clear c5
  replace H := Option.bind_eq_some_iff.mp H
  obtain ⟨t205, A60, H⟩ := H
  replace H : (if t205 = true then ((spec_l07Find.f k l0 a2).bind fun t209 => (if t209 ≥ 0 then (spec_RenameLine.j0 k l0 a1 a2 (t209 != t200)) else (spec_RenameLine.j0 k l0 a1 a2 false))) else (some ((([] : List (S45))), 2))) = some (r1, r2) := H
  have A6 := Aside0.mk A60
  clear A60
  by_cases c7 : t205 = true
  ·
   subst c7
   have H1 : ((spec_l07Find.f k l0 a2).bind fun t209 => (if t209 ≥ 0 then (spec_RenameLine.j0 k l0 a1 a2 (t209 != t200)) else (spec_RenameLine.j0 k l0 a1 a2 false))) = some (r1, r2) := by first | (rw [if_pos rfl] at H; exact H) | rfl
   clear H
   have H := H1
   clear H1
   replace H := Option.bind_eq_some_iff.mp H
   obtain ⟨t209, A80, H⟩ := H
   replace H : (if t209 ≥ 0 then (spec_RenameLine.j0 k l0 a1 a2 (t209 != t200)) else (spec_RenameLine.j0 k l0 a1 a2 false)) = some (r1, r2) := H
   have A8 := Aside0.mk A80
   clear A80
   have HC9 := Aside0.mk H
   clear H
   go_enter Try.func40, Try.ntmps40
   go_upto_region 7 with (first | ((with_reducible refine gate_callee (f := 80) rfl ?_); refine goesL_ (some 16) rfl rfl Try.func80 (by kernel_rfl) rfl #[.slice A0 l0.length c0, .string a1, .int .i64 0] rfl (by (try simp only [List.map_toArray, List.map_cons, List.map_nil]); first | done | rfl | (simp only [List.length_drop, List.length_take]; rfl)) ?_; (with_reducible refine (spec_l07Asked.calls k _ _ l0 a1 0 t200 t201 _ ?side1 ?side2 A4.out).mono ?_); (case side1 => repeat (first | exact HR0.out | (with_reducible refine Kd.C_alloc ?_ _) | (with_reducible refine Kd.C_drewN ?_ _) | (with_reducible refine Kd.C_drew ?_))); (case side2 => exact HC0.out); rintro e w10 ⟨rfl, hb⟩; refine ⟨_, rfl, ?_⟩; have n0_ := Aside0.mk (below_step (by repeat (first | (with_reducible first | exact HB.out | apply below_alloc | apply pw_below_drewN | apply below_drew1) | exact HB.out)) hb); clear HB; have HB := n0_; clear n0_; (try clear hb); (try clear hb2); (try clear hk); (try clear hi)) | ((with_reducible refine gate_callee (f := 88) rfl ?_); refine goesL_ (some 24) rfl rfl Try.func88 (by kernel_rfl) rfl #[.string a2] rfl (by (try simp only [List.map_toArray, List.map_cons, List.map_nil]); first | done | rfl | (simp only [List.length_drop, List.length_take]; rfl)) ?_; (with_reducible refine (spec_l07Name.calls k a2 true _ A6.out).mono ?_); rintro e w' ⟨rfl, ⟨nd, rfl⟩⟩; refine ⟨_, rfl, ?_⟩) | ((with_reducible refine gate_callee (f := 89) rfl ?_); refine goesL_ (some 29) rfl rfl Try.func89 (by kernel_rfl) rfl #[.slice A0 l0.length c0, .string a2] rfl (by (try simp only [List.map_toArray, List.map_cons, List.map_nil]); first | done | rfl | (simp only [List.length_drop, List.length_take]; rfl)) ?_; (with_reducible refine (spec_l07Find.calls k _ _ l0 a2 t209 _ ?side1 ?side2 A8.out).mono ?_); (case side1 => repeat (first | exact (Kd.C_below HR0.out (by repeat (first | (with_reducible first | exact HB.out | apply below_alloc | apply pw_below_drewN | apply below_drew1) | exact HB.out))) | (with_reducible refine Kd.C_alloc ?_ _) | (with_reducible refine Kd.C_drewN ?_ _) | (with_reducible refine Kd.C_drew ?_))); (case side2 => exact HC0.out); rintro e w' ⟨rfl, ⟨nd, rfl⟩⟩; refine ⟨_, rfl, ?_⟩))
   (try simp only [Act.put, sA_, sB_, sC_])
   go_cut [36] (fun v36 wc => ∃ (kq : Nat) (x36_8 : Bool), v36 = .bool x36_8 ∧ Aside0 (spec_RenameLine.j0 kq l0 a1 a2 x36_8 = some (r1, r2)) ∧ Aside0 (kq ≤ k) ∧ Aside0 (Below w.heap.size w wc))
   case first =>
    have H := HC9.out
    clear HC9
    by_cases c11 : t209 ≥ 0
    ·
     rw [if_pos c11] at H
     have c11b0 : decide (0 ≤ t209) = true := decide_eq_true c11
     clear c11
     (first | rw [c11b0] | (simp only [i64_w, i32_w]; rw [c11b0]) | skip)
     have H' := Aside0.mk H
     clear H
     go_wp2
     go_meet
     case rel => exact ⟨_, ((t209 != t200)), (by first | rfl | (simp; done) | (simp [*]; done) | (simp [isE_]; done)), H', ⟨by first | omega | exact Nat.le_refl _⟩, ⟨by repeat (first | (with_reducible first | exact HB.out | apply below_alloc | apply pw_below_drewN | apply below_drew1) | exact HB.out)⟩⟩
    ·
     rw [if_neg c11] at H
     have c11b0 : decide (0 ≤ t209) = false := decide_eq_false c11
     clear c11
     (first | rw [c11b0] | (simp only [i64_w, i32_w]; rw [c11b0]) | skip)
     have H' := Aside0.mk H
     clear H
     go_wp2
     go_meet
     case rel => exact ⟨_, (false), (by first | rfl | (simp; done) | (simp [*]; done) | (simp [isE_]; done)), H', ⟨by first | omega | exact Nat.le_refl _⟩, ⟨by repeat (first | (with_reducible first | exact HB.out | apply below_alloc | apply pw_below_drewN | apply below_drew1) | exact HB.out)⟩⟩
   case rest =>
    clear HC9
    try clear c1
    try clear p2
    try clear c4
    try clear c5
    try clear c5b0
    try clear c5b1
    try clear c7
    try clear c8
    try clear c11
    try clear c11b0
    obtain ⟨kq, x36_8, rfl, HA, HJ8, HB⟩ := hcut
    cases kq with
    | zero => exact absurd HA.out (by simp [spec_RenameLine.j0])
    | succ kj8 =>
     have H := HA.out
     clear HA
     simp only [spec_RenameLine.j0] at H
     by_cases c12 : x36_8 = true
     ·
      subst c12
      have H1 : (some ((([] : List (S45))), 4)) = some (r1, r2) := by first | (rw [if_pos rfl] at H; exact H) | rfl
      clear H
      have H := H1
      clear H1
      obtain ⟨y210, hy210⟩ : ∃ y_ : List (S45), y_ = (([] : List (S45))) := ⟨_, rfl⟩
      replace H : (some (y210, 4)) = some (r1, r2) := by first | (rw [hy210]; with_reducible exact H) | (have H2_ := (Option.bind_some _ _).symm.trans H; rw [hy210]; with_reducible exact H2_) | (have H2_ := (Option.bind_some _ _).symm.trans H; with_reducible exact H2_) | with_reducible exact H | (rw [hy210]; exact H) | exact H
      have Ny210 := Aside0.mk hy210
      clear hy210
      simp only [Option.some.injEq, Prod.mk.injEq] at H
      obtain ⟨rfl, rfl⟩ := H
      go_wp2_with (first | ((with_reducible refine gate_dst (N := 37) rfl ?_); refine Kd.R_lit k45 _ 45 ?hg (N := 37) ?hd (xs := ([] : List (S45))) (inner := []) (ok := fun _ => True) (okp := fun _ => True) ?hr ?hp (fun _ hk => hk) trivial (Below.refl _ _) (Nat.le_refl _) (by simp) ?_; (case hd => rfl); (case hg => rfl); (case hr => first | (go_simp; done) | (go_simp; rfl)); (case hp => exact (Reps.none _ _)); intro v211 w13 ho14 hb hg_ hnew_; clear hg_ hnew_; (first | rw [← Ny210.out] at ho14 | (simp only [Int.reduceToNat] at ho14; rw [← Ny210.out] at ho14)); have n0_ := Aside0.mk (Kd.R_lower ho14 (below_size (by repeat (first | (with_reducible first | exact HB.out | apply below_alloc | apply pw_below_drewN | apply below_drew1) | exact HB.out)))); have n1_ := Aside0.mk (below_step (by repeat (first | (with_reducible first | exact HB.out | apply below_alloc | apply pw_below_drewN | apply below_drew1) | exact HB.out)) hb); clear HB; have HO212 := n0_; have HB := n1_; clear n0_ n1_; clear hb ho14))
      go_ret2
      exact ⟨_, by first | rfl | (simp [errW_none, errW_some] <;> rfl) | (simp [*, errW_none, errW_some] <;> rfl), by (with_reducible repeat (first | apply Kd.R_alloc | apply Kd.R_drewN | apply Kd.R_drew)); exact HO212.out, by repeat (first | (with_reducible first | exact HB.out | apply below_alloc | apply pw_below_drewN | apply below_drew1) | exact HB.out)⟩
     ·
      replace c12 := Bool.eq_false_iff.mpr c12
      subst c12
      have H1 : ((some (([] : List (S45)) : List (S45))).bind fun y213 => (if y213.length + l0.length < 1954687338268 then (spec_RenameLine.l0 kj8 a1 a2 (y213 ++ l0) 0) else (none))) = some (r1, r2) := by first | (rw [if_neg (show ¬ (false = true) by decide)] at H; exact H) | rfl
      clear H
      have H := H1
      clear H1
      obtain ⟨y213, hy213⟩ : ∃ y_ : List (S45), y_ = (([] : List (S45))) := ⟨_, rfl⟩
      replace H : (if y213.length + l0.length < 1954687338268 then (spec_RenameLine.l0 kj8 a1 a2 (y213 ++ l0) 0) else (none)) = some (r1, r2) := by first | (rw [hy213]; with_reducible exact H) | (have H2_ := (Option.bind_some _ _).symm.trans H; rw [hy213]; with_reducible exact H2_) | (have H2_ := (Option.bind_some _ _).symm.trans H; with_reducible exact H2_) | with_reducible exact H | (rw [hy213]; exact H) | exact H
      have Ny213 := Aside0.mk hy213
      clear hy213
      by_cases c15 : y213.length + l0.length < 1954687338268
      ·
       rw [if_pos c15] at H
       have LMc15 := Aside0.mk c15
       clear c15
       obtain ⟨y216, hy216⟩ : ∃ y_ : List (S45), y_ = (y213 ++ l0) := ⟨_, rfl⟩
       replace H : (spec_RenameLine.l0 kj8 a1 a2 y216 0) = some (r1, r2) := by first | (rw [hy216]; with_reducible exact H) | (have H2_ := (Option.bind_some _ _).symm.trans H; rw [hy216]; with_reducible exact H2_) | (have H2_ := (Option.bind_some _ _).symm.trans H; with_reducible exact H2_) | with_reducible exact H | (rw [hy216]; exact H) | exact H
       have Ny216 := Aside0.mk hy216
       clear hy216
       have H' := Aside0.mk H
       clear H
       go_wp2_with (first | ((with_reducible refine gate_dst (N := 38) rfl ?_); refine Kd.R_lit k45 _ 45 ?hg (N := 38) ?hd (xs := ([] : List (S45))) (inner := []) (ok := fun _ => True) (okp := fun _ => True) ?hr ?hp (fun _ hk => hk) trivial (Below.refl _ _) (Nat.le_refl _) (by simp) ?_; (case hd => rfl); (case hg => rfl); (case hr => first | (go_simp; done) | (go_simp; rfl)); (case hp => exact (Reps.none _ _)); intro v214 w16 ho17 hb hg_ hnew_; clear hg_ hnew_; (first | rw [← Ny213.out] at ho17 | (simp only [Int.reduceToNat] at ho17; rw [← Ny213.out] at ho17)); have n0_ := Aside0.mk (Kd.R_lower ho17 (below_size (by repeat (first | (with_reducible first | exact HB.out | apply below_alloc | apply pw_below_drewN | apply below_drew1) | exact HB.out)))); have n1_ := Aside0.mk (below_step (by repeat (first | (with_reducible first | exact HB.out | apply below_alloc | apply pw_below_drewN | apply below_drew1) | exact HB.out)) hb); clear HB; have HO215 := n0_; have HB := n1_; clear n0_ n1_; clear hb ho17) | ((with_reducible refine gate_builtin (b := .append) (xs := #[.tmp 38, .tmp 39]) rfl ?_); at_builtin; refine Kd.R_append_rows k45 (w0 := w) w.heap.size rfl (.tmp 38) (.tmp 39) 25 45 (.agg #[(.string ⟨#[]⟩), (.int .i8 0), (.string ⟨#[]⟩), (.string ⟨#[]⟩), (.int .i64 0), (.int .i64 0)]) 72 rfl Try.underlying25 info45 rfl (by decide) (by omega) v214 y213 l0 _ _ _ (fun _ => True) (fun _ => False) rfl rfl ?aO ?aR (fun _ _ h => h) (fun _ h => h.elim) ?aF ?aB ?aS ?aL ?_; (case aR => repeat (first | exact (Kd.C_below HR0.out HB.out) | (with_reducible refine Kd.C_alloc ?_ _) | (with_reducible refine Kd.C_drewN ?_ _) | (with_reducible refine Kd.C_drew ?_))); (case aB => exact (by repeat (first | (with_reducible first | exact HB.out | apply below_alloc | apply pw_below_drewN | apply below_drew1) | exact HB.out))); (case aF => exact (fun _ _ => trivial)); (case aO => exact (by (with_reducible repeat (first | apply Kd.R_alloc | apply Kd.R_drewN | apply Kd.R_drew)); exact HO215.out)); (case aS => exact (below_size (by repeat (first | (with_reducible first | exact HB.out | apply below_alloc | apply pw_below_drewN | apply below_drew1) | exact HB.out)))); (case aL => have := LMc15.out; omega); intro v217 w18 ho hb hg hat; rw [← Ny216.out] at ho; have n0_ := Aside0.mk (hb); have n1_ := Aside0.mk (ho); clear HB; clear HO215; have HB := n0_; have HO218 := n1_; clear n0_ n1_; clear ho hb hg hat))
       go_loopg [12] kj8 (fun kq v12 w' => ∃ (x11_2 : List (S45)) (x12_2 : Int), v12 = .int .i64 x12_2 ∧ Aside0 (spec_RenameLine.l0 kq a1 a2 x11_2 x12_2 = some (r1, r2)) ∧ Aside0 (kq ≤ kj8) ∧ Aside0 (Kd.R k45 45 w' w.heap.size (fun _ => True) v217 x11_2) ∧ Aside0 (Below w.heap.size w w'))
       case atStart => exact ⟨(y216), (0), (by first | rfl | (simp; done) | (simp [*]; done) | (simp [isE_]; done)), H', ⟨Nat.le_refl _⟩, ⟨by (with_reducible repeat (first | apply Kd.R_alloc | apply Kd.R_drewN | apply Kd.R_drew)); exact HO218.out⟩, ⟨by repeat (first | (with_reducible first | exact HB.out | apply below_alloc | apply pw_below_drewN | apply below_drew1) | exact HB.out)⟩⟩
       case round =>
        clear H'
        try clear c1
        try clear p2
        try clear c4
        try clear c5
        try clear c5b0
        try clear c5b1
        try clear c7
        try clear c8
        try clear c11
        try clear c11b0
        try clear c12
        try clear c15
        try clear p2
        obtain ⟨x11_2, x12_2, rfl, HA, HK2, HO_11, HB⟩ := hrel
        cases gk with
        | zero => exact absurd HA.out (by simp [spec_RenameLine.l0])
        | succ k2 =>
         have H := HA.out
         clear HA
         simp only [spec_RenameLine.l0] at H
         by_cases c19 : x12_2 < (x11_2.length : Int)
         ·
          rw [if_pos c19] at H
          have c19b0 : decide (x12_2 < (x11_2.length : Int)) = true := decide_eq_true c19
          clear c19
          by_cases c20 : 0 ≤ x12_2
          ·
           rw [if_pos c20] at H
           have c20b0 : decide (0 ≤ x12_2) = true := decide_eq_true c20
           clear c20
           have HC21 := Aside0.mk H
           clear H
           obtain ⟨Ao22, co22, eo22⟩ := Kd.R_slice HO_11.out
           subst eo22
           have p219 : 0 ≤ (x12_2 : Int) := of_decide_eq_true (by assumption)
           have q219 : x12_2 < (x11_2.length : Int) := of_decide_eq_true (by assumption)
           obtain ⟨ad219, e219, hx219_0, hx219_1, hx219_2, hx219_3, hx219_4, hx219_5⟩ := at_T45 (Kd.R_reads' HO_11.out).2.2 x12_2 p219 q219
           cases e219
           replace p219 := eq_true p219
           replace q219 := eq_true q219
           go_upto_if 53 with (fail)
           go_cut [] (fun wc => ∃ (kq : Nat) (x11_20 : List (S45)), Aside0 (spec_RenameLine.j2 kq a1 a2 x11_20 x12_2 = some (r1, r2)) ∧ Aside0 (kq ≤ k2) ∧ Aside0 (Kd.R k45 45 wc w.heap.size (fun _ => True) (.slice (some ad219) x11_2.length co22) x11_20) ∧ Aside0 (Below w.heap.size w wc))
           case first =>
            have H := HC21.out
            clear HC21
            by_cases c23 : ((rd_T45 x11_2 x12_2).f0).toList = a1.toList
            ·
             rw [if_pos c23] at H
             have c23b0 : (((rd_T45 x11_2 x12_2).f0).toList == a1.toList) = true := beq_iff_eq.mpr c23
             have c23b1 : (((rd_T45 x11_2 x12_2).f0).toList != a1.toList) = false := bne_eq_false_iff_eq.mpr c23
             clear c23
             (first | rw [c23b0] | (simp only [i64_w, i32_w]; rw [c23b0]) | skip)
             obtain ⟨y220, hy220⟩ : ∃ y_ : List (S45), y_ = (x11_2.set (x12_2 : Int).toNat (⟨a2, (rd_T45 x11_2 x12_2).f1, (rd_T45 x11_2 x12_2).f2, (rd_T45 x11_2 x12_2).f3, (rd_T45 x11_2 x12_2).f4, (rd_T45 x11_2 x12_2).f5⟩ : S45)) := ⟨_, rfl⟩
             replace H : (spec_RenameLine.j2 k2 a1 a2 y220 x12_2) = some (r1, r2) := by first | (rw [hy220]; with_reducible exact H) | (have H2_ := (Option.bind_some _ _).symm.trans H; rw [hy220]; with_reducible exact H2_) | (have H2_ := (Option.bind_some _ _).symm.trans H; with_reducible exact H2_) | with_reducible exact H | (rw [hy220]; exact H) | exact H
             have Ny220 := Aside0.mk hy220
             clear hy220
             have H' := Aside0.mk H
             clear H
             have p24 : 0 ≤ (x12_2 : Int) := of_decide_eq_true (by assumption)
             have q24 : (x12_2 : Int) < ((x11_2.length : Int) : Int) := of_decide_eq_true (by assumption)
             obtain ⟨go24, co24, eo24, gb24, gl24, cl24, HG24⟩ := Kd.R_form HO_11.out (by omega)
             (first | cases eo24 | (injection eo24 with ea_ en_ ec_; (first | subst ea_ | (injection ea_ with ea_; subst ea_)); subst ec_; clear en_))
             have GB24 := Aside0.mk gb24
             have GG24 := Aside0.mk HG24
             clear gb24 gl24 HG24
             (first | simp only [add_plain] at hx219_0 | skip)
             (first | simp only [add_plain] at hx219_1 | skip)
             (first | simp only [add_plain] at hx219_2 | skip)
             (first | simp only [add_plain] at hx219_3 | skip)
             (first | simp only [add_plain] at hx219_4 | skip)
             (first | simp only [add_plain] at hx219_5 | skip)
             obtain ⟨ce24, hcl24, hM24, hcc24, hfr24⟩ := Kd.R_elem HO_11.out z45 (x12_2 : Int) p24 q24
             obtain rfl := k45_openM hM24
             have hx24_0 : wr.cell? ⟨go24, (x12_2 : Int).toNat * 6, none⟩ = some (.string ((rd_T45 x11_2 x12_2).f0)) := hcc24 0 _ rfl
             have hx24_1 : wr.cell? ⟨go24, (x12_2 : Int).toNat * 6 + 1, none⟩ = some (.int .i8 ((rd_T45 x11_2 x12_2).f1)) := hcc24 1 _ rfl
             have hx24_2 : wr.cell? ⟨go24, (x12_2 : Int).toNat * 6 + 2, none⟩ = some (.string ((rd_T45 x11_2 x12_2).f2)) := hcc24 2 _ rfl
             have hx24_3 : wr.cell? ⟨go24, (x12_2 : Int).toNat * 6 + 3, none⟩ = some (.string ((rd_T45 x11_2 x12_2).f3)) := hcc24 3 _ rfl
             have hx24_4 : wr.cell? ⟨go24, (x12_2 : Int).toNat * 6 + 4, none⟩ = some (.int .i64 ((rd_T45 x11_2 x12_2).f4)) := hcc24 4 _ rfl
             have hx24_5 : wr.cell? ⟨go24, (x12_2 : Int).toNat * 6 + 5, none⟩ = some (.int .i64 ((rd_T45 x11_2 x12_2).f5)) := hcc24 5 _ rfl
             have hf24_0 : wr.frozen? ⟨go24, (x12_2 : Int).toNat * 6, none⟩ = false := hfr24 0
             have hf24_1 : wr.frozen? ⟨go24, (x12_2 : Int).toNat * 6 + 1, none⟩ = false := hfr24 1
             have hf24_2 : wr.frozen? ⟨go24, (x12_2 : Int).toNat * 6 + 2, none⟩ = false := hfr24 2
             have hf24_3 : wr.frozen? ⟨go24, (x12_2 : Int).toNat * 6 + 3, none⟩ = false := hfr24 3
             have hf24_4 : wr.frozen? ⟨go24, (x12_2 : Int).toNat * 6 + 4, none⟩ = false := hfr24 4
             have hf24_5 : wr.frozen? ⟨go24, (x12_2 : Int).toNat * 6 + 5, none⟩ = false := hfr24 5
             clear hcl24 hcc24 hfr24 hM24
             replace p24 := eq_true p24
             replace q24 := eq_true q24
             have HX25 := Aside0.mk (show Kd.R k45 45 wr w.heap.size (fun _ => True) (.slice (some ⟨go24, 0, none⟩) x11_2.length co22) x11_2 from (by (with_reducible repeat (first | apply Kd.R_alloc | apply Kd.R_drewN | apply Kd.R_drew)); exact HO_11.out))
             obtain ⟨ce25, hcl25, hM25, hcc25, hfr25⟩ := Kd.R_elem HX25.out z45 (x12_2 : Int) (of_decide_eq_true (by assumption)) (by have h_ : (x12_2 : Int) < ((x11_2.length : Int) : Int) := of_decide_eq_true (by assumption); first | exact h_ | (have e_ := (Kd.R_reads' HO_11.out).1; omega) | simpa using h_)
             obtain rfl := k45_openM hM25
             have HP25 := Kd.R_seg HX25.out (x12_2 : Int) (of_decide_eq_true (by assumption)) (by have h_ : (x12_2 : Int) < ((x11_2.length : Int) : Int) := of_decide_eq_true (by assumption); first | exact h_ | (have e_ := (Kd.R_reads' HO_11.out).1; omega) | simpa using h_) (seg := [.string a2]) (j := 0) hcl25 hcc25 (show 1 ≤ 6 from by decide) (x' := (⟨a2, (rd_T45 x11_2 x12_2).f1, (rd_T45 x11_2 x12_2).f2, (rd_T45 x11_2 x12_2).f3, (rd_T45 x11_2 x12_2).f4, (rd_T45 x11_2 x12_2).f5⟩ : S45)) (k45_mkM _ _ _ (⟨a2, (rd_T45 x11_2 x12_2).f1, (rd_T45 x11_2 x12_2).f2, (rd_T45 x11_2 x12_2).f3, (rd_T45 x11_2 x12_2).f4, (rd_T45 x11_2 x12_2).f5⟩ : S45) ) (fun _ hk => hk)
             have hx25_0 := hcc25 0 _ rfl
             (try simp only [show (k45).sz = 6 from rfl, Nat.mul_one, Nat.add_zero] at hx25_0)
             have hf25_0 := hfr25 0
             (try simp only [show (k45).sz = 6 from rfl, Nat.mul_one, Nat.add_zero] at hf25_0)
             clear hcl25 hcc25 hfr25 hM25
             go_wp2_with (first | ((with_reducible refine gate_store (t := 9) (p := 58) rfl ?_); refine store_event (t := 9) (p := 58) (v := ?vo_w26) (w1 := (wr.setCell ⟨go24, (x12_2 : Int).toNat * 6, none⟩ (.string a2))) ?hg ?ho ?hn ?hr ?_; (case ho => rfl); (case hg => rfl); (case hn => rfl); (case hr => first | (go_simp; done) | (go_simp; rfl)); intro w26 hw; have hg : wr.grownBy w26 (some go24) := (by rw [hw]; exact HP25.2); have hp_ : Kd.R k45 45 w26 w.heap.size (fun _ => True) (.slice (some ⟨go24, 0, none⟩) x11_2.length co22) y220 := (by rw [hw, Ny220.out]; exact HP25.1); clear HP25; have n0_ := Aside0.mk (hp_); have n1_ := Aside0.mk ((by rw [hw]; exact below_set (HB.out) GB24.out : Below w.heap.size w w26)); clear HO_11; clear HB; have HO_11 := n0_; have HB := n1_; clear n0_ n1_; clear hg hw hp_))
             go_meet
             case rel => exact ⟨_, (y220), H', ⟨by have := HJ8.out; have := HK2.out; first | omega | exact Nat.le_refl _⟩, ⟨by (with_reducible repeat (first | apply Kd.R_alloc | apply Kd.R_drewN | apply Kd.R_drew)); exact HO_11.out⟩, ⟨by repeat (first | (with_reducible first | exact HB.out | apply below_alloc | apply pw_below_drewN | apply below_drew1) | exact HB.out)⟩⟩
            ·
             rw [if_neg c23] at H
             have c23b0 : (((rd_T45 x11_2 x12_2).f0).toList == a1.toList) = false := beq_eq_false_iff_ne.mpr c23
             have c23b1 : (((rd_T45 x11_2 x12_2).f0).toList != a1.toList) = true := bne_iff_ne.mpr c23
             (first | rw [c23b0] | (simp only [i64_w, i32_w]; rw [c23b0]) | skip)
             have H' := Aside0.mk H
             clear H
             go_wp2
             go_meet
             case rel => exact ⟨_, (x11_2), H', ⟨by have := HJ8.out; have := HK2.out; first | omega | exact Nat.le_refl _⟩, ⟨by (with_reducible repeat (first | apply Kd.R_alloc | apply Kd.R_drewN | apply Kd.R_drew)); exact HO_11.out⟩, ⟨by repeat (first | (with_reducible first | exact HB.out | apply below_alloc | apply pw_below_drewN | apply below_drew1) | exact HB.out)⟩⟩
           case rest =>
            clear HC21
            try clear c1
            try clear c2
            try clear p2
            try clear q2
            try clear hx2
            try clear c4
            try clear c5
            try clear c5b0
            try clear c5b1
            try clear c7
            try clear c8
            try clear c11
            try clear c11b0
            try clear c12
            try clear c15
            try clear c19
            try clear c19b0
            try clear c20
            try clear c20b0
            try clear p21
            try clear q21
            try clear hx21
            try clear c23
            try clear c23b0
            try clear c23b1
            try clear c24
            try clear p24
            try clear q24
            try clear hx24
            try clear hf24
            try clear c25
            try clear hx25
            try clear hf25
            try clear hx219_0
            try clear hx219_1
            try clear hx219_2
            try clear hx219_3
            try clear hx219_4
            try clear hx219_5
            try clear hx24_0
            try clear hx24_1
            try clear hx24_2
            try clear hx24_3
            try clear hx24_4
            try clear hx24_5
            try clear hx25_0
            try clear p2
            try clear p219
            try clear p24
            try clear q219
            try clear q24
            obtain ⟨kq, x11_20, HA, HJ20, HO_11, HB⟩ := hcut
            have hl11_20 := (Kd.R_reads' HO_11.out).1
            rw [hl11_20] at HO_11
            (try simp only [hl11_20])
            cases kq with
            | zero => exact absurd HA.out (by simp [spec_RenameLine.j2])
            | succ kj20 =>
             have H := HA.out
             clear HA
             simp only [spec_RenameLine.j2] at H
             by_cases c27 : 0 ≤ x12_2
             ·
              rw [if_pos c27] at H
              have c27b0 : decide (0 ≤ x12_2) = true := decide_eq_true c27
              clear c27
              by_cases c28 : x12_2 < (x11_20.length : Int)
              ·
               rw [if_pos c28] at H
               have c28b0 : decide (x12_2 < (x11_20.length : Int)) = true := decide_eq_true c28
               clear c28
               by_cases c29 : ((rd_T45 x11_20 x12_2).f2).toList = a1.toList
               ·
                rw [if_pos c29] at H
                have c29b0 : (((rd_T45 x11_20 x12_2).f2).toList == a1.toList) = true := beq_iff_eq.mpr c29
                have c29b1 : (((rd_T45 x11_20 x12_2).f2).toList != a1.toList) = false := bne_eq_false_iff_eq.mpr c29
                clear c29
                obtain ⟨y222, hy222⟩ : ∃ y_ : List (S45), y_ = (x11_20.set (x12_2 : Int).toNat (⟨(rd_T45 x11_20 x12_2).f0, (rd_T45 x11_20 x12_2).f1, a2, (rd_T45 x11_20 x12_2).f3, (rd_T45 x11_20 x12_2).f4, (rd_T45 x11_20 x12_2).f5⟩ : S45)) := ⟨_, rfl⟩
                replace H : (if ((rd_T45 y222 x12_2).f3).toList = a1.toList then (spec_RenameLine.l0 kj20 a1 a2 (y222.set (x12_2 : Int).toNat (⟨(rd_T45 y222 x12_2).f0, (rd_T45 y222 x12_2).f1, (rd_T45 y222 x12_2).f2, a2, (rd_T45 y222 x12_2).f4, (rd_T45 y222 x12_2).f5⟩ : S45)) (wrap64 (x12_2 + 1))) else (spec_RenameLine.l0 kj20 a1 a2 y222 (wrap64 (x12_2 + 1)))) = some (r1, r2) := by first | (rw [hy222]; with_reducible exact H) | (have H2_ := (Option.bind_some _ _).symm.trans H; rw [hy222]; with_reducible exact H2_) | (have H2_ := (Option.bind_some _ _).symm.trans H; with_reducible exact H2_) | with_reducible exact H | (rw [hy222]; exact H) | exact H
                have Ny222 := Aside0.mk hy222
                clear hy222
                by_cases c31 : ((rd_T45 y222 x12_2).f3).toList = a1.toList
                ·
                 rw [if_pos c31] at H
                 have c31b0 : (((rd_T45 y222 x12_2).f3).toList == a1.toList) = true := beq_iff_eq.mpr c31
                 have c31b1 : (((rd_T45 y222 x12_2).f3).toList != a1.toList) = false := bne_eq_false_iff_eq.mpr c31
                 clear c31
                 obtain ⟨y224, hy224⟩ : ∃ y_ : List (S45), y_ = (y222.set (x12_2 : Int).toNat (⟨(rd_T45 y222 x12_2).f0, (rd_T45 y222 x12_2).f1, (rd_T45 y222 x12_2).f2, a2, (rd_T45 y222 x12_2).f4, (rd_T45 y222 x12_2).f5⟩ : S45)) := ⟨_, rfl⟩
                 replace H : (spec_RenameLine.l0 kj20 a1 a2 y224 (wrap64 (x12_2 + 1))) = some (r1, r2) := by first | (rw [hy224]; with_reducible exact H) | (have H2_ := (Option.bind_some _ _).symm.trans H; rw [hy224]; with_reducible exact H2_) | (have H2_ := (Option.bind_some _ _).symm.trans H; with_reducible exact H2_) | with_reducible exact H | (rw [hy224]; exact H) | exact H
                 have Ny224 := Aside0.mk hy224
                 clear hy224
                 have H' := Aside0.mk H
                 clear H
                 have p221 : 0 ≤ (x12_2 : Int) := of_decide_eq_true (by assumption)
                 have q221 : x12_2 < (x11_20.length : Int) := of_decide_eq_true (by assumption)
                 obtain ⟨ad221, e221, hx221_0, hx221_1, hx221_2, hx221_3, hx221_4, hx221_5⟩ := at_T45 (Kd.R_reads' HO_11.out).2.2 x12_2 p221 q221
                 obtain rfl : ad219 = ad221 := (by injection e221)
                 replace p221 := eq_true p221
                 replace q221 := eq_true q221
                 have p30 : 0 ≤ (x12_2 : Int) := of_decide_eq_true (by assumption)
                 have q30 : (x12_2 : Int) < ((x11_20.length : Int) : Int) := of_decide_eq_true (by assumption)
                 obtain ⟨go30, co30, eo30, gb30, gl30, cl30, HG30⟩ := Kd.R_form HO_11.out (by omega)
                 (first | cases eo30 | (injection eo30 with ea_ en_ ec_; (first | subst ea_ | (injection ea_ with ea_; subst ea_)); subst ec_; clear en_))
                 have GB30 := Aside0.mk gb30
                 have GG30 := Aside0.mk HG30
                 clear gb30 gl30 HG30
                 (first | simp only [add_plain] at hx221_0 | skip)
                 (first | simp only [add_plain] at hx221_1 | skip)
                 (first | simp only [add_plain] at hx221_2 | skip)
                 (first | simp only [add_plain] at hx221_3 | skip)
                 (first | simp only [add_plain] at hx221_4 | skip)
                 (first | simp only [add_plain] at hx221_5 | skip)
                 obtain ⟨ce30, hcl30, hM30, hcc30, hfr30⟩ := Kd.R_elem HO_11.out z45 (x12_2 : Int) p30 q30
                 obtain rfl := k45_openM hM30
                 have hx30_0 : wc.cell? ⟨go30, (x12_2 : Int).toNat * 6, none⟩ = some (.string ((rd_T45 x11_20 x12_2).f0)) := hcc30 0 _ rfl
                 have hx30_1 : wc.cell? ⟨go30, (x12_2 : Int).toNat * 6 + 1, none⟩ = some (.int .i8 ((rd_T45 x11_20 x12_2).f1)) := hcc30 1 _ rfl
                 have hx30_2 : wc.cell? ⟨go30, (x12_2 : Int).toNat * 6 + 2, none⟩ = some (.string ((rd_T45 x11_20 x12_2).f2)) := hcc30 2 _ rfl
                 have hx30_3 : wc.cell? ⟨go30, (x12_2 : Int).toNat * 6 + 3, none⟩ = some (.string ((rd_T45 x11_20 x12_2).f3)) := hcc30 3 _ rfl
                 have hx30_4 : wc.cell? ⟨go30, (x12_2 : Int).toNat * 6 + 4, none⟩ = some (.int .i64 ((rd_T45 x11_20 x12_2).f4)) := hcc30 4 _ rfl
                 have hx30_5 : wc.cell? ⟨go30, (x12_2 : Int).toNat * 6 + 5, none⟩ = some (.int .i64 ((rd_T45 x11_20 x12_2).f5)) := hcc30 5 _ rfl
                 have hf30_0 : wc.frozen? ⟨go30, (x12_2 : Int).toNat * 6, none⟩ = false := hfr30 0
                 have hf30_1 : wc.frozen? ⟨go30, (x12_2 : Int).toNat * 6 + 1, none⟩ = false := hfr30 1
                 have hf30_2 : wc.frozen? ⟨go30, (x12_2 : Int).toNat * 6 + 2, none⟩ = false := hfr30 2
                 have hf30_3 : wc.frozen? ⟨go30, (x12_2 : Int).toNat * 6 + 3, none⟩ = false := hfr30 3
                 have hf30_4 : wc.frozen? ⟨go30, (x12_2 : Int).toNat * 6 + 4, none⟩ = false := hfr30 4
                 have hf30_5 : wc.frozen? ⟨go30, (x12_2 : Int).toNat * 6 + 5, none⟩ = false := hfr30 5
                 clear hcl30 hcc30 hfr30 hM30
                 replace p30 := eq_true p30
                 replace q30 := eq_true q30
                 have HX33 := Aside0.mk (show Kd.R k45 45 wc w.heap.size (fun _ => True) (.slice (some ⟨go30, 0, none⟩) x11_20.length co22) x11_20 from (by (with_reducible repeat (first | apply Kd.R_alloc | apply Kd.R_drewN | apply Kd.R_drew)); exact HO_11.out))
                 obtain ⟨ce33, hcl33, hM33, hcc33, hfr33⟩ := Kd.R_elem HX33.out z45 (x12_2 : Int) (of_decide_eq_true (by assumption)) (by have h_ : (x12_2 : Int) < ((x11_20.length : Int) : Int) := of_decide_eq_true (by assumption); first | exact h_ | (have e_ := (Kd.R_reads' HO_11.out).1; omega) | simpa using h_)
                 obtain rfl := k45_openM hM33
                 have HP33 := Kd.R_seg HX33.out (x12_2 : Int) (of_decide_eq_true (by assumption)) (by have h_ : (x12_2 : Int) < ((x11_20.length : Int) : Int) := of_decide_eq_true (by assumption); first | exact h_ | (have e_ := (Kd.R_reads' HO_11.out).1; omega) | simpa using h_) (seg := [.string a2]) (j := 2) hcl33 hcc33 (show 3 ≤ 6 from by decide) (x' := (⟨(rd_T45 x11_20 x12_2).f0, (rd_T45 x11_20 x12_2).f1, a2, (rd_T45 x11_20 x12_2).f3, (rd_T45 x11_20 x12_2).f4, (rd_T45 x11_20 x12_2).f5⟩ : S45)) (k45_mkM _ _ _ (⟨(rd_T45 x11_20 x12_2).f0, (rd_T45 x11_20 x12_2).f1, a2, (rd_T45 x11_20 x12_2).f3, (rd_T45 x11_20 x12_2).f4, (rd_T45 x11_20 x12_2).f5⟩ : S45) ) (fun _ hk => hk)
                 have hx33_2 := hcc33 2 _ rfl
                 (try simp only [show (k45).sz = 6 from rfl, Nat.mul_one, Nat.add_zero] at hx33_2)
                 have hf33_2 := hfr33 2
                 (try simp only [show (k45).sz = 6 from rfl, Nat.mul_one, Nat.add_zero] at hf33_2)
                 clear hcl33 hcc33 hfr33 hM33
                 go_wp2_with (first | ((with_reducible refine gate_store (t := 9) (p := 70) rfl ?_); refine store_event (t := 9) (p := 70) (v := ?vo_w34) (w1 := (wc.setCell ⟨go30, (x12_2 : Int).toNat * 6 + 2, none⟩ (.string a2))) ?hg ?ho ?hn ?hr ?_; (case ho => rfl); (case hg => rfl); (case hn => rfl); (case hr => first | (go_simp; done) | (go_simp; rfl)); intro w34 hw; have hg : wc.grownBy w34 (some go30) := (by rw [hw]; exact HP33.2); have hp_ : Kd.R k45 45 w34 w.heap.size (fun _ => True) (.slice (some ⟨go30, 0, none⟩) x11_20.length co22) y222 := (by rw [hw, Ny222.out]; exact HP33.1); clear HP33; have n0_ := Aside0.mk (hp_); have n1_ := Aside0.mk ((by rw [hw]; exact below_set (HB.out) GB30.out : Below w.heap.size w w34)); clear HO_11; clear HB; have HO_11 := n0_; have HB := n1_; clear n0_ n1_; clear hg hw hp_; have p223 : 0 ≤ (x12_2 : Int) := of_decide_eq_true (by assumption); have q223 : x12_2 < (y222.length : Int) := (by have h_ : (x12_2 : Int) < ((x11_20.length : Int) : Int) := of_decide_eq_true (by assumption); first | (have e_ := (Kd.R_reads' HO_11.out).1; omega) | simpa only [Ny222.out, List.length_set] using h_); have ql223 : ((x12_2 : Int) < ((x11_20.length : Int) : Int)) = True := eq_true (of_decide_eq_true (by assumption)); obtain ⟨ad223, e223, hx223_0, hx223_1, hx223_2, hx223_3, hx223_4, hx223_5⟩ := at_T45 (Kd.R_reads' HO_11.out).2.2 x12_2 p223 q223; obtain rfl : (⟨go30, 0, none⟩ : Addr) = ad223 := (by injection e223); (first | simp only [add_plain] at hx223_0 | simp only [add_at] at hx223_0 | simp only [Addr.add, Nat.zero_add] at hx223_0 | skip); (first | simp only [add_plain] at hx223_1 | simp only [add_at] at hx223_1 | simp only [Addr.add, Nat.zero_add] at hx223_1 | skip); (first | simp only [add_plain] at hx223_2 | simp only [add_at] at hx223_2 | simp only [Addr.add, Nat.zero_add] at hx223_2 | skip); (first | simp only [add_plain] at hx223_3 | simp only [add_at] at hx223_3 | simp only [Addr.add, Nat.zero_add] at hx223_3 | skip); (first | simp only [add_plain] at hx223_4 | simp only [add_at] at hx223_4 | simp only [Addr.add, Nat.zero_add] at hx223_4 | skip); (first | simp only [add_plain] at hx223_5 | simp only [add_at] at hx223_5 | simp only [Addr.add, Nat.zero_add] at hx223_5 | skip); replace p223 := eq_true p223; replace q223 := eq_true q223; have p32 : 0 ≤ (x12_2 : Int) := of_decide_eq_true (by assumption); have q32 : (x12_2 : Int) < ((x11_20.length : Int) : Int) := of_decide_eq_true (by assumption); obtain ⟨ce32, hcl32, hM32, hcc32, hfr32⟩ := Kd.R_elem HO_11.out z45 (x12_2 : Int) p32 q32; obtain rfl := k45_openM hM32; have hx32_0 : w34.cell? ⟨go30, (x12_2 : Int).toNat * 6, none⟩ = some (.string ((rd_T45 y222 x12_2).f0)) := hcc32 0 _ rfl; have hx32_1 : w34.cell? ⟨go30, (x12_2 : Int).toNat * 6 + 1, none⟩ = some (.int .i8 ((rd_T45 y222 x12_2).f1)) := hcc32 1 _ rfl; have hx32_2 : w34.cell? ⟨go30, (x12_2 : Int).toNat * 6 + 2, none⟩ = some (.string ((rd_T45 y222 x12_2).f2)) := hcc32 2 _ rfl; have hx32_3 : w34.cell? ⟨go30, (x12_2 : Int).toNat * 6 + 3, none⟩ = some (.string ((rd_T45 y222 x12_2).f3)) := hcc32 3 _ rfl; have hx32_4 : w34.cell? ⟨go30, (x12_2 : Int).toNat * 6 + 4, none⟩ = some (.int .i64 ((rd_T45 y222 x12_2).f4)) := hcc32 4 _ rfl; have hx32_5 : w34.cell? ⟨go30, (x12_2 : Int).toNat * 6 + 5, none⟩ = some (.int .i64 ((rd_T45 y222 x12_2).f5)) := hcc32 5 _ rfl; have hf32_0 : w34.frozen? ⟨go30, (x12_2 : Int).toNat * 6, none⟩ = false := hfr32 0; have hf32_1 : w34.frozen? ⟨go30, (x12_2 : Int).toNat * 6 + 1, none⟩ = false := hfr32 1; have hf32_2 : w34.frozen? ⟨go30, (x12_2 : Int).toNat * 6 + 2, none⟩ = false := hfr32 2; have hf32_3 : w34.frozen? ⟨go30, (x12_2 : Int).toNat * 6 + 3, none⟩ = false := hfr32 3; have hf32_4 : w34.frozen? ⟨go30, (x12_2 : Int).toNat * 6 + 4, none⟩ = false := hfr32 4; have hf32_5 : w34.frozen? ⟨go30, (x12_2 : Int).toNat * 6 + 5, none⟩ = false := hfr32 5; clear hcl32 hcc32 hfr32 hM32; replace p32 := eq_true p32; replace q32 := eq_true q32; have HX35 := Aside0.mk (show Kd.R k45 45 w34 w.heap.size (fun _ => True) (.slice (some ⟨go30, 0, none⟩) x11_20.length co22) y222 from (by (with_reducible repeat (first | apply Kd.R_alloc | apply Kd.R_drewN | apply Kd.R_drew)); exact HO_11.out)); obtain ⟨ce35, hcl35, hM35, hcc35, hfr35⟩ := Kd.R_elem HX35.out z45 (x12_2 : Int) (of_decide_eq_true (by assumption)) (by have h_ : (x12_2 : Int) < ((x11_20.length : Int) : Int) := of_decide_eq_true (by assumption); first | exact h_ | (have e_ := (Kd.R_reads' HO_11.out).1; omega) | simpa using h_); obtain rfl := k45_openM hM35; have HP35 := Kd.R_seg HX35.out (x12_2 : Int) (of_decide_eq_true (by assumption)) (by have h_ : (x12_2 : Int) < ((x11_20.length : Int) : Int) := of_decide_eq_true (by assumption); first | exact h_ | (have e_ := (Kd.R_reads' HO_11.out).1; omega) | simpa using h_) (seg := [.string a2]) (j := 3) hcl35 hcc35 (show 4 ≤ 6 from by decide) (x' := (⟨(rd_T45 y222 x12_2).f0, (rd_T45 y222 x12_2).f1, (rd_T45 y222 x12_2).f2, a2, (rd_T45 y222 x12_2).f4, (rd_T45 y222 x12_2).f5⟩ : S45)) (k45_mkM _ _ _ (⟨(rd_T45 y222 x12_2).f0, (rd_T45 y222 x12_2).f1, (rd_T45 y222 x12_2).f2, a2, (rd_T45 y222 x12_2).f4, (rd_T45 y222 x12_2).f5⟩ : S45) ) (fun _ hk => hk); have hx35_3 := hcc35 3 _ rfl; (try simp only [show (k45).sz = 6 from rfl, Nat.mul_one, Nat.add_zero] at hx35_3); have hf35_3 := hfr35 3; (try simp only [show (k45).sz = 6 from rfl, Nat.mul_one, Nat.add_zero] at hf35_3); clear hcl35 hcc35 hfr35 hM35) | ((with_reducible refine gate_store (t := 9) (p := 82) rfl ?_); refine store_event (t := 9) (p := 82) (v := ?vo_w36) (w1 := (w34.setCell ⟨go30, (x12_2 : Int).toNat * 6 + 3, none⟩ (.string a2))) ?hg ?ho ?hn ?hr ?_; (case ho => rfl); (case hg => rfl); (case hn => rfl); (case hr => first | (go_simp; done) | (go_simp; rfl)); intro w36 hw; have hg : w34.grownBy w36 (some go30) := (by rw [hw]; exact HP35.2); have hp_ : Kd.R k45 45 w36 w.heap.size (fun _ => True) (.slice (some ⟨go30, 0, none⟩) x11_20.length co22) y224 := (by rw [hw, Ny224.out]; exact HP35.1); clear HP35; have n0_ := Aside0.mk (hp_); have n1_ := Aside0.mk ((by rw [hw]; exact below_set (HB.out) GB30.out : Below w.heap.size w w36)); clear HO_11; clear HB; have HO_11 := n0_; have HB := n1_; clear n0_ n1_; clear hg hw hp_))
                 (try simp only [← hl11_20])
                 go_roundg kj20
                 case measure => have := HJ8.out; have := HK2.out; have := HJ20.out; omega
                 case rel => exact ⟨(y224), (wrap64 (x12_2 + 1)), (by first | rfl | (simp; done) | (simp [*]; done) | (simp [isE_]; done)), H', ⟨by have := HJ8.out; have := HK2.out; have := HJ20.out; omega⟩, ⟨by (try simp only [hl11_20]); (with_reducible repeat (first | apply Kd.R_alloc | apply Kd.R_drewN | apply Kd.R_drew)); exact HO_11.out⟩, ⟨by repeat (first | (with_reducible first | exact HB.out | apply below_alloc | apply pw_below_drewN | apply below_drew1) | exact HB.out)⟩⟩
                ·
                 rw [if_neg c31] at H
                 have c31b0 : (((rd_T45 y222 x12_2).f3).toList == a1.toList) = false := beq_eq_false_iff_ne.mpr c31
                 have c31b1 : (((rd_T45 y222 x12_2).f3).toList != a1.toList) = true := bne_iff_ne.mpr c31
                 have H' := Aside0.mk H
                 clear H
                 have p221 : 0 ≤ (x12_2 : Int) := of_decide_eq_true (by assumption)
                 have q221 : x12_2 < (x11_20.length : Int) := of_decide_eq_true (by assumption)
                 obtain ⟨ad221, e221, hx221_0, hx221_1, hx221_2, hx221_3, hx221_4, hx221_5⟩ := at_T45 (Kd.R_reads' HO_11.out).2.2 x12_2 p221 q221
                 obtain rfl : ad219 = ad221 := (by injection e221)
                 replace p221 := eq_true p221
                 replace q221 := eq_true q221
                 have p30 : 0 ≤ (x12_2 : Int) := of_decide_eq_true (by assumption)
                 have q30 : (x12_2 : Int) < ((x11_20.length : Int) : Int) := of_decide_eq_true (by assumption)
                 obtain ⟨go30, co30, eo30, gb30, gl30, cl30, HG30⟩ := Kd.R_form HO_11.out (by omega)
                 (first | cases eo30 | (injection eo30 with ea_ en_ ec_; (first | subst ea_ | (injection ea_ with ea_; subst ea_)); subst ec_; clear en_))
                 have GB30 := Aside0.mk gb30
                 have GG30 := Aside0.mk HG30
                 clear gb30 gl30 HG30
                 (first | simp only [add_plain] at hx221_0 | skip)
                 (first | simp only [add_plain] at hx221_1 | skip)
                 (first | simp only [add_plain] at hx221_2 | skip)
                 (first | simp only [add_plain] at hx221_3 | skip)
                 (first | simp only [add_plain] at hx221_4 | skip)
                 (first | simp only [add_plain] at hx221_5 | skip)
                 obtain ⟨ce30, hcl30, hM30, hcc30, hfr30⟩ := Kd.R_elem HO_11.out z45 (x12_2 : Int) p30 q30
                 obtain rfl := k45_openM hM30
                 have hx30_0 : wc.cell? ⟨go30, (x12_2 : Int).toNat * 6, none⟩ = some (.string ((rd_T45 x11_20 x12_2).f0)) := hcc30 0 _ rfl
                 have hx30_1 : wc.cell? ⟨go30, (x12_2 : Int).toNat * 6 + 1, none⟩ = some (.int .i8 ((rd_T45 x11_20 x12_2).f1)) := hcc30 1 _ rfl
                 have hx30_2 : wc.cell? ⟨go30, (x12_2 : Int).toNat * 6 + 2, none⟩ = some (.string ((rd_T45 x11_20 x12_2).f2)) := hcc30 2 _ rfl
                 have hx30_3 : wc.cell? ⟨go30, (x12_2 : Int).toNat * 6 + 3, none⟩ = some (.string ((rd_T45 x11_20 x12_2).f3)) := hcc30 3 _ rfl
                 have hx30_4 : wc.cell? ⟨go30, (x12_2 : Int).toNat * 6 + 4, none⟩ = some (.int .i64 ((rd_T45 x11_20 x12_2).f4)) := hcc30 4 _ rfl
                 have hx30_5 : wc.cell? ⟨go30, (x12_2 : Int).toNat * 6 + 5, none⟩ = some (.int .i64 ((rd_T45 x11_20 x12_2).f5)) := hcc30 5 _ rfl
                 have hf30_0 : wc.frozen? ⟨go30, (x12_2 : Int).toNat * 6, none⟩ = false := hfr30 0
                 have hf30_1 : wc.frozen? ⟨go30, (x12_2 : Int).toNat * 6 + 1, none⟩ = false := hfr30 1
                 have hf30_2 : wc.frozen? ⟨go30, (x12_2 : Int).toNat * 6 + 2, none⟩ = false := hfr30 2
                 have hf30_3 : wc.frozen? ⟨go30, (x12_2 : Int).toNat * 6 + 3, none⟩ = false := hfr30 3
                 have hf30_4 : wc.frozen? ⟨go30, (x12_2 : Int).toNat * 6 + 4, none⟩ = false := hfr30 4
                 have hf30_5 : wc.frozen? ⟨go30, (x12_2 : Int).toNat * 6 + 5, none⟩ = false := hfr30 5
                 clear hcl30 hcc30 hfr30 hM30
                 replace p30 := eq_true p30
                 replace q30 := eq_true q30
                 have HX37 := Aside0.mk (show Kd.R k45 45 wc w.heap.size (fun _ => True) (.slice (some ⟨go30, 0, none⟩) x11_20.length co22) x11_20 from (by (with_reducible repeat (first | apply Kd.R_alloc | apply Kd.R_drewN | apply Kd.R_drew)); exact HO_11.out))
                 obtain ⟨ce37, hcl37, hM37, hcc37, hfr37⟩ := Kd.R_elem HX37.out z45 (x12_2 : Int) (of_decide_eq_true (by assumption)) (by have h_ : (x12_2 : Int) < ((x11_20.length : Int) : Int) := of_decide_eq_true (by assumption); first | exact h_ | (have e_ := (Kd.R_reads' HO_11.out).1; omega) | simpa using h_)
                 obtain rfl := k45_openM hM37
                 have HP37 := Kd.R_seg HX37.out (x12_2 : Int) (of_decide_eq_true (by assumption)) (by have h_ : (x12_2 : Int) < ((x11_20.length : Int) : Int) := of_decide_eq_true (by assumption); first | exact h_ | (have e_ := (Kd.R_reads' HO_11.out).1; omega) | simpa using h_) (seg := [.string a2]) (j := 2) hcl37 hcc37 (show 3 ≤ 6 from by decide) (x' := (⟨(rd_T45 x11_20 x12_2).f0, (rd_T45 x11_20 x12_2).f1, a2, (rd_T45 x11_20 x12_2).f3, (rd_T45 x11_20 x12_2).f4, (rd_T45 x11_20 x12_2).f5⟩ : S45)) (k45_mkM _ _ _ (⟨(rd_T45 x11_20 x12_2).f0, (rd_T45 x11_20 x12_2).f1, a2, (rd_T45 x11_20 x12_2).f3, (rd_T45 x11_20 x12_2).f4, (rd_T45 x11_20 x12_2).f5⟩ : S45) ) (fun _ hk => hk)
                 have hx37_2 := hcc37 2 _ rfl
                 (try simp only [show (k45).sz = 6 from rfl, Nat.mul_one, Nat.add_zero] at hx37_2)
                 have hf37_2 := hfr37 2
                 (try simp only [show (k45).sz = 6 from rfl, Nat.mul_one, Nat.add_zero] at hf37_2)
                 clear hcl37 hcc37 hfr37 hM37
                 go_wp2_with (first | ((with_reducible refine gate_store (t := 9) (p := 70) rfl ?_); refine store_event (t := 9) (p := 70) (v := ?vo_w38) (w1 := (wc.setCell ⟨go30, (x12_2 : Int).toNat * 6 + 2, none⟩ (.string a2))) ?hg ?ho ?hn ?hr ?_; (case ho => rfl); (case hg => rfl); (case hn => rfl); (case hr => first | (go_simp; done) | (go_simp; rfl)); intro w38 hw; have hg : wc.grownBy w38 (some go30) := (by rw [hw]; exact HP37.2); have hp_ : Kd.R k45 45 w38 w.heap.size (fun _ => True) (.slice (some ⟨go30, 0, none⟩) x11_20.length co22) y222 := (by rw [hw, Ny222.out]; exact HP37.1); clear HP37; have n0_ := Aside0.mk (hp_); have n1_ := Aside0.mk ((by rw [hw]; exact below_set (HB.out) GB30.out : Below w.heap.size w w38)); clear HO_11; clear HB; have HO_11 := n0_; have HB := n1_; clear n0_ n1_; clear hg hw hp_; have p223 : 0 ≤ (x12_2 : Int) := of_decide_eq_true (by assumption); have q223 : x12_2 < (y222.length : Int) := (by have h_ : (x12_2 : Int) < ((x11_20.length : Int) : Int) := of_decide_eq_true (by assumption); first | (have e_ := (Kd.R_reads' HO_11.out).1; omega) | simpa only [Ny222.out, List.length_set] using h_); have ql223 : ((x12_2 : Int) < ((x11_20.length : Int) : Int)) = True := eq_true (of_decide_eq_true (by assumption)); obtain ⟨ad223, e223, hx223_0, hx223_1, hx223_2, hx223_3, hx223_4, hx223_5⟩ := at_T45 (Kd.R_reads' HO_11.out).2.2 x12_2 p223 q223; obtain rfl : (⟨go30, 0, none⟩ : Addr) = ad223 := (by injection e223); (first | simp only [add_plain] at hx223_0 | simp only [add_at] at hx223_0 | simp only [Addr.add, Nat.zero_add] at hx223_0 | skip); (first | simp only [add_plain] at hx223_1 | simp only [add_at] at hx223_1 | simp only [Addr.add, Nat.zero_add] at hx223_1 | skip); (first | simp only [add_plain] at hx223_2 | simp only [add_at] at hx223_2 | simp only [Addr.add, Nat.zero_add] at hx223_2 | skip); (first | simp only [add_plain] at hx223_3 | simp only [add_at] at hx223_3 | simp only [Addr.add, Nat.zero_add] at hx223_3 | skip); (first | simp only [add_plain] at hx223_4 | simp only [add_at] at hx223_4 | simp only [Addr.add, Nat.zero_add] at hx223_4 | skip); (first | simp only [add_plain] at hx223_5 | simp only [add_at] at hx223_5 | simp only [Addr.add, Nat.zero_add] at hx223_5 | skip); replace p223 := eq_true p223; replace q223 := eq_true q223))
                 (try simp only [← hl11_20])
                 go_roundg kj20
                 case measure => have := HJ8.out; have := HK2.out; have := HJ20.out; omega
                 case rel => exact ⟨(y222), (wrap64 (x12_2 + 1)), (by first | rfl | (simp; done) | (simp [*]; done) | (simp [isE_]; done)), H', ⟨by have := HJ8.out; have := HK2.out; have := HJ20.out; omega⟩, ⟨by (try simp only [hl11_20]); (with_reducible repeat (first | apply Kd.R_alloc | apply Kd.R_drewN | apply Kd.R_drew)); exact HO_11.out⟩, ⟨by repeat (first | (with_reducible first | exact HB.out | apply below_alloc | apply pw_below_drewN | apply below_drew1) | exact HB.out)⟩⟩
               ·
                rw [if_neg c29] at H
                have c29b0 : (((rd_T45 x11_20 x12_2).f2).toList == a1.toList) = false := beq_eq_false_iff_ne.mpr c29
                have c29b1 : (((rd_T45 x11_20 x12_2).f2).toList != a1.toList) = true := bne_iff_ne.mpr c29
                by_cases c39 : ((rd_T45 x11_20 x12_2).f3).toList = a1.toList
                ·
                 rw [if_pos c39] at H
                 have c39b0 : (((rd_T45 x11_20 x12_2).f3).toList == a1.toList) = true := beq_iff_eq.mpr c39
                 have c39b1 : (((rd_T45 x11_20 x12_2).f3).toList != a1.toList) = false := bne_eq_false_iff_eq.mpr c39
                 clear c39
                 obtain ⟨y226, hy226⟩ : ∃ y_ : List (S45), y_ = (x11_20.set (x12_2 : Int).toNat (⟨(rd_T45 x11_20 x12_2).f0, (rd_T45 x11_20 x12_2).f1, (rd_T45 x11_20 x12_2).f2, a2, (rd_T45 x11_20 x12_2).f4, (rd_T45 x11_20 x12_2).f5⟩ : S45)) := ⟨_, rfl⟩
                 replace H : (spec_RenameLine.l0 kj20 a1 a2 y226 (wrap64 (x12_2 + 1))) = some (r1, r2) := by first | (rw [hy226]; with_reducible exact H) | (have H2_ := (Option.bind_some _ _).symm.trans H; rw [hy226]; with_reducible exact H2_) | (have H2_ := (Option.bind_some _ _).symm.trans H; with_reducible exact H2_) | with_reducible exact H | (rw [hy226]; exact H) | exact H
                 have Ny226 := Aside0.mk hy226
                 clear hy226
                 have H' := Aside0.mk H
                 clear H
                 have p221 : 0 ≤ (x12_2 : Int) := of_decide_eq_true (by assumption)
                 have q221 : x12_2 < (x11_20.length : Int) := of_decide_eq_true (by assumption)
                 obtain ⟨ad221, e221, hx221_0, hx221_1, hx221_2, hx221_3, hx221_4, hx221_5⟩ := at_T45 (Kd.R_reads' HO_11.out).2.2 x12_2 p221 q221
                 obtain rfl : ad219 = ad221 := (by injection e221)
                 replace p221 := eq_true p221
                 replace q221 := eq_true q221
                 have p225 : 0 ≤ (x12_2 : Int) := of_decide_eq_true (by assumption)
                 have q225 : x12_2 < (x11_20.length : Int) := of_decide_eq_true (by assumption)
                 obtain ⟨ad225, e225, hx225_0, hx225_1, hx225_2, hx225_3, hx225_4, hx225_5⟩ := at_T45 (Kd.R_reads' HO_11.out).2.2 x12_2 p225 q225
                 obtain rfl : ad219 = ad225 := (by injection e225)
                 replace p225 := eq_true p225
                 replace q225 := eq_true q225
                 have p40 : 0 ≤ (x12_2 : Int) := of_decide_eq_true (by assumption)
                 have q40 : (x12_2 : Int) < ((x11_20.length : Int) : Int) := of_decide_eq_true (by assumption)
                 obtain ⟨go40, co40, eo40, gb40, gl40, cl40, HG40⟩ := Kd.R_form HO_11.out (by omega)
                 (first | cases eo40 | (injection eo40 with ea_ en_ ec_; (first | subst ea_ | (injection ea_ with ea_; subst ea_)); subst ec_; clear en_))
                 have GB40 := Aside0.mk gb40
                 have GG40 := Aside0.mk HG40
                 clear gb40 gl40 HG40
                 (first | simp only [add_plain] at hx221_0 | skip)
                 (first | simp only [add_plain] at hx221_1 | skip)
                 (first | simp only [add_plain] at hx221_2 | skip)
                 (first | simp only [add_plain] at hx221_3 | skip)
                 (first | simp only [add_plain] at hx221_4 | skip)
                 (first | simp only [add_plain] at hx221_5 | skip)
                 (first | simp only [add_plain] at hx225_0 | skip)
                 (first | simp only [add_plain] at hx225_1 | skip)
                 (first | simp only [add_plain] at hx225_2 | skip)
                 (first | simp only [add_plain] at hx225_3 | skip)
                 (first | simp only [add_plain] at hx225_4 | skip)
                 (first | simp only [add_plain] at hx225_5 | skip)
                 obtain ⟨ce40, hcl40, hM40, hcc40, hfr40⟩ := Kd.R_elem HO_11.out z45 (x12_2 : Int) p40 q40
                 obtain rfl := k45_openM hM40
                 have hx40_0 : wc.cell? ⟨go40, (x12_2 : Int).toNat * 6, none⟩ = some (.string ((rd_T45 x11_20 x12_2).f0)) := hcc40 0 _ rfl
                 have hx40_1 : wc.cell? ⟨go40, (x12_2 : Int).toNat * 6 + 1, none⟩ = some (.int .i8 ((rd_T45 x11_20 x12_2).f1)) := hcc40 1 _ rfl
                 have hx40_2 : wc.cell? ⟨go40, (x12_2 : Int).toNat * 6 + 2, none⟩ = some (.string ((rd_T45 x11_20 x12_2).f2)) := hcc40 2 _ rfl
                 have hx40_3 : wc.cell? ⟨go40, (x12_2 : Int).toNat * 6 + 3, none⟩ = some (.string ((rd_T45 x11_20 x12_2).f3)) := hcc40 3 _ rfl
                 have hx40_4 : wc.cell? ⟨go40, (x12_2 : Int).toNat * 6 + 4, none⟩ = some (.int .i64 ((rd_T45 x11_20 x12_2).f4)) := hcc40 4 _ rfl
                 have hx40_5 : wc.cell? ⟨go40, (x12_2 : Int).toNat * 6 + 5, none⟩ = some (.int .i64 ((rd_T45 x11_20 x12_2).f5)) := hcc40 5 _ rfl
                 have hf40_0 : wc.frozen? ⟨go40, (x12_2 : Int).toNat * 6, none⟩ = false := hfr40 0
                 have hf40_1 : wc.frozen? ⟨go40, (x12_2 : Int).toNat * 6 + 1, none⟩ = false := hfr40 1
                 have hf40_2 : wc.frozen? ⟨go40, (x12_2 : Int).toNat * 6 + 2, none⟩ = false := hfr40 2
                 have hf40_3 : wc.frozen? ⟨go40, (x12_2 : Int).toNat * 6 + 3, none⟩ = false := hfr40 3
                 have hf40_4 : wc.frozen? ⟨go40, (x12_2 : Int).toNat * 6 + 4, none⟩ = false := hfr40 4
                 have hf40_5 : wc.frozen? ⟨go40, (x12_2 : Int).toNat * 6 + 5, none⟩ = false := hfr40 5
                 clear hcl40 hcc40 hfr40 hM40
                 replace p40 := eq_true p40
                 replace q40 := eq_true q40
                 have HX41 := Aside0.mk (show Kd.R k45 45 wc w.heap.size (fun _ => True) (.slice (some ⟨go40, 0, none⟩) x11_20.length co22) x11_20 from (by (with_reducible repeat (first | apply Kd.R_alloc | apply Kd.R_drewN | apply Kd.R_drew)); exact HO_11.out))
                 obtain ⟨ce41, hcl41, hM41, hcc41, hfr41⟩ := Kd.R_elem HX41.out z45 (x12_2 : Int) (of_decide_eq_true (by assumption)) (by have h_ : (x12_2 : Int) < ((x11_20.length : Int) : Int) := of_decide_eq_true (by assumption); first | exact h_ | (have e_ := (Kd.R_reads' HO_11.out).1; omega) | simpa using h_)
                 obtain rfl := k45_openM hM41
                 have HP41 := Kd.R_seg HX41.out (x12_2 : Int) (of_decide_eq_true (by assumption)) (by have h_ : (x12_2 : Int) < ((x11_20.length : Int) : Int) := of_decide_eq_true (by assumption); first | exact h_ | (have e_ := (Kd.R_reads' HO_11.out).1; omega) | simpa using h_) (seg := [.string a2]) (j := 3) hcl41 hcc41 (show 4 ≤ 6 from by decide) (x' := (⟨(rd_T45 x11_20 x12_2).f0, (rd_T45 x11_20 x12_2).f1, (rd_T45 x11_20 x12_2).f2, a2, (rd_T45 x11_20 x12_2).f4, (rd_T45 x11_20 x12_2).f5⟩ : S45)) (k45_mkM _ _ _ (⟨(rd_T45 x11_20 x12_2).f0, (rd_T45 x11_20 x12_2).f1, (rd_T45 x11_20 x12_2).f2, a2, (rd_T45 x11_20 x12_2).f4, (rd_T45 x11_20 x12_2).f5⟩ : S45) ) (fun _ hk => hk)
                 have hx41_3 := hcc41 3 _ rfl
                 (try simp only [show (k45).sz = 6 from rfl, Nat.mul_one, Nat.add_zero] at hx41_3)
                 have hf41_3 := hfr41 3
                 (try simp only [show (k45).sz = 6 from rfl, Nat.mul_one, Nat.add_zero] at hf41_3)
                 clear hcl41 hcc41 hfr41 hM41
                 go_wp2_with (first | ((with_reducible refine gate_store (t := 9) (p := 82) rfl ?_); refine store_event (t := 9) (p := 82) (v := ?vo_w42) (w1 := (wc.setCell ⟨go40, (x12_2 : Int).toNat * 6 + 3, none⟩ (.string a2))) ?hg ?ho ?hn ?hr ?_; (case ho => rfl); (case hg => rfl); (case hn => rfl); (case hr => first | (go_simp; done) | (go_simp; rfl)); intro w42 hw; have hg : wc.grownBy w42 (some go40) := (by rw [hw]; exact HP41.2); have hp_ : Kd.R k45 45 w42 w.heap.size (fun _ => True) (.slice (some ⟨go40, 0, none⟩) x11_20.length co22) y226 := (by rw [hw, Ny226.out]; exact HP41.1); clear HP41; have n0_ := Aside0.mk (hp_); have n1_ := Aside0.mk ((by rw [hw]; exact below_set (HB.out) GB40.out : Below w.heap.size w w42)); clear HO_11; clear HB; have HO_11 := n0_; have HB := n1_; clear n0_ n1_; clear hg hw hp_))
                 (try simp only [← hl11_20])
                 go_roundg kj20
                 case measure => have := HJ8.out; have := HK2.out; have := HJ20.out; omega
                 case rel => exact ⟨(y226), (wrap64 (x12_2 + 1)), (by first | rfl | (simp; done) | (simp [*]; done) | (simp [isE_]; done)), H', ⟨by have := HJ8.out; have := HK2.out; have := HJ20.out; omega⟩, ⟨by (try simp only [hl11_20]); (with_reducible repeat (first | apply Kd.R_alloc | apply Kd.R_drewN | apply Kd.R_drew)); exact HO_11.out⟩, ⟨by repeat (first | (with_reducible first | exact HB.out | apply below_alloc | apply pw_below_drewN | apply below_drew1) | exact HB.out)⟩⟩
                ·
                 rw [if_neg c39] at H
                 have c39b0 : (((rd_T45 x11_20 x12_2).f3).toList == a1.toList) = false := beq_eq_false_iff_ne.mpr c39
                 have c39b1 : (((rd_T45 x11_20 x12_2).f3).toList != a1.toList) = true := bne_iff_ne.mpr c39
                 have H' := Aside0.mk H
                 clear H
                 have p221 : 0 ≤ (x12_2 : Int) := of_decide_eq_true (by assumption)
                 have q221 : x12_2 < (x11_20.length : Int) := of_decide_eq_true (by assumption)
                 obtain ⟨ad221, e221, hx221_0, hx221_1, hx221_2, hx221_3, hx221_4, hx221_5⟩ := at_T45 (Kd.R_reads' HO_11.out).2.2 x12_2 p221 q221
                 obtain rfl : ad219 = ad221 := (by injection e221)
                 replace p221 := eq_true p221
                 replace q221 := eq_true q221
                 have p225 : 0 ≤ (x12_2 : Int) := of_decide_eq_true (by assumption)
                 have q225 : x12_2 < (x11_20.length : Int) := of_decide_eq_true (by assumption)
                 obtain ⟨ad225, e225, hx225_0, hx225_1, hx225_2, hx225_3, hx225_4, hx225_5⟩ := at_T45 (Kd.R_reads' HO_11.out).2.2 x12_2 p225 q225
                 obtain rfl : ad219 = ad225 := (by injection e225)
                 replace p225 := eq_true p225
                 replace q225 := eq_true q225
                 go_wp2
                 (try simp only [← hl11_20])
                 go_roundg kj20
                 case measure => have := HJ8.out; have := HK2.out; have := HJ20.out; omega
                 case rel => exact ⟨(x11_20), (wrap64 (x12_2 + 1)), (by first | rfl | (simp; done) | (simp [*]; done) | (simp [isE_]; done)), H', ⟨by have := HJ8.out; have := HK2.out; have := HJ20.out; omega⟩, ⟨by (try simp only [hl11_20]); (with_reducible repeat (first | apply Kd.R_alloc | apply Kd.R_drewN | apply Kd.R_drew)); exact HO_11.out⟩, ⟨by repeat (first | (with_reducible first | exact HB.out | apply below_alloc | apply pw_below_drewN | apply below_drew1) | exact HB.out)⟩⟩
              ·
               rw [if_neg c28] at H
               exact absurd H (by simp)
             ·
              rw [if_neg c27] at H
              exact absurd H (by simp)
          ·
           rw [if_neg c20] at H
           exact absurd H (by simp)
         ·
          rw [if_neg c19] at H
          have c19b0 : decide (x12_2 < (x11_2.length : Int)) = false := decide_eq_false c19
          clear c19
          simp only [Option.some.injEq, Prod.mk.injEq] at H
          obtain ⟨rfl, rfl⟩ := H
          obtain ⟨Ao43, co43, eo43⟩ := Kd.R_slice HO_11.out
          subst eo43
          go_wp2
          go_ret2
          exact ⟨_, by first | rfl | (simp [errW_none, errW_some] <;> rfl) | (simp [*, errW_none, errW_some] <;> rfl), by (with_reducible repeat (first | apply Kd.R_alloc | apply Kd.R_drewN | apply Kd.R_drew)); exact HO_11.out, by repeat (first | (with_reducible first | exact HB.out | apply below_alloc | apply pw_below_drewN | apply below_drew1) | exact HB.out)⟩
      ·
       rw [if_neg c15] at H
       exact absurd H (by simp)
  ·
   replace c7 := Bool.eq_false_iff.mpr c7
   subst c7
   have H1 : (some ((([] : List (S45))), 2)) = some (r1, r2) := by first | (rw [if_neg (show ¬ (false = true) by decide)] at H; exact H) | rfl
   clear H
   have H := H1
   clear H1
   obtain ⟨y206, hy206⟩ : ∃ y_ : List (S45), y_ = (([] : List (S45))) := ⟨_, rfl⟩
   replace H : (some (y206, 2)) = some (r1, r2) := by first | (rw [hy206]; with_reducible exact H) | (have H2_ := (Option.bind_some _ _).symm.trans H; rw [hy206]; with_reducible exact H2_) | (have H2_ := (Option.bind_some _ _).symm.trans H; with_reducible exact H2_) | with_reducible exact H | (rw [hy206]; exact H) | exact H
   have Ny206 := Aside0.mk hy206
   clear hy206
   simp only [Option.some.injEq, Prod.mk.injEq] at H
   obtain ⟨rfl, rfl⟩ := H
   go_enter Try.func40, Try.ntmps40
   go_wp2_with (first | ((with_reducible refine gate_callee (f := 80) rfl ?_); refine goesL_ (some 16) rfl rfl Try.func80 (by kernel_rfl) rfl #[.slice A0 l0.length c0, .string a1, .int .i64 0] rfl (by (try simp only [List.map_toArray, List.map_cons, List.map_nil]); first | done | rfl | (simp only [List.length_drop, List.length_take]; rfl)) ?_; (with_reducible refine (spec_l07Asked.calls k _ _ l0 a1 0 t200 t201 _ ?side1 ?side2 A4.out).mono ?_); (case side1 => repeat (first | exact HR0.out | (with_reducible refine Kd.C_alloc ?_ _) | (with_reducible refine Kd.C_drewN ?_ _) | (with_reducible refine Kd.C_drew ?_))); (case side2 => exact HC0.out); rintro e w44 ⟨rfl, hb⟩; refine ⟨_, rfl, ?_⟩; have n0_ := Aside0.mk (below_step (by repeat (first | (with_reducible first | exact HB.out | apply below_alloc | apply pw_below_drewN | apply below_drew1) | exact HB.out)) hb); clear HB; have HB := n0_; clear n0_; (try clear hb); (try clear hb2); (try clear hk); (try clear hi)) | ((with_reducible refine gate_callee (f := 88) rfl ?_); refine goesL_ (some 24) rfl rfl Try.func88 (by kernel_rfl) rfl #[.string a2] rfl (by (try simp only [List.map_toArray, List.map_cons, List.map_nil]); first | done | rfl | (simp only [List.length_drop, List.length_take]; rfl)) ?_; (with_reducible refine (spec_l07Name.calls k a2 false _ A6.out).mono ?_); rintro e w' ⟨rfl, ⟨nd, rfl⟩⟩; refine ⟨_, rfl, ?_⟩) | ((with_reducible refine gate_dst (N := 26) rfl ?_); refine Kd.R_lit k45 _ 45 ?hg (N := 26) ?hd (xs := ([] : List (S45))) (inner := []) (ok := fun _ => True) (okp := fun _ => True) ?hr ?hp (fun _ hk => hk) trivial (Below.refl _ _) (Nat.le_refl _) (by simp) ?_; (case hd => rfl); (case hg => rfl); (case hr => first | (go_simp; done) | (go_simp; rfl)); (case hp => exact (Reps.none _ _)); intro v207 w45 ho46 hb hg_ hnew_; clear hg_ hnew_; (first | rw [← Ny206.out] at ho46 | (simp only [Int.reduceToNat] at ho46; rw [← Ny206.out] at ho46)); have n0_ := Aside0.mk (Kd.R_lower ho46 (below_size (by repeat (first | (with_reducible first | exact HB.out | apply below_alloc | apply pw_below_drewN | apply below_drew1) | exact HB.out)))); have n1_ := Aside0.mk (below_step (by repeat (first | (with_reducible first | exact HB.out | apply below_alloc | apply pw_below_drewN | apply below_drew1) | exact HB.out)) hb); clear HB; have HO208 := n0_; have HB := n1_; clear n0_ n1_; clear hb ho46))
   go_ret2
   exact ⟨_, by first | rfl | (simp [errW_none, errW_some] <;> rfl) | (simp [*, errW_none, errW_some] <;> rfl), by (with_reducible repeat (first | apply Kd.R_alloc | apply Kd.R_drewN | apply Kd.R_drew)); exact HO208.out, by repeat (first | (with_reducible first | exact HB.out | apply below_alloc | apply pw_below_drewN | apply below_drew1) | exact HB.out)⟩
 ·
  rw [if_neg c5] at H
  have c5b0 : (t201 == 0) = false := beq_eq_false_iff_ne.mpr c5
  have c5b1 : (t201 != 0) = true := bne_iff_ne.mpr c5
  obtain ⟨y202, hy202⟩ : ∃ y_ : List (S45), y_ = (([] : List (S45))) := ⟨_, rfl⟩
  replace H : (some (y202, t201)) = some (r1, r2) := by first | (rw [hy202]; with_reducible exact H) | (have H2_ := (Option.bind_some _ _).symm.trans H; rw [hy202]; with_reducible exact H2_) | (have H2_ := (Option.bind_some _ _).symm.trans H; with_reducible exact H2_) | with_reducible exact H | (rw [hy202]; exact H) | exact H
  have Ny202 := Aside0.mk hy202
  clear hy202
  simp only [Option.some.injEq, Prod.mk.injEq] at H
  obtain ⟨rfl, rfl⟩ := H
  go_enter Try.func40, Try.ntmps40
  go_wp2_with (first | ((with_reducible refine gate_callee (f := 80) rfl ?_); refine goesL_ (some 16) rfl rfl Try.func80 (by kernel_rfl) rfl #[.slice A0 l0.length c0, .string a1, .int .i64 0] rfl (by (try simp only [List.map_toArray, List.map_cons, List.map_nil]); first | done | rfl | (simp only [List.length_drop, List.length_take]; rfl)) ?_; (with_reducible refine (spec_l07Asked.calls k _ _ l0 a1 0 t200 t201 _ ?side1 ?side2 A4.out).mono ?_); (case side1 => repeat (first | exact HR0.out | (with_reducible refine Kd.C_alloc ?_ _) | (with_reducible refine Kd.C_drewN ?_ _) | (with_reducible refine Kd.C_drew ?_))); (case side2 => exact HC0.out); rintro e w47 ⟨rfl, hb⟩; refine ⟨_, rfl, ?_⟩; have n0_ := Aside0.mk (below_step (by repeat (first | (with_reducible first | exact HB.out | apply below_alloc | apply pw_below_drewN | apply below_drew1) | exact HB.out)) hb); clear HB; have HB := n0_; clear n0_; (try clear hb); (try clear hb2); (try clear hk); (try clear hi)) | ((with_reducible refine gate_dst (N := 21) rfl ?_); refine Kd.R_lit k45 _ 45 ?hg (N := 21) ?hd (xs := ([] : List (S45))) (inner := []) (ok := fun _ => True) (okp := fun _ => True) ?hr ?hp (fun _ hk => hk) trivial (Below.refl _ _) (Nat.le_refl _) (by simp) ?_; (case hd => rfl); (case hg => rfl); (case hr => first | (go_simp; done) | (go_simp; rfl)); (case hp => exact (Reps.none _ _)); intro v203 w48 ho49 hb hg_ hnew_; clear hg_ hnew_; (first | rw [← Ny202.out] at ho49 | (simp only [Int.reduceToNat] at ho49; rw [← Ny202.out] at ho49)); have n0_ := Aside0.mk (Kd.R_lower ho49 (below_size (by repeat (first | (with_reducible first | exact HB.out | apply below_alloc | apply pw_below_drewN | apply below_drew1) | exact HB.out)))); have n1_ := Aside0.mk (below_step (by repeat (first | (with_reducible first | exact HB.out | apply below_alloc | apply pw_below_drewN | apply below_drew1) | exact HB.out)) hb); clear HB; have HO204 := n0_; have HB := n1_; clear n0_ n1_; clear hb ho49))
  go_ret2
  exact ⟨_, by first | rfl | (simp [errW_none, errW_some] <;> rfl) | (simp [*, errW_none, errW_some] <;> rfl), by (with_reducible repeat (first | apply Kd.R_alloc | apply Kd.R_drewN | apply Kd.R_drew)); exact HO204.out, by repeat (first | (with_reducible first | exact HB.out | apply below_alloc | apply pw_below_drewN | apply below_drew1) | exact HB.out)⟩
end Go.Proofs.Ytenhgmddpkiliaa.PB

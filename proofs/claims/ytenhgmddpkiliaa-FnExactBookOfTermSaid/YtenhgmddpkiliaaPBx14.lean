-- Written by a program (xprint.py) out of the translation's own print; Lean checks it.
import Derived.Test.YtenhgmddpkiliaaPBx0
import Derived.Test.YtenhgmddpkiliaaPBx3
import Derived.Test.YtenhgmddpkiliaaPBx13
namespace Go.Proofs.Ytenhgmddpkiliaa.PB
open Go.RowKit Go.Proofs.YtenhgmddpkiliaaW.PrintWords Go.Proofs.YtenhgmddpkiliaaW.PrintLast Go.Proofs.YtenhgmddpkiliaaW.PrintMore
attribute [local go_sem] max2_int min2_int max_two min_two max_three min_three max_four min_four   -- for this text's walks alone
set_option linter.unusedVariables false
set_option linter.unusedSimpArgs false
/-! ### impl_BookOfTerm: function 24 -/
def impl_BookOfTerm.l0 : Nat → List (S45) → List (S83) → Int → Int → Option ((List (S45)) × Int)
 | 0, _, _, _, _ => none
 | k + 1, x4, x19, x20, x21 => if x21 < x20 then (if 0 ≤ x21 then (if x21 < (x19.length : Int) then ((impl_letter.f (IntKind.i16.wrap (x21))).bind fun t412 => (if x21 < (x4.length : Int) then ((some (x4.set (x21 : Int).toNat (⟨t412, (rd_T83 x19 x21).f0, (⟨#[]⟩ : ByteArray), (⟨#[]⟩ : ByteArray), (rd_T83 x19 x21).f3, (rd_T83 x19 x21).f4⟩ : S45) : List (S45))).bind fun y413 => ((impl_uses.f k ((rd_T83 x19 x21).f0)).bind fun bt414 => (if bt414.1 = true then ((impl_letter.f ((rd_T83 x19 x21).f1)).bind fun t417 => ((some (y413.set (x21 : Int).toNat (⟨(rd_T45 y413 x21).f0, (rd_T45 y413 x21).f1, t417, (rd_T45 y413 x21).f3, (rd_T45 y413 x21).f4, (rd_T45 y413 x21).f5⟩ : S45) : List (S45))).bind fun y418 => (if bt414.2.1 = true then ((impl_letter.f ((rd_T83 x19 x21).f2)).bind fun t419 => (impl_BookOfTerm.l0 k (y418.set (x21 : Int).toNat (⟨(rd_T45 y418 x21).f0, (rd_T45 y418 x21).f1, (rd_T45 y418 x21).f2, t419, (rd_T45 y418 x21).f4, (rd_T45 y418 x21).f5⟩ : S45)) x19 x20 (wrap64 (x21 + 1)))) else (impl_BookOfTerm.l0 k y418 x19 x20 (wrap64 (x21 + 1)))))) else (if bt414.2.1 = true then ((impl_letter.f ((rd_T83 x19 x21).f2)).bind fun t421 => (impl_BookOfTerm.l0 k (y413.set (x21 : Int).toNat (⟨(rd_T45 y413 x21).f0, (rd_T45 y413 x21).f1, (rd_T45 y413 x21).f2, t421, (rd_T45 y413 x21).f4, (rd_T45 y413 x21).f5⟩ : S45)) x19 x20 (wrap64 (x21 + 1)))) else (impl_BookOfTerm.l0 k y413 x19 x20 (wrap64 (x21 + 1))))))) else (none))) else (none)) else (none)) else (some (x4, 0))
def impl_BookOfTerm.f (k : Nat) (l0 : List (S83)) : Option ((List (S45)) × Int) := (impl_ValidTerm.f k l0).bind fun t406 => (if t406 = true then (if (l0.length : Int) > 24 then (some (([] : List (S45)), 3)) else (if 0 ≤ (l0.length : Int) then (if ((l0.length : Int) : Int).toNat ≤ 3909374676536 then (impl_BookOfTerm.l0 k (List.replicate ((l0.length : Int) : Int).toNat z45) l0 (l0.length : Int) 0) else (none)) else (none))) else (some (([] : List (S45)), 1)))
theorem impl_BookOfTerm.mono_l : ∀ k, (∀ y0 y1 y2 y3, LeO (impl_BookOfTerm.l0 k y0 y1 y2 y3) (impl_BookOfTerm.l0 (k + 1) y0 y1 y2 y3))
 | 0 => fun _ _ _ _ r h => by simp [impl_BookOfTerm.l0] at h
 | k + 1 => by
  have ih0 := impl_BookOfTerm.mono_l k
  ·
   intro y0 y1 y2 y3
   unfold impl_BookOfTerm.l0
   repeat' first
   | (with_reducible exact ih0 _ _ _ _)
   | (with_reducible exact impl_ValidTerm.mono _ _)
   | (with_reducible exact impl_uses.mono _ _)
   | (with_reducible exact LeO.refl _)
   | (with_reducible exact LeO.none _)
   | (with_reducible refine LeO.ite ?_ ?_)
   | (with_reducible refine LeO.bind ?_ (fun _ => ?_))
   | exact ih0 _ _ _ _
   | exact LeO.none _
   | refine LeO.ite ?_ ?_
   | refine LeO.bind ?_ (fun _ => ?_)
theorem impl_BookOfTerm.mono : ∀ a0 k, LeO (impl_BookOfTerm.f k a0) (impl_BookOfTerm.f (k + 1) a0) := by
 intro a0 k
 have ih0 := impl_BookOfTerm.mono_l k
 unfold impl_BookOfTerm.f
 repeat' first
   | (with_reducible exact ih0 _ _ _ _)
   | (with_reducible exact impl_ValidTerm.mono _ _)
   | (with_reducible exact impl_uses.mono _ _)
   | (with_reducible exact LeO.refl _)
   | (with_reducible exact LeO.none _)
   | (with_reducible refine LeO.ite ?_ ?_)
   | (with_reducible refine LeO.bind ?_ (fun _ => ?_))
   | exact ih0 _ _ _ _
   | exact LeO.none _
   | refine LeO.ite ?_ ?_
   | refine LeO.bind ?_ (fun _ => ?_)
def impl_BookOfTerm.T9 : Bool × List (List Nat × List Nat) := (true, [([], []), ([], []), ([], []), ([2], [2]), ([3], [3]), ([], []), ([5], [5]), ([], []), ([7], [7]), ([], []), ([9], [9]), ([4, 6, 8, 10], [4, 6, 8, 10]), ([0, 1, 0, 1, 2, 3, 4, 5, 6, 7, 8, 9, 10, 11], [0, 1]), ([12, 11, 4, 0, 1, 2, 3, 4, 5, 6, 7, 8, 9, 10, 11], [11, 12])])
def impl_BookOfTerm.B9 : List Nat := [0, 0, 0, 4, 12, 0, 32, 0, 128, 0, 512, 2044, 4095, 8191]
theorem impl_BookOfTerm.tab9 : rtab .any (opsOf Try.f24 9) = impl_BookOfTerm.T9 := by kernel_rfl
theorem impl_BookOfTerm.bits9 : waitsOk impl_BookOfTerm.T9.2 impl_BookOfTerm.B9 = true := by kernel_rfl
set_option maxHeartbeats 8000000 in
set_option maxRecDepth 100000 in
theorem impl_BookOfTerm.calls (k : Nat) (A0 : Option Addr) (c0 : Nat) (l0 : List (S83)) (r1 : List (S45)) (r2 : Int) (w : World) (hr0 : Kd.C k83 w A0 l0.length l0) (hc0 : l0.length ≤ c0) (h : impl_BookOfTerm.f k l0 = some (r1, r2)) :
  Calls Try.prog 24 #[.slice A0 l0.length c0] w fun e w' => ∃ v0_ : Value, e = .returned (.tuple #[v0_, .int .i64 r2]) ∧ Kd.R k45 45 w' w.heap.size (fun _ => True) v0_ r1 ∧ Below w.heap.size w w' := by
 have hu83 := Try.underlying83
 have hu45 := Try.underlying45
 have HR0 := Aside0.mk hr0
 have HC0 := Aside0.mk hc0
 clear hr0 hc0
 have HB := Aside0.mk (Below.refl w.heap.size w)
 have H : ((impl_ValidTerm.f k l0).bind fun t406 => (if t406 = true then (if (l0.length : Int) > 24 then (some (([] : List (S45)), 3)) else (if 0 ≤ (l0.length : Int) then (if ((l0.length : Int) : Int).toNat ≤ 3909374676536 then (impl_BookOfTerm.l0 k (List.replicate ((l0.length : Int) : Int).toNat z45) l0 (l0.length : Int) 0) else (none)) else (none))) else (some (([] : List (S45)), 1)))) = some (r1, r2) := h
 clear h
 replace H := Option.bind_eq_some_iff.mp H
 obtain ⟨t406, A20, H⟩ := H
 replace H : (if t406 = true then (if (l0.length : Int) > 24 then (some (([] : List (S45)), 3)) else (if 0 ≤ (l0.length : Int) then (if ((l0.length : Int) : Int).toNat ≤ 3909374676536 then (impl_BookOfTerm.l0 k (List.replicate ((l0.length : Int) : Int).toNat z45) l0 (l0.length : Int) 0) else (none)) else (none))) else (some (([] : List (S45)), 1))) = some (r1, r2) := H
 have A2 := Aside0.mk A20
 clear A20
 by_cases c3 : t406 = true
 ·
  subst c3
  have H1 : (if (l0.length : Int) > 24 then (some (([] : List (S45)), 3)) else (if 0 ≤ (l0.length : Int) then (if ((l0.length : Int) : Int).toNat ≤ 3909374676536 then (impl_BookOfTerm.l0 k (List.replicate ((l0.length : Int) : Int).toNat z45) l0 (l0.length : Int) 0) else (none)) else (none))) = some (r1, r2) := by rw [if_pos rfl] at H; exact H
  clear H
  have H := H1
  clear H1
  by_cases c4 : (l0.length : Int) > 24
  ·
   rw [if_pos c4] at H
   have c4b0 : decide (24 < (l0.length : Int)) = true := decide_eq_true c4
   have c4b1 : decide (24 < l0.length) = true := decide_eq_true (by omega)
   clear c4
   simp only [Option.some.injEq, Prod.mk.injEq] at H
   obtain ⟨rfl, rfl⟩ := H
   go_enter Try.func24, Try.ntmps24
   go_wp2_with (first | ((with_reducible refine gate_callee (f := 72) rfl ?_); refine goesL_ (some 11) rfl rfl Try.func72 (by kernel_rfl) rfl #[.slice A0 l0.length c0] rfl (by (try simp only [List.map_toArray, List.map_cons, List.map_nil]); first | done | rfl | (simp only [List.length_drop, List.length_take]; rfl)) ?_; (with_reducible refine (impl_ValidTerm.calls k _ _ l0 true _ ?side1 ?side2 A2.out).mono ?_); (case side1 => repeat (first | exact HR0.out | (with_reducible refine Kd.C_alloc ?_ _) | (with_reducible refine Kd.C_drewN ?_ _) | (with_reducible refine Kd.C_drew ?_))); (case side2 => exact HC0.out); rintro e w5 ⟨rfl, hb⟩; refine ⟨_, rfl, ?_⟩; have n0_ := Aside0.mk (below_step (by repeat (first | (with_reducible first | exact HB.out | apply below_alloc | apply pw_below_drewN | apply below_drew1) | exact HB.out)) hb); clear HB; have HB := n0_; clear n0_; (try clear hb); (try clear hb2); (try clear hk); (try clear hi)))
   go_ret2
   exact ⟨_, by first | rfl | (simp [errW_none, errW_some] <;> rfl) | (simp [*, errW_none, errW_some] <;> rfl), by first | exact Kd.R_nil _ _ _ _ _ | exact Kd.N_nil _ _ _ _ _ | exact Kd.V_nil _ _ _ _ _ | exact Kd.Q_nil _ _ _ _ _ | exact Kd.S_nil _ _ _ _ _, by repeat (first | (with_reducible first | exact HB.out | apply below_alloc | apply pw_below_drewN | apply below_drew1) | exact HB.out)⟩
  ·
   rw [if_neg c4] at H
   have c4b0 : decide (24 < (l0.length : Int)) = false := decide_eq_false c4
   have c4b1 : decide (24 < l0.length) = false := decide_eq_false (by omega)
   clear c4
   by_cases c6 : 0 ≤ (l0.length : Int)
   ·
    rw [if_pos c6] at H
    have c6b0 := eq_true c6
    have c6b1 : decide (0 ≤ (l0.length : Int)) = true := decide_eq_true c6
    clear c6
    by_cases c7 : ((l0.length : Int) : Int).toNat ≤ 3909374676536
    ·
     rw [if_pos c7] at H
     have c7b0 := eq_true c7
     have c7b1 : decide (((l0.length : Int) : Int).toNat ≤ 3909374676536) = true := decide_eq_true c7
     clear c7
     obtain ⟨y407, hy407⟩ : ∃ y_ : List (S45), y_ = (List.replicate ((l0.length : Int) : Int).toNat z45) := ⟨_, rfl⟩
     replace H : (impl_BookOfTerm.l0 k y407 l0 (l0.length : Int) 0) = some (r1, r2) := by first | (rw [hy407]; with_reducible exact H) | (have H2_ := (Option.bind_some _ _).symm.trans H; rw [hy407]; with_reducible exact H2_) | (have H2_ := (Option.bind_some _ _).symm.trans H; with_reducible exact H2_) | with_reducible exact H | (rw [hy407]; exact H) | exact H
     have Ny407 := Aside0.mk hy407
     clear hy407
     have H' := Aside0.mk H
     clear H
     go_enter Try.func24, Try.ntmps24
     go_wp2_with (first | ((with_reducible refine gate_callee (f := 72) rfl ?_); refine goesL_ (some 11) rfl rfl Try.func72 (by kernel_rfl) rfl #[.slice A0 l0.length c0] rfl (by (try simp only [List.map_toArray, List.map_cons, List.map_nil]); first | done | rfl | (simp only [List.length_drop, List.length_take]; rfl)) ?_; (with_reducible refine (impl_ValidTerm.calls k _ _ l0 true _ ?side1 ?side2 A2.out).mono ?_); (case side1 => repeat (first | exact HR0.out | (with_reducible refine Kd.C_alloc ?_ _) | (with_reducible refine Kd.C_drewN ?_ _) | (with_reducible refine Kd.C_drew ?_))); (case side2 => exact HC0.out); rintro e w8 ⟨rfl, hb⟩; refine ⟨_, rfl, ?_⟩; have n0_ := Aside0.mk (below_step (by repeat (first | (with_reducible first | exact HB.out | apply below_alloc | apply pw_below_drewN | apply below_drew1) | exact HB.out)) hb); clear HB; have HB := n0_; clear n0_; (try clear hb); (try clear hb2); (try clear hk); (try clear hi)) | ((with_reducible refine gate_dst (N := 18) rfl ?_); refine Kd.R_make k45 _ 45 rfl (N := 18) rfl 25 _ _ rfl (l0.length : Int) rfl rfl Try.underlying25 (.agg #[(.string ⟨#[]⟩), (.int .i8 0), (.string ⟨#[]⟩), (.string ⟨#[]⟩), (.int .i64 0), (.int .i64 0)]) 72 info45 rfl (by decide) (by omega) z45 (ok := fun _ => True) (okp := fun _ => True) (k45_mkM _ _ _ z45 ) (fun _ hk => hk) trivial (of_decide_eq_true (by first | (with_reducible assumption) | assumption)) (Nat.le_trans (Nat.mul_le_mul_right _ (of_decide_eq_true (by first | (with_reducible assumption) | assumption) : (l0.length : Int).toNat ≤ 3909374676536)) (by omega)) (Below.refl _ _) (Nat.le_refl _) ?_; intro v408 w9 ho10 hb hg_ hnew_; clear hg_ hnew_; (first | rw [← Ny407.out] at ho10 | (simp only [Int.reduceToNat] at ho10; rw [← Ny407.out] at ho10)); have n0_ := Aside0.mk (Kd.R_lower ho10 (below_size (by repeat (first | (with_reducible first | exact HB.out | apply below_alloc | apply pw_below_drewN | apply below_drew1) | exact HB.out)))); have n1_ := Aside0.mk (below_step (by repeat (first | (with_reducible first | exact HB.out | apply below_alloc | apply pw_below_drewN | apply below_drew1) | exact HB.out)) hb); clear HB; have HO409 := n0_; have HB := n1_; clear n0_ n1_; clear hb ho10))
     go_loopg [21] k (fun kq v21 w' => ∃ (x4_1 : List (S45)) (x21_1 : Int), v21 = .int .i64 x21_1 ∧ Aside0 (impl_BookOfTerm.l0 kq x4_1 l0 (l0.length : Int) x21_1 = some (r1, r2)) ∧ Aside0 (kq ≤ k) ∧ Aside0 (Kd.R k45 45 w' w.heap.size (fun _ => True) v408 x4_1) ∧ Aside0 (Below w.heap.size w w'))
     case atStart => exact ⟨(y407), (0), (by first | rfl | (simp; done) | (simp [*]; done)), H', ⟨Nat.le_refl _⟩, ⟨by (with_reducible repeat (first | apply Kd.R_alloc | apply Kd.R_drewN | apply Kd.R_drew)); exact HO409.out⟩, ⟨by repeat (first | (with_reducible first | exact HB.out | apply below_alloc | apply pw_below_drewN | apply below_drew1) | exact HB.out)⟩⟩
     case round =>
      clear H'
      try clear c2
      try clear p2
      try clear c3
      try clear c4
      try clear c4b0
      try clear c4b1
      try clear c6
      try clear c6b0
      try clear c6b1
      try clear c7
      try clear c7b0
      try clear c7b1
      obtain ⟨x4_1, x21_1, rfl, HA, HK1, HO_4, HB⟩ := hrel
      cases gk with
      | zero => exact absurd HA.out (by simp [impl_BookOfTerm.l0])
      | succ k1 =>
       have H := HA.out
       clear HA
       simp only [impl_BookOfTerm.l0] at H
       by_cases c11 : x21_1 < (l0.length : Int)
       ·
        rw [if_pos c11] at H
        have c11b0 : decide (x21_1 < (l0.length : Int)) = true := decide_eq_true c11
        clear c11
        by_cases c12 : 0 ≤ x21_1
        ·
         rw [if_pos c12] at H
         have c12b0 : decide (0 ≤ x21_1) = true := decide_eq_true c12
         clear c12
         by_cases c13 : x21_1 < (l0.length : Int)
         ·
          rw [if_pos c13] at H
          have c13b0 : decide (x21_1 < (l0.length : Int)) = true := decide_eq_true c13
          clear c13
          replace H := Option.bind_eq_some_iff.mp H
          obtain ⟨t412, A140, H⟩ := H
          replace H : (if x21_1 < (x4_1.length : Int) then ((some (x4_1.set (x21_1 : Int).toNat (⟨t412, (rd_T83 l0 x21_1).f0, (⟨#[]⟩ : ByteArray), (⟨#[]⟩ : ByteArray), (rd_T83 l0 x21_1).f3, (rd_T83 l0 x21_1).f4⟩ : S45) : List (S45))).bind fun y413 => ((impl_uses.f k1 ((rd_T83 l0 x21_1).f0)).bind fun bt414 => (if bt414.1 = true then ((impl_letter.f ((rd_T83 l0 x21_1).f1)).bind fun t417 => ((some (y413.set (x21_1 : Int).toNat (⟨(rd_T45 y413 x21_1).f0, (rd_T45 y413 x21_1).f1, t417, (rd_T45 y413 x21_1).f3, (rd_T45 y413 x21_1).f4, (rd_T45 y413 x21_1).f5⟩ : S45) : List (S45))).bind fun y418 => (if bt414.2.1 = true then ((impl_letter.f ((rd_T83 l0 x21_1).f2)).bind fun t419 => (impl_BookOfTerm.l0 k1 (y418.set (x21_1 : Int).toNat (⟨(rd_T45 y418 x21_1).f0, (rd_T45 y418 x21_1).f1, (rd_T45 y418 x21_1).f2, t419, (rd_T45 y418 x21_1).f4, (rd_T45 y418 x21_1).f5⟩ : S45)) l0 (l0.length : Int) (wrap64 (x21_1 + 1)))) else (impl_BookOfTerm.l0 k1 y418 l0 (l0.length : Int) (wrap64 (x21_1 + 1)))))) else (if bt414.2.1 = true then ((impl_letter.f ((rd_T83 l0 x21_1).f2)).bind fun t421 => (impl_BookOfTerm.l0 k1 (y413.set (x21_1 : Int).toNat (⟨(rd_T45 y413 x21_1).f0, (rd_T45 y413 x21_1).f1, (rd_T45 y413 x21_1).f2, t421, (rd_T45 y413 x21_1).f4, (rd_T45 y413 x21_1).f5⟩ : S45)) l0 (l0.length : Int) (wrap64 (x21_1 + 1)))) else (impl_BookOfTerm.l0 k1 y413 l0 (l0.length : Int) (wrap64 (x21_1 + 1))))))) else (none)) = some (r1, r2) := H
          have A14 := Aside0.mk A140
          clear A140
          by_cases c15 : x21_1 < (x4_1.length : Int)
          ·
           rw [if_pos c15] at H
           have c15b0 : decide (x21_1 < (x4_1.length : Int)) = true := decide_eq_true c15
           clear c15
           obtain ⟨y413, hy413⟩ : ∃ y_ : List (S45), y_ = (x4_1.set (x21_1 : Int).toNat (⟨t412, (rd_T83 l0 x21_1).f0, (⟨#[]⟩ : ByteArray), (⟨#[]⟩ : ByteArray), (rd_T83 l0 x21_1).f3, (rd_T83 l0 x21_1).f4⟩ : S45)) := ⟨_, rfl⟩
           replace H : ((impl_uses.f k1 ((rd_T83 l0 x21_1).f0)).bind fun bt414 => (if bt414.1 = true then ((impl_letter.f ((rd_T83 l0 x21_1).f1)).bind fun t417 => ((some (y413.set (x21_1 : Int).toNat (⟨(rd_T45 y413 x21_1).f0, (rd_T45 y413 x21_1).f1, t417, (rd_T45 y413 x21_1).f3, (rd_T45 y413 x21_1).f4, (rd_T45 y413 x21_1).f5⟩ : S45) : List (S45))).bind fun y418 => (if bt414.2.1 = true then ((impl_letter.f ((rd_T83 l0 x21_1).f2)).bind fun t419 => (impl_BookOfTerm.l0 k1 (y418.set (x21_1 : Int).toNat (⟨(rd_T45 y418 x21_1).f0, (rd_T45 y418 x21_1).f1, (rd_T45 y418 x21_1).f2, t419, (rd_T45 y418 x21_1).f4, (rd_T45 y418 x21_1).f5⟩ : S45)) l0 (l0.length : Int) (wrap64 (x21_1 + 1)))) else (impl_BookOfTerm.l0 k1 y418 l0 (l0.length : Int) (wrap64 (x21_1 + 1)))))) else (if bt414.2.1 = true then ((impl_letter.f ((rd_T83 l0 x21_1).f2)).bind fun t421 => (impl_BookOfTerm.l0 k1 (y413.set (x21_1 : Int).toNat (⟨(rd_T45 y413 x21_1).f0, (rd_T45 y413 x21_1).f1, (rd_T45 y413 x21_1).f2, t421, (rd_T45 y413 x21_1).f4, (rd_T45 y413 x21_1).f5⟩ : S45)) l0 (l0.length : Int) (wrap64 (x21_1 + 1)))) else (impl_BookOfTerm.l0 k1 y413 l0 (l0.length : Int) (wrap64 (x21_1 + 1)))))) = some (r1, r2) := by first | (rw [hy413]; with_reducible exact H) | (have H2_ := (Option.bind_some _ _).symm.trans H; rw [hy413]; with_reducible exact H2_) | (have H2_ := (Option.bind_some _ _).symm.trans H; with_reducible exact H2_) | with_reducible exact H | (rw [hy413]; exact H) | exact H
           have Ny413 := Aside0.mk hy413
           clear hy413
           replace H := Option.bind_eq_some_iff.mp H
           obtain ⟨⟨t414, t415, t416⟩, A170, H⟩ := H
           replace H : (if t414 = true then ((impl_letter.f ((rd_T83 l0 x21_1).f1)).bind fun t417 => ((some (y413.set (x21_1 : Int).toNat (⟨(rd_T45 y413 x21_1).f0, (rd_T45 y413 x21_1).f1, t417, (rd_T45 y413 x21_1).f3, (rd_T45 y413 x21_1).f4, (rd_T45 y413 x21_1).f5⟩ : S45) : List (S45))).bind fun y418 => (if t415 = true then ((impl_letter.f ((rd_T83 l0 x21_1).f2)).bind fun t419 => (impl_BookOfTerm.l0 k1 (y418.set (x21_1 : Int).toNat (⟨(rd_T45 y418 x21_1).f0, (rd_T45 y418 x21_1).f1, (rd_T45 y418 x21_1).f2, t419, (rd_T45 y418 x21_1).f4, (rd_T45 y418 x21_1).f5⟩ : S45)) l0 (l0.length : Int) (wrap64 (x21_1 + 1)))) else (impl_BookOfTerm.l0 k1 y418 l0 (l0.length : Int) (wrap64 (x21_1 + 1)))))) else (if t415 = true then ((impl_letter.f ((rd_T83 l0 x21_1).f2)).bind fun t421 => (impl_BookOfTerm.l0 k1 (y413.set (x21_1 : Int).toNat (⟨(rd_T45 y413 x21_1).f0, (rd_T45 y413 x21_1).f1, (rd_T45 y413 x21_1).f2, t421, (rd_T45 y413 x21_1).f4, (rd_T45 y413 x21_1).f5⟩ : S45)) l0 (l0.length : Int) (wrap64 (x21_1 + 1)))) else (impl_BookOfTerm.l0 k1 y413 l0 (l0.length : Int) (wrap64 (x21_1 + 1))))) = some (r1, r2) := H
           have A17 := Aside0.mk A170
           clear A170
           by_cases c18 : t414 = true
           ·
            subst c18
            have H1 : ((impl_letter.f ((rd_T83 l0 x21_1).f1)).bind fun t417 => ((some (y413.set (x21_1 : Int).toNat (⟨(rd_T45 y413 x21_1).f0, (rd_T45 y413 x21_1).f1, t417, (rd_T45 y413 x21_1).f3, (rd_T45 y413 x21_1).f4, (rd_T45 y413 x21_1).f5⟩ : S45) : List (S45))).bind fun y418 => (if t415 = true then ((impl_letter.f ((rd_T83 l0 x21_1).f2)).bind fun t419 => (impl_BookOfTerm.l0 k1 (y418.set (x21_1 : Int).toNat (⟨(rd_T45 y418 x21_1).f0, (rd_T45 y418 x21_1).f1, (rd_T45 y418 x21_1).f2, t419, (rd_T45 y418 x21_1).f4, (rd_T45 y418 x21_1).f5⟩ : S45)) l0 (l0.length : Int) (wrap64 (x21_1 + 1)))) else (impl_BookOfTerm.l0 k1 y418 l0 (l0.length : Int) (wrap64 (x21_1 + 1)))))) = some (r1, r2) := by rw [if_pos rfl] at H; exact H
            clear H
            have H := H1
            clear H1
            replace H := Option.bind_eq_some_iff.mp H
            obtain ⟨t417, A190, H⟩ := H
            replace H : ((some (y413.set (x21_1 : Int).toNat (⟨(rd_T45 y413 x21_1).f0, (rd_T45 y413 x21_1).f1, t417, (rd_T45 y413 x21_1).f3, (rd_T45 y413 x21_1).f4, (rd_T45 y413 x21_1).f5⟩ : S45) : List (S45))).bind fun y418 => (if t415 = true then ((impl_letter.f ((rd_T83 l0 x21_1).f2)).bind fun t419 => (impl_BookOfTerm.l0 k1 (y418.set (x21_1 : Int).toNat (⟨(rd_T45 y418 x21_1).f0, (rd_T45 y418 x21_1).f1, (rd_T45 y418 x21_1).f2, t419, (rd_T45 y418 x21_1).f4, (rd_T45 y418 x21_1).f5⟩ : S45)) l0 (l0.length : Int) (wrap64 (x21_1 + 1)))) else (impl_BookOfTerm.l0 k1 y418 l0 (l0.length : Int) (wrap64 (x21_1 + 1))))) = some (r1, r2) := H
            have A19 := Aside0.mk A190
            clear A190
            obtain ⟨y418, hy418⟩ : ∃ y_ : List (S45), y_ = (y413.set (x21_1 : Int).toNat (⟨(rd_T45 y413 x21_1).f0, (rd_T45 y413 x21_1).f1, t417, (rd_T45 y413 x21_1).f3, (rd_T45 y413 x21_1).f4, (rd_T45 y413 x21_1).f5⟩ : S45)) := ⟨_, rfl⟩
            replace H : (if t415 = true then ((impl_letter.f ((rd_T83 l0 x21_1).f2)).bind fun t419 => (impl_BookOfTerm.l0 k1 (y418.set (x21_1 : Int).toNat (⟨(rd_T45 y418 x21_1).f0, (rd_T45 y418 x21_1).f1, (rd_T45 y418 x21_1).f2, t419, (rd_T45 y418 x21_1).f4, (rd_T45 y418 x21_1).f5⟩ : S45)) l0 (l0.length : Int) (wrap64 (x21_1 + 1)))) else (impl_BookOfTerm.l0 k1 y418 l0 (l0.length : Int) (wrap64 (x21_1 + 1)))) = some (r1, r2) := by first | (rw [hy418]; with_reducible exact H) | (have H2_ := (Option.bind_some _ _).symm.trans H; rw [hy418]; with_reducible exact H2_) | (have H2_ := (Option.bind_some _ _).symm.trans H; with_reducible exact H2_) | with_reducible exact H | (rw [hy418]; exact H) | exact H
            have Ny418 := Aside0.mk hy418
            clear hy418
            by_cases c21 : t415 = true
            ·
             subst c21
             have H1 : ((impl_letter.f ((rd_T83 l0 x21_1).f2)).bind fun t419 => (impl_BookOfTerm.l0 k1 (y418.set (x21_1 : Int).toNat (⟨(rd_T45 y418 x21_1).f0, (rd_T45 y418 x21_1).f1, (rd_T45 y418 x21_1).f2, t419, (rd_T45 y418 x21_1).f4, (rd_T45 y418 x21_1).f5⟩ : S45)) l0 (l0.length : Int) (wrap64 (x21_1 + 1)))) = some (r1, r2) := by rw [if_pos rfl] at H; exact H
             clear H
             have H := H1
             clear H1
             replace H := Option.bind_eq_some_iff.mp H
             obtain ⟨t419, A220, H⟩ := H
             replace H : (impl_BookOfTerm.l0 k1 (y418.set (x21_1 : Int).toNat (⟨(rd_T45 y418 x21_1).f0, (rd_T45 y418 x21_1).f1, (rd_T45 y418 x21_1).f2, t419, (rd_T45 y418 x21_1).f4, (rd_T45 y418 x21_1).f5⟩ : S45)) l0 (l0.length : Int) (wrap64 (x21_1 + 1))) = some (r1, r2) := H
             have A22 := Aside0.mk A220
             clear A220
             obtain ⟨y420, hy420⟩ : ∃ y_ : List (S45), y_ = (y418.set (x21_1 : Int).toNat (⟨(rd_T45 y418 x21_1).f0, (rd_T45 y418 x21_1).f1, (rd_T45 y418 x21_1).f2, t419, (rd_T45 y418 x21_1).f4, (rd_T45 y418 x21_1).f5⟩ : S45)) := ⟨_, rfl⟩
             replace H : (impl_BookOfTerm.l0 k1 y420 l0 (l0.length : Int) (wrap64 (x21_1 + 1))) = some (r1, r2) := by first | (rw [hy420]; with_reducible exact H) | (have H2_ := (Option.bind_some _ _).symm.trans H; rw [hy420]; with_reducible exact H2_) | (have H2_ := (Option.bind_some _ _).symm.trans H; with_reducible exact H2_) | with_reducible exact H | (rw [hy420]; exact H) | exact H
             have Ny420 := Aside0.mk hy420
             clear hy420
             have H' := Aside0.mk H
             clear H
             have p410 : 0 ≤ (x21_1 : Int) := of_decide_eq_true (by first | (with_reducible assumption) | assumption)
             have q410 : x21_1 < (l0.length : Int) := of_decide_eq_true (by first | (with_reducible assumption) | assumption)
             obtain ⟨ad410, e410, hx410_0, hx410_1, hx410_2, hx410_3, hx410_4⟩ := at_T83 HR0.out x21_1 p410 q410
             cases e410
             replace hx410_0 := (HB.out.cell (World.block_lt_of_cell? w _ hx410_0)).trans hx410_0
             replace hx410_1 := (HB.out.cell (World.block_lt_of_cell? w _ hx410_1)).trans hx410_1
             replace hx410_2 := (HB.out.cell (World.block_lt_of_cell? w _ hx410_2)).trans hx410_2
             replace hx410_3 := (HB.out.cell (World.block_lt_of_cell? w _ hx410_3)).trans hx410_3
             replace hx410_4 := (HB.out.cell (World.block_lt_of_cell? w _ hx410_4)).trans hx410_4
             replace p410 := eq_true p410
             replace q410 := eq_true q410
             try go_wp2_with (first | ((with_reducible refine gate_dst (N := 6) rfl ?_); refine box_event ?hg (N := 6) ?hd (cs := #[.int .i8 0, .int .i16 0, .int .i16 0, .int .i64 0, .int .i64 0]) (t := 83) ?hr ?_; (case hd => rfl); (case hg => rfl); (case hr => first | (go_simp; done) | (go_simp; rfl)); intro gb411 hg w24 hbox hb; have n0_ := Aside0.mk (Kd.R_below (by (with_reducible repeat (first | apply Kd.R_alloc | apply Kd.R_drewN | apply Kd.R_drew)); exact HO_4.out) hb); have n1_ := Aside0.mk (below_step (by repeat (first | (with_reducible first | exact HB.out | apply below_alloc | apply pw_below_drewN | apply below_drew1) | exact HB.out)) hb); have n2_ := Aside0.mk (hbox); have n3_ := Aside0.mk ((by rw [hg]; exact (below_size (by repeat (first | (with_reducible first | exact HB.out | apply below_alloc | apply pw_below_drewN | apply below_drew1) | exact HB.out))) : w.heap.size ≤ gb411)); have n4_ := Aside0.mk ((by rw [hg]; exact (below_size (by repeat (first | (with_reducible first | exact HB.out | apply below_alloc | apply pw_below_drewN | apply below_drew1) | exact HB.out))) : w.heap.size ≤ gb411)); clear HO_4; clear HB; have HO_4 := n0_; have HB := n1_; have BK411 := n2_; have GW411 := n3_; have GE411 := n4_; clear n0_ n1_ n2_ n3_ n4_; clear hb hbox hg; have hcz25_0 : w24.cell? ⟨gb411, 0, none⟩ = some (.int .i8 0) := (blk_cell BK411.out 0).trans rfl; have hcz25_1 : w24.cell? ⟨gb411, 1, none⟩ = some (.int .i16 0) := (blk_cell BK411.out 1).trans rfl; have hcz25_2 : w24.cell? ⟨gb411, 2, none⟩ = some (.int .i16 0) := (blk_cell BK411.out 2).trans rfl; have hcz25_3 : w24.cell? ⟨gb411, 3, none⟩ = some (.int .i64 0) := (blk_cell BK411.out 3).trans rfl; have hcz25_4 : w24.cell? ⟨gb411, 4, none⟩ = some (.int .i64 0) := (blk_cell BK411.out 4).trans rfl; have hfz25_0 := blk_frozen BK411.out 0; have hfz25_1 := blk_frozen BK411.out 1; have hfz25_2 := blk_frozen BK411.out 2; have hfz25_3 := blk_frozen BK411.out 3; have hfz25_4 := blk_frozen BK411.out 4))
             have n0_ : Aside0 (Kd.R k45 45 (((((w24.setCell ⟨gb411, 0, none⟩ (.int .i8 ((rd_T83 l0 x21_1).f0))).setCell ⟨gb411, 1, none⟩ (.int .i16 ((rd_T83 l0 x21_1).f1))).setCell ⟨gb411, 2, none⟩ (.int .i16 ((rd_T83 l0 x21_1).f2))).setCell ⟨gb411, 3, none⟩ (.int .i64 ((rd_T83 l0 x21_1).f3))).setCell ⟨gb411, 4, none⟩ (.int .i64 ((rd_T83 l0 x21_1).f4))) w.heap.size (fun _ => True) v408 x4_1) := ⟨by (with_reducible repeat (first | apply Kd.R_alloc | apply Kd.R_drewN | apply Kd.R_drew)); exact Kd.R_mono (Kd.R_far (p := ⟨gb411, 4, none⟩) (Kd.R_far (p := ⟨gb411, 3, none⟩) (Kd.R_far (p := ⟨gb411, 2, none⟩) (Kd.R_far (p := ⟨gb411, 1, none⟩) (Kd.R_far (p := ⟨gb411, 0, none⟩) (Kd.R_types HO_4.out BK411.out (by decide)) (fun _ hk => hk.2) (.int .i8 ((rd_T83 l0 x21_1).f0))) (fun _ hk => hk.2) (.int .i16 ((rd_T83 l0 x21_1).f1))) (fun _ hk => hk.2) (.int .i16 ((rd_T83 l0 x21_1).f2))) (fun _ hk => hk.2) (.int .i64 ((rd_T83 l0 x21_1).f3))) (fun _ hk => hk.2) (.int .i64 ((rd_T83 l0 x21_1).f4))) (fun _ hk => trivial)⟩
             have n1_ : Aside0 ((((((w24.setCell ⟨gb411, 0, none⟩ (.int .i8 ((rd_T83 l0 x21_1).f0))).setCell ⟨gb411, 1, none⟩ (.int .i16 ((rd_T83 l0 x21_1).f1))).setCell ⟨gb411, 2, none⟩ (.int .i16 ((rd_T83 l0 x21_1).f2))).setCell ⟨gb411, 3, none⟩ (.int .i64 ((rd_T83 l0 x21_1).f3))).setCell ⟨gb411, 4, none⟩ (.int .i64 ((rd_T83 l0 x21_1).f4))).heap[gb411]? = some (.cells #[.int .i8 ((rd_T83 l0 x21_1).f0), .int .i16 ((rd_T83 l0 x21_1).f1), .int .i16 ((rd_T83 l0 x21_1).f2), .int .i64 ((rd_T83 l0 x21_1).f3), .int .i64 ((rd_T83 l0 x21_1).f4)] 83 (0, 0))) := ⟨by (with_reducible repeat (first | refine blk_drewN ?_ _ | refine blk_drew ?_ | refine blk_alloc ?_ _)); refine blk_put (cs := #[.int .i8 ((rd_T83 l0 x21_1).f0), .int .i16 ((rd_T83 l0 x21_1).f1), .int .i16 ((rd_T83 l0 x21_1).f2), .int .i64 ((rd_T83 l0 x21_1).f3), .int .i64 0]) ?_ 4 _ rfl; (with_reducible repeat (first | refine blk_drewN ?_ _ | refine blk_drew ?_ | refine blk_alloc ?_ _)); refine blk_put (cs := #[.int .i8 ((rd_T83 l0 x21_1).f0), .int .i16 ((rd_T83 l0 x21_1).f1), .int .i16 ((rd_T83 l0 x21_1).f2), .int .i64 0, .int .i64 0]) ?_ 3 _ rfl; (with_reducible repeat (first | refine blk_drewN ?_ _ | refine blk_drew ?_ | refine blk_alloc ?_ _)); refine blk_put (cs := #[.int .i8 ((rd_T83 l0 x21_1).f0), .int .i16 ((rd_T83 l0 x21_1).f1), .int .i16 0, .int .i64 0, .int .i64 0]) ?_ 2 _ rfl; (with_reducible repeat (first | refine blk_drewN ?_ _ | refine blk_drew ?_ | refine blk_alloc ?_ _)); refine blk_put (cs := #[.int .i8 ((rd_T83 l0 x21_1).f0), .int .i16 0, .int .i16 0, .int .i64 0, .int .i64 0]) ?_ 1 _ rfl; (with_reducible repeat (first | refine blk_drewN ?_ _ | refine blk_drew ?_ | refine blk_alloc ?_ _)); refine blk_put (cs := #[.int .i8 0, .int .i16 0, .int .i16 0, .int .i64 0, .int .i64 0]) ?_ 0 _ rfl; (with_reducible repeat (first | refine blk_drewN ?_ _ | refine blk_drew ?_ | refine blk_alloc ?_ _)); exact BK411.out⟩
             have n2_ : Aside0 (Below w.heap.size w (((((w24.setCell ⟨gb411, 0, none⟩ (.int .i8 ((rd_T83 l0 x21_1).f0))).setCell ⟨gb411, 1, none⟩ (.int .i16 ((rd_T83 l0 x21_1).f1))).setCell ⟨gb411, 2, none⟩ (.int .i16 ((rd_T83 l0 x21_1).f2))).setCell ⟨gb411, 3, none⟩ (.int .i64 ((rd_T83 l0 x21_1).f3))).setCell ⟨gb411, 4, none⟩ (.int .i64 ((rd_T83 l0 x21_1).f4)))) := ⟨by repeat (first | (with_reducible first | exact HB.out | apply below_alloc | apply pw_below_drewN | apply below_drew1 | refine below_set ?_ GE411.out) | exact HB.out)⟩
             (try clear HO_4)
             (try clear BK411)
             (try clear HB)
             generalize (((((w24.setCell ⟨gb411, 0, none⟩ (.int .i8 ((rd_T83 l0 x21_1).f0))).setCell ⟨gb411, 1, none⟩ (.int .i16 ((rd_T83 l0 x21_1).f1))).setCell ⟨gb411, 2, none⟩ (.int .i16 ((rd_T83 l0 x21_1).f2))).setCell ⟨gb411, 3, none⟩ (.int .i64 ((rd_T83 l0 x21_1).f3))).setCell ⟨gb411, 4, none⟩ (.int .i64 ((rd_T83 l0 x21_1).f4))) = w26 at n0_ n1_ n2_ ⊢
             have HO_4 := n0_
             have BK411 := n1_
             have HB := n2_
             clear n0_ n1_ n2_
             have n0_ := Aside0.mk (Kd.R_drew HO_4.out)
             have n1_ := Aside0.mk (blk_drew BK411.out)
             have n2_ := Aside0.mk (below_drew1 HB.out)
             clear HO_4
             clear BK411
             clear HB
             have HO_4 := n0_
             have BK411 := n1_
             have HB := n2_
             clear n0_ n1_ n2_
             refine start_ (n := 14) (S := fun w' => w'.cell? ⟨gb411, 0, none⟩ = some (.int .i8 ((rd_T83 l0 x21_1).f0)) ∧ w'.cell? ⟨gb411, 1, none⟩ = some (.int .i16 ((rd_T83 l0 x21_1).f1)) ∧ w'.cell? ⟨gb411, 2, none⟩ = some (.int .i16 ((rd_T83 l0 x21_1).f2)) ∧ w'.cell? ⟨gb411, 3, none⟩ = some (.int .i64 ((rd_T83 l0 x21_1).f3)) ∧ w'.cell? ⟨gb411, 4, none⟩ = some (.int .i64 ((rd_T83 l0 x21_1).f4))) (ds := [13]) #[false, false, false, false, false, false, false, false, false, false, false, false, false, false] (by kernel_rfl) rfl rfl ⟨(blk_cell BK411.out 0).trans rfl, (blk_cell BK411.out 1).trans rfl, (blk_cell BK411.out 2).trans rfl, (blk_cell BK411.out 3).trans rfl, (blk_cell BK411.out 4).trans rfl⟩ (fun hHeld => ?_); refine with_tabW impl_BookOfTerm.tab9 impl_BookOfTerm.bits9 (fun HT_ HW_ => ?_)
             generalize w26.drew = w27 at HO_4 BK411 HB hHeld ⊢
             refine pure_ (i := 0) (N := some 26) (v := ?_) (a' := ?_) #[true, false, false, false, false, false, false, false, false, false, false, false, false, false] rfl rfl (any_of HT_.out (by kernel_rfl)) (fun _ _ _ h => h) (Or.inl ⟨by rfl, ?_⟩) ?_ ?_
             rotate_left
             ·
              intro w'
              go_simp
              with_reducible rfl
             rotate_left
             ·
              simp only [Act.put, List.setIfInBounds_toArray, List.set_cons_zero, List.set_cons_succ, i64_w, i32_w]
              rfl
             refine pure_ (i := 1) (N := some 27) (v := ?_) (a' := ?_) #[true, true, false, false, false, false, false, false, false, false, false, false, false, false] rfl rfl (any_of HT_.out (by kernel_rfl)) (fun _ _ _ h => h) (Or.inl ⟨by rfl, ?_⟩) ?_ ?_
             rotate_left
             ·
              intro w'
              go_simp
              with_reducible rfl
             rotate_left
             ·
              simp only [Act.put, List.setIfInBounds_toArray, List.set_cons_zero, List.set_cons_succ, i64_w, i32_w]
              rfl
             refine pure_ (i := 2) (N := some 28) (v := ?_) (a' := ?_) #[true, true, true, false, false, false, false, false, false, false, false, false, false, false] rfl rfl (any_of HT_.out (by kernel_rfl)) (fun _ _ _ h => h) (Or.inl ⟨by rfl, ?_⟩) ?_ ?_
             rotate_left
             ·
              intro w'
              go_simp
              with_reducible rfl
             rotate_left
             ·
              simp only [Act.put, List.setIfInBounds_toArray, List.set_cons_zero, List.set_cons_succ, i64_w, i32_w]
              rfl
             refine pure_ (i := 3) (N := some 29) (v := ?_) (a' := ?_) #[true, true, true, true, false, false, false, false, false, false, false, false, false, false] rfl rfl (any_of HT_.out (by kernel_rfl)) (fun _ _ _ h => h) (Or.inl ⟨by rfl, ?_⟩) ?_ ?_
             rotate_left
             ·
              intro w'
              go_simp
              with_reducible rfl
             rotate_left
             ·
              simp only [Act.put, List.setIfInBounds_toArray, List.set_cons_zero, List.set_cons_succ, i64_w, i32_w]
              rfl
             refine pure_ (i := 5) (N := some 31) (v := ?_) (a' := ?_) #[true, true, true, true, false, true, false, false, false, false, false, false, false, false] rfl rfl (any_of HT_.out (by kernel_rfl)) (fun _ _ _ h => h) (Or.inl ⟨by rfl, ?_⟩) ?_ ?_
             rotate_left
             ·
              intro w'
              go_simp
              with_reducible rfl
             rotate_left
             ·
              simp only [Act.put, List.setIfInBounds_toArray, List.set_cons_zero, List.set_cons_succ, i64_w, i32_w]
              rfl
             refine pure_ (i := 7) (N := some 33) (v := ?_) (a' := ?_) #[true, true, true, true, false, true, false, true, false, false, false, false, false, false] rfl rfl (any_of HT_.out (by kernel_rfl)) (fun _ _ _ h => h) (Or.inl ⟨by rfl, ?_⟩) ?_ ?_
             rotate_left
             ·
              intro w'
              go_simp
              with_reducible rfl
             rotate_left
             ·
              simp only [Act.put, List.setIfInBounds_toArray, List.set_cons_zero, List.set_cons_succ, i64_w, i32_w]
              rfl
             refine pure_ (i := 9) (N := some 35) (v := ?_) (a' := ?_) #[true, true, true, true, false, true, false, true, false, true, false, false, false, false] rfl rfl (any_of HT_.out (by kernel_rfl)) (fun _ _ _ h => h) (Or.inl ⟨by rfl, ?_⟩) ?_ ?_
             rotate_left
             ·
              intro w'
              go_simp
              with_reducible rfl
             rotate_left
             ·
              simp only [Act.put, List.setIfInBounds_toArray, List.set_cons_zero, List.set_cons_succ, i64_w, i32_w]
              rfl
             refine take_ (i := 6) (N := some 32) (v := ?_) (a' := ?_) #[true, true, true, true, false, true, true, true, false, true, false, false, false, false] rfl rfl (take_ofW HT_.out HW_.out (by kernel_rfl)) (fun _ _ _ h => h) (Or.inl ⟨by rfl, ?_⟩) hHeld ?_ ?_
             rotate_left
             ·
              rintro w' ⟨s0, s1, s2, s3, s4⟩
              go_simp
              with_reducible rfl
             rotate_left
             ·
              simp only [Act.put, List.setIfInBounds_toArray, List.set_cons_zero, List.set_cons_succ, i64_w, i32_w]
              rfl
             refine take_ (i := 8) (N := some 34) (v := ?_) (a' := ?_) #[true, true, true, true, false, true, true, true, true, true, false, false, false, false] rfl rfl (take_ofW HT_.out HW_.out (by kernel_rfl)) (fun _ _ _ h => h) (Or.inl ⟨by rfl, ?_⟩) hHeld ?_ ?_
             rotate_left
             ·
              rintro w' ⟨s0, s1, s2, s3, s4⟩
              go_simp
              with_reducible rfl
             rotate_left
             ·
              simp only [Act.put, List.setIfInBounds_toArray, List.set_cons_zero, List.set_cons_succ, i64_w, i32_w]
              rfl
             refine take_ (i := 10) (N := some 36) (v := ?_) (a' := ?_) #[true, true, true, true, false, true, true, true, true, true, true, false, false, false] rfl rfl (take_ofW HT_.out HW_.out (by kernel_rfl)) (fun _ _ _ h => h) (Or.inl ⟨by rfl, ?_⟩) hHeld ?_ ?_
             rotate_left
             ·
              rintro w' ⟨s0, s1, s2, s3, s4⟩
              go_simp
              with_reducible rfl
             rotate_left
             ·
              simp only [Act.put, List.setIfInBounds_toArray, List.set_cons_zero, List.set_cons_succ, i64_w, i32_w]
              rfl
             refine one_ (i := 4) (N := some 30) #[true, true, true, true, true, true, true, true, true, true, true, false, false, false] rfl rfl (one_of HT_.out (by kernel_rfl)) (by decide) (fun K hK => ?_)
             refine goes_ Try.func73 (by kernel_rfl) rfl #[.int .i16 (IntKind.i16.wrap (x21_1))] (by rfl) rfl rfl (by (try simp only [List.map_toArray, List.map_cons, List.map_nil]); first | done | rfl | (simp only [List.length_drop, List.length_take]; rfl)) ?_
             with_reducible refine (impl_letter.calls (IntKind.i16.wrap (x21_1)) t412 _ A14.out).mono ?_
             rintro e w28 ⟨rfl, hb⟩
             refine ⟨_, rfl, ?_⟩
             have n0_ := Aside0.mk (Kd.R_below (by (with_reducible repeat (first | apply Kd.R_alloc | apply Kd.R_drewN | apply Kd.R_drew)); exact HO_4.out) hb)
             have n1_ := Aside0.mk (blk_below (g := gb411) (o := .cells #[.int .i8 ((rd_T83 l0 x21_1).f0), .int .i16 ((rd_T83 l0 x21_1).f1), .int .i16 ((rd_T83 l0 x21_1).f2), .int .i64 ((rd_T83 l0 x21_1).f3), .int .i64 ((rd_T83 l0 x21_1).f4)] 83 (0, 0)) (by (with_reducible repeat (first | refine blk_drewN ?_ _ | refine blk_drew ?_ | refine blk_alloc ?_ _)); exact BK411.out) hb)
             have n2_ := Aside0.mk (below_step (by repeat (first | (with_reducible first | exact HB.out | apply below_alloc | apply pw_below_drewN | apply below_drew1 | refine below_set ?_ GE411.out) | exact HB.out)) hb)
             clear HO_4
             clear BK411
             clear HB
             have HO_4 := n0_
             have BK411 := n1_
             have HB := n2_
             clear n0_ n1_ n2_
             (try clear hb)
             (try clear hb2)
             (try clear hk)
             (try clear hi)
             have p16 : 0 ≤ (x21_1 : Int) := of_decide_eq_true (by first | (with_reducible assumption) | assumption)
             have q16 : (x21_1 : Int) < ((x4_1.length : Int) : Int) := of_decide_eq_true (by first | (with_reducible assumption) | assumption)
             obtain ⟨go16, co16, eo16, gb16, gl16, cl16, HG16⟩ := Kd.R_form HO_4.out (by omega)
             (first | cases eo16 | (injection eo16 with ea_ en_ ec_; (first | subst ea_ | (injection ea_ with ea_; subst ea_)); subst ec_; clear en_))
             have GB16 := Aside0.mk gb16
             have GG16 := Aside0.mk HG16
             clear gb16 gl16 HG16
             obtain ⟨ce16, hcl16, hM16, hcc16, hfr16⟩ := Kd.R_elem HO_4.out z45 (x21_1 : Int) p16 q16
             obtain rfl := k45_openM hM16
             have hx16_0 : World.cell? _ ⟨go16, (x21_1 : Int).toNat * 6, none⟩ = some (.string ((rd_T45 x4_1 x21_1).f0)) := hcc16 0 _ rfl
             have hx16_1 : World.cell? _ ⟨go16, (x21_1 : Int).toNat * 6 + 1, none⟩ = some (.int .i8 ((rd_T45 x4_1 x21_1).f1)) := hcc16 1 _ rfl
             have hx16_2 : World.cell? _ ⟨go16, (x21_1 : Int).toNat * 6 + 2, none⟩ = some (.string ((rd_T45 x4_1 x21_1).f2)) := hcc16 2 _ rfl
             have hx16_3 : World.cell? _ ⟨go16, (x21_1 : Int).toNat * 6 + 3, none⟩ = some (.string ((rd_T45 x4_1 x21_1).f3)) := hcc16 3 _ rfl
             have hx16_4 : World.cell? _ ⟨go16, (x21_1 : Int).toNat * 6 + 4, none⟩ = some (.int .i64 ((rd_T45 x4_1 x21_1).f4)) := hcc16 4 _ rfl
             have hx16_5 : World.cell? _ ⟨go16, (x21_1 : Int).toNat * 6 + 5, none⟩ = some (.int .i64 ((rd_T45 x4_1 x21_1).f5)) := hcc16 5 _ rfl
             have hf16_0 : World.frozen? _ ⟨go16, (x21_1 : Int).toNat * 6, none⟩ = false := hfr16 0
             have hf16_1 : World.frozen? _ ⟨go16, (x21_1 : Int).toNat * 6 + 1, none⟩ = false := hfr16 1
             have hf16_2 : World.frozen? _ ⟨go16, (x21_1 : Int).toNat * 6 + 2, none⟩ = false := hfr16 2
             have hf16_3 : World.frozen? _ ⟨go16, (x21_1 : Int).toNat * 6 + 3, none⟩ = false := hfr16 3
             have hf16_4 : World.frozen? _ ⟨go16, (x21_1 : Int).toNat * 6 + 4, none⟩ = false := hfr16 4
             have hf16_5 : World.frozen? _ ⟨go16, (x21_1 : Int).toNat * 6 + 5, none⟩ = false := hfr16 5
             clear hcl16 hcc16 hfr16 hM16
             replace p16 := eq_true p16
             replace q16 := eq_true q16
             obtain ⟨ce29, hcl29, hM29, hcc29, hfr29⟩ := Kd.R_elem HO_4.out z45 (x21_1 : Int) (of_decide_eq_true (by first | (with_reducible assumption) | assumption)) (by have h_ : (x21_1 : Int) < ((x4_1.length : Int) : Int) := of_decide_eq_true (by first | (with_reducible assumption) | assumption); first | exact h_ | (have e_ := (Kd.R_reads' HO_4.out).1; omega) | simpa using h_)
             obtain rfl := k45_openM hM29
             have HP29 := (Kd.R_seg HO_4.out (x21_1 : Int) (of_decide_eq_true (by first | (with_reducible assumption) | assumption)) (by have h_ : (x21_1 : Int) < ((x4_1.length : Int) : Int) := of_decide_eq_true (by first | (with_reducible assumption) | assumption); first | exact h_ | (have e_ := (Kd.R_reads' HO_4.out).1; omega) | simpa using h_) (seg := [.string t412, .int .i8 ((rd_T83 l0 x21_1).f0), .string (⟨#[]⟩ : ByteArray), .string (⟨#[]⟩ : ByteArray), .int .i64 ((rd_T83 l0 x21_1).f3), .int .i64 ((rd_T83 l0 x21_1).f4)]) (j := 0) hcl29 hcc29 (show 6 ≤ 6 from by decide) (x' := (⟨t412, (rd_T83 l0 x21_1).f0, (⟨#[]⟩ : ByteArray), (⟨#[]⟩ : ByteArray), (rd_T83 l0 x21_1).f3, (rd_T83 l0 x21_1).f4⟩ : S45)) (k45_mkM _ _ _ (⟨t412, (rd_T83 l0 x21_1).f0, (⟨#[]⟩ : ByteArray), (⟨#[]⟩ : ByteArray), (rd_T83 l0 x21_1).f3, (rd_T83 l0 x21_1).f4⟩ : S45) ) (fun _ hk => hk)).1
             rw [← Ny413.out] at HP29
             have HQ29 := Aside0.mk HP29
             clear hcl29 hcc29 hfr29 hM29 HP29
             refine hK.out _ _ ⟨(blk_cell BK411.out 0).trans rfl, (blk_cell BK411.out 1).trans rfl, (blk_cell BK411.out 2).trans rfl, (blk_cell BK411.out 3).trans rfl, (blk_cell BK411.out 4).trans rfl⟩ (fun hHeld => ?_)
             clear hK K
             refine norm_ (a' := ?_) ?_ ?_
             rotate_left
             ·
              show Act.put _ (some 30) _ = _
              simp only [Act.put, List.setIfInBounds_toArray, List.set_cons_zero, List.set_cons_succ, i64_w, i32_w]
              rfl
             refine pure_ (i := 11) (N := some 37) (v := ?_) (a' := ?_) #[true, true, true, true, true, true, true, true, true, true, true, true, false, false] rfl rfl (any_of HT_.out (by kernel_rfl)) (fun _ _ _ h => h) (Or.inl ⟨by rfl, ?_⟩) ?_ ?_
             rotate_left
             ·
              intro w'
              go_simp
              with_reducible rfl
             rotate_left
             ·
              simp only [Act.put, List.setIfInBounds_toArray, List.set_cons_zero, List.set_cons_succ, i64_w, i32_w]
              rfl
             refine pure_ (i := 12) (N := some 38) (v := ?_) (a' := ?_) #[true, true, true, true, true, true, true, true, true, true, true, true, true, false] rfl rfl (any_of HT_.out (by kernel_rfl)) (fun _ _ _ h => h) (Or.inl ⟨by rfl, ?_⟩) ?_ ?_
             rotate_left
             ·
              intro w'
              go_simp
              with_reducible rfl
             rotate_left
             ·
              simp only [Act.put, List.setIfInBounds_toArray, List.set_cons_zero, List.set_cons_succ, i64_w, i32_w]
              rfl
             refine last_ (i := 13) (N := none) #[true, true, true, true, true, true, true, true, true, true, true, true, true, true] rfl rfl (one_of HT_.out (by kernel_rfl)) (by decide) (fun K hK => ?_)
             refine skip_ (w1 := ?_) (by rfl) rfl ?_ ?_
             rotate_left
             ·
              go_simp
              rfl
             refine hK.out _ _ ?_
             clear hK K
             refine done_ (done_of HT_.out (by kernel_rfl)) ?_
             have hcz30_0 : w28.cell? ⟨gb411, 0, none⟩ = some (.int .i8 ((rd_T83 l0 x21_1).f0)) := (blk_cell BK411.out 0).trans rfl
             have hcz30_1 : w28.cell? ⟨gb411, 1, none⟩ = some (.int .i16 ((rd_T83 l0 x21_1).f1)) := (blk_cell BK411.out 1).trans rfl
             have hcz30_2 : w28.cell? ⟨gb411, 2, none⟩ = some (.int .i16 ((rd_T83 l0 x21_1).f2)) := (blk_cell BK411.out 2).trans rfl
             have hcz30_3 : w28.cell? ⟨gb411, 3, none⟩ = some (.int .i64 ((rd_T83 l0 x21_1).f3)) := (blk_cell BK411.out 3).trans rfl
             have hcz30_4 : w28.cell? ⟨gb411, 4, none⟩ = some (.int .i64 ((rd_T83 l0 x21_1).f4)) := (blk_cell BK411.out 4).trans rfl
             have hfz30_0 := blk_frozen BK411.out 0
             have hfz30_1 := blk_frozen BK411.out 1
             have hfz30_2 := blk_frozen BK411.out 2
             have hfz30_3 := blk_frozen BK411.out 3
             have hfz30_4 := blk_frozen BK411.out 4
             replace HQ29 := HQ29.out
             simp only [World.setCells, show (k45).sz = 6 from rfl, Nat.add_zero, Nat.add_assoc, Nat.reduceAdd] at HQ29
             replace HQ29 := Aside0.mk HQ29
             generalize hW_ : World.setCell _ _ _ = wq_ at HQ29 ⊢
             have nB_ : Aside0 (wq_.heap[gb411]? = some (.cells #[.int .i8 ((rd_T83 l0 x21_1).f0), .int .i16 ((rd_T83 l0 x21_1).f1), .int .i16 ((rd_T83 l0 x21_1).f2), .int .i64 ((rd_T83 l0 x21_1).f3), .int .i64 ((rd_T83 l0 x21_1).f4)] 83 (0, 0))) := ⟨by rw [← hW_]; refine blk_far ?_ (by have h_ := Kd.R_ne HO_4.out BK411.out (by decide); intro e_; exact h_ (by rw [e_]; rfl)) _; refine blk_far ?_ (by have h_ := Kd.R_ne HO_4.out BK411.out (by decide); intro e_; exact h_ (by rw [e_]; rfl)) _; refine blk_far ?_ (by have h_ := Kd.R_ne HO_4.out BK411.out (by decide); intro e_; exact h_ (by rw [e_]; rfl)) _; refine blk_far ?_ (by have h_ := Kd.R_ne HO_4.out BK411.out (by decide); intro e_; exact h_ (by rw [e_]; rfl)) _; refine blk_far ?_ (by have h_ := Kd.R_ne HO_4.out BK411.out (by decide); intro e_; exact h_ (by rw [e_]; rfl)) _; refine blk_far ?_ (by have h_ := Kd.R_ne HO_4.out BK411.out (by decide); intro e_; exact h_ (by rw [e_]; rfl)) _; exact BK411.out⟩
             have nH_ : Aside0 (Below w.heap.size w wq_) := ⟨by rw [← hW_]; repeat (with_reducible first | exact HB.out | refine below_set ?_ GB16.out)⟩
             clear hW_ HO_4 HB BK411 hcz30_0 hfz30_0 hcz30_1 hfz30_1 hcz30_2 hfz30_2 hcz30_3 hfz30_3 hcz30_4 hfz30_4
             have BK411 := nB_
             have HB := nH_
             clear nB_ nH_
             have hcz30_0 : wq_.cell? ⟨gb411, 0, none⟩ = some (.int .i8 ((rd_T83 l0 x21_1).f0)) := (blk_cell BK411.out 0).trans rfl
             have hcz30_1 : wq_.cell? ⟨gb411, 1, none⟩ = some (.int .i16 ((rd_T83 l0 x21_1).f1)) := (blk_cell BK411.out 1).trans rfl
             have hcz30_2 : wq_.cell? ⟨gb411, 2, none⟩ = some (.int .i16 ((rd_T83 l0 x21_1).f2)) := (blk_cell BK411.out 2).trans rfl
             have hcz30_3 : wq_.cell? ⟨gb411, 3, none⟩ = some (.int .i64 ((rd_T83 l0 x21_1).f3)) := (blk_cell BK411.out 3).trans rfl
             have hcz30_4 : wq_.cell? ⟨gb411, 4, none⟩ = some (.int .i64 ((rd_T83 l0 x21_1).f4)) := (blk_cell BK411.out 4).trans rfl
             have hfz30_0 := blk_frozen BK411.out 0
             have hfz30_1 := blk_frozen BK411.out 1
             have hfz30_2 := blk_frozen BK411.out 2
             have hfz30_3 := blk_frozen BK411.out 3
             have hfz30_4 := blk_frozen BK411.out 4
             try go_wp2_with (first | ((with_reducible refine gate_callee (f := 74) rfl ?_); refine goesL_ (some 42) rfl rfl Try.func74 (by kernel_rfl) rfl #[.int .i8 ((rd_T83 l0 x21_1).f0)] rfl (by (try simp only [List.map_toArray, List.map_cons, List.map_nil]); first | done | rfl | (simp only [List.length_drop, List.length_take]; rfl)) ?_; (with_reducible refine (impl_uses.calls k1 ((rd_T83 l0 x21_1).f0) true true t416 _ A17.out).mono ?_); rintro e w' ⟨rfl, ⟨nd, rfl⟩⟩; refine ⟨_, rfl, ?_⟩) | ((with_reducible refine gate_callee (f := 73) rfl ?_); refine goesL_ (some 51) rfl rfl Try.func73 (by kernel_rfl) rfl #[.int .i16 ((rd_T83 l0 x21_1).f1)] rfl (by (try simp only [List.map_toArray, List.map_cons, List.map_nil]); first | done | rfl | (simp only [List.length_drop, List.length_take]; rfl)) ?_; (with_reducible refine (impl_letter.calls ((rd_T83 l0 x21_1).f1) t417 _ A19.out).mono ?_); rintro e w31 ⟨rfl, hb⟩; refine ⟨_, rfl, ?_⟩; have n0_ := Aside0.mk (Kd.R_below (by (with_reducible repeat (first | apply Kd.R_alloc | apply Kd.R_drewN | apply Kd.R_drew)); exact HQ29.out) hb); have n1_ := Aside0.mk (blk_below (g := gb411) (o := .cells #[.int .i8 ((rd_T83 l0 x21_1).f0), .int .i16 ((rd_T83 l0 x21_1).f1), .int .i16 ((rd_T83 l0 x21_1).f2), .int .i64 ((rd_T83 l0 x21_1).f3), .int .i64 ((rd_T83 l0 x21_1).f4)] 83 (0, 0)) (by (with_reducible repeat (first | refine blk_drewN ?_ _ | refine blk_drew ?_ | refine blk_alloc ?_ _)); (with_reducible repeat (first | refine blk_drewN ?_ _ | refine blk_drew ?_ | refine blk_alloc ?_ _)); (with_reducible repeat (first | refine blk_drewN ?_ _ | refine blk_drew ?_ | refine blk_alloc ?_ _)); (with_reducible repeat (first | refine blk_drewN ?_ _ | refine blk_drew ?_ | refine blk_alloc ?_ _)); (with_reducible repeat (first | refine blk_drewN ?_ _ | refine blk_drew ?_ | refine blk_alloc ?_ _)); (with_reducible repeat (first | refine blk_drewN ?_ _ | refine blk_drew ?_ | refine blk_alloc ?_ _)); (with_reducible repeat (first | refine blk_drewN ?_ _ | refine blk_drew ?_ | refine blk_alloc ?_ _)); exact BK411.out) hb); have n2_ := Aside0.mk (below_step (by repeat (first | (with_reducible first | exact HB.out | apply below_alloc | apply pw_below_drewN | apply below_drew1 | refine below_set ?_ GB16.out | refine below_set ?_ GB16.out | refine below_set ?_ GB16.out | refine below_set ?_ GB16.out | refine below_set ?_ GB16.out | refine below_set ?_ GB16.out | refine below_set ?_ GE411.out) | exact HB.out)) hb); clear BK411; clear HB; have HO_4 := n0_; have BK411 := n1_; have HB := n2_; clear n0_ n1_ n2_; (try clear hb); (try clear hb2); (try clear hk); (try clear hi); have p20 : 0 ≤ (x21_1 : Int) := of_decide_eq_true (by first | (with_reducible assumption) | assumption); have q20 : (x21_1 : Int) < ((x4_1.length : Int) : Int) := of_decide_eq_true (by first | (with_reducible assumption) | assumption); obtain ⟨ce20, hcl20, hM20, hcc20, hfr20⟩ := Kd.R_elem HO_4.out z45 (x21_1 : Int) p20 q20; obtain rfl := k45_openM hM20; have hx20_0 : w31.cell? ⟨go16, (x21_1 : Int).toNat * 6, none⟩ = some (.string ((rd_T45 y413 x21_1).f0)) := hcc20 0 _ rfl; have hx20_1 : w31.cell? ⟨go16, (x21_1 : Int).toNat * 6 + 1, none⟩ = some (.int .i8 ((rd_T45 y413 x21_1).f1)) := hcc20 1 _ rfl; have hx20_2 : w31.cell? ⟨go16, (x21_1 : Int).toNat * 6 + 2, none⟩ = some (.string ((rd_T45 y413 x21_1).f2)) := hcc20 2 _ rfl; have hx20_3 : w31.cell? ⟨go16, (x21_1 : Int).toNat * 6 + 3, none⟩ = some (.string ((rd_T45 y413 x21_1).f3)) := hcc20 3 _ rfl; have hx20_4 : w31.cell? ⟨go16, (x21_1 : Int).toNat * 6 + 4, none⟩ = some (.int .i64 ((rd_T45 y413 x21_1).f4)) := hcc20 4 _ rfl; have hx20_5 : w31.cell? ⟨go16, (x21_1 : Int).toNat * 6 + 5, none⟩ = some (.int .i64 ((rd_T45 y413 x21_1).f5)) := hcc20 5 _ rfl; have hf20_0 : w31.frozen? ⟨go16, (x21_1 : Int).toNat * 6, none⟩ = false := hfr20 0; have hf20_1 : w31.frozen? ⟨go16, (x21_1 : Int).toNat * 6 + 1, none⟩ = false := hfr20 1; have hf20_2 : w31.frozen? ⟨go16, (x21_1 : Int).toNat * 6 + 2, none⟩ = false := hfr20 2; have hf20_3 : w31.frozen? ⟨go16, (x21_1 : Int).toNat * 6 + 3, none⟩ = false := hfr20 3; have hf20_4 : w31.frozen? ⟨go16, (x21_1 : Int).toNat * 6 + 4, none⟩ = false := hfr20 4; have hf20_5 : w31.frozen? ⟨go16, (x21_1 : Int).toNat * 6 + 5, none⟩ = false := hfr20 5; clear hcl20 hcc20 hfr20 hM20; replace p20 := eq_true p20; replace q20 := eq_true q20; have HX32 := Aside0.mk (show Kd.R k45 45 w31 w.heap.size (fun _ => True) (.slice (some ⟨go16, 0, none⟩) x4_1.length co16) y413 from (by (with_reducible repeat (first | apply Kd.R_alloc | apply Kd.R_drewN | apply Kd.R_drew)); exact HO_4.out)); obtain ⟨ce32, hcl32, hM32, hcc32, hfr32⟩ := Kd.R_elem HX32.out z45 (x21_1 : Int) (of_decide_eq_true (by first | (with_reducible assumption) | assumption)) (by have h_ : (x21_1 : Int) < ((x4_1.length : Int) : Int) := of_decide_eq_true (by first | (with_reducible assumption) | assumption); first | exact h_ | (have e_ := (Kd.R_reads' HO_4.out).1; omega) | simpa using h_); obtain rfl := k45_openM hM32; have HP32 := Kd.R_seg HX32.out (x21_1 : Int) (of_decide_eq_true (by first | (with_reducible assumption) | assumption)) (by have h_ : (x21_1 : Int) < ((x4_1.length : Int) : Int) := of_decide_eq_true (by first | (with_reducible assumption) | assumption); first | exact h_ | (have e_ := (Kd.R_reads' HO_4.out).1; omega) | simpa using h_) (seg := [.string t417]) (j := 2) hcl32 hcc32 (show 3 ≤ 6 from by decide) (x' := (⟨(rd_T45 y413 x21_1).f0, (rd_T45 y413 x21_1).f1, t417, (rd_T45 y413 x21_1).f3, (rd_T45 y413 x21_1).f4, (rd_T45 y413 x21_1).f5⟩ : S45)) (k45_mkM _ _ _ (⟨(rd_T45 y413 x21_1).f0, (rd_T45 y413 x21_1).f1, t417, (rd_T45 y413 x21_1).f3, (rd_T45 y413 x21_1).f4, (rd_T45 y413 x21_1).f5⟩ : S45) ) (fun _ hk => hk); have hx32_2 := hcc32 2 _ rfl; (try simp only [show (k45).sz = 6 from rfl, Nat.mul_one, Nat.add_zero] at hx32_2); have hf32_2 := hfr32 2; (try simp only [show (k45).sz = 6 from rfl, Nat.mul_one, Nat.add_zero] at hf32_2); clear hcl32 hcc32 hfr32 hM32) | ((with_reducible refine gate_store (t := 9) (p := 53) rfl ?_); refine store_event (t := 9) (p := 53) (v := ?vo_w33) (w1 := (w31.setCell ⟨go16, (x21_1 : Int).toNat * 6 + 2, none⟩ (.string t417))) ?hg ?ho ?hn ?hr ?_; (case ho => rfl); (case hg => rfl); (case hn => rfl); (case hr => first | (go_simp; done) | (go_simp; rfl)); intro w33 hw; have hg : w31.grownBy w33 (some go16) := (by rw [hw]; exact HP32.2); have hp_ : Kd.R k45 45 w33 w.heap.size (fun _ => True) (.slice (some ⟨go16, 0, none⟩) x4_1.length co16) y418 := (by rw [hw, Ny418.out]; exact HP32.1); clear HP32; have n0_ := Aside0.mk (hp_); have n1_ := Aside0.mk (blk_grown (g := gb411) (o := .cells #[.int .i8 ((rd_T83 l0 x21_1).f0), .int .i16 ((rd_T83 l0 x21_1).f1), .int .i16 ((rd_T83 l0 x21_1).f2), .int .i64 ((rd_T83 l0 x21_1).f3), .int .i64 ((rd_T83 l0 x21_1).f4)] 83 (0, 0)) (by (with_reducible repeat (first | refine blk_drewN ?_ _ | refine blk_drew ?_ | refine blk_alloc ?_ _)); exact BK411.out) hg (Kd.R_ne HO_4.out BK411.out (by decide))); have n2_ := Aside0.mk ((by rw [hw]; exact below_set (HB.out) GB16.out : Below w.heap.size w w33)); clear BK411; clear HB; have HO_4 := n0_; have BK411 := n1_; have HB := n2_; clear n0_ n1_ n2_; clear hg hw hp_; have hcz34_0 : w33.cell? ⟨gb411, 0, none⟩ = some (.int .i8 ((rd_T83 l0 x21_1).f0)) := (blk_cell BK411.out 0).trans rfl; have hcz34_1 : w33.cell? ⟨gb411, 1, none⟩ = some (.int .i16 ((rd_T83 l0 x21_1).f1)) := (blk_cell BK411.out 1).trans rfl; have hcz34_2 : w33.cell? ⟨gb411, 2, none⟩ = some (.int .i16 ((rd_T83 l0 x21_1).f2)) := (blk_cell BK411.out 2).trans rfl; have hcz34_3 : w33.cell? ⟨gb411, 3, none⟩ = some (.int .i64 ((rd_T83 l0 x21_1).f3)) := (blk_cell BK411.out 3).trans rfl; have hcz34_4 : w33.cell? ⟨gb411, 4, none⟩ = some (.int .i64 ((rd_T83 l0 x21_1).f4)) := (blk_cell BK411.out 4).trans rfl; have hfz34_0 := blk_frozen BK411.out 0; have hfz34_1 := blk_frozen BK411.out 1; have hfz34_2 := blk_frozen BK411.out 2; have hfz34_3 := blk_frozen BK411.out 3; have hfz34_4 := blk_frozen BK411.out 4) | ((with_reducible refine gate_callee (f := 73) rfl ?_); refine goesL_ (some 59) rfl rfl Try.func73 (by kernel_rfl) rfl #[.int .i16 ((rd_T83 l0 x21_1).f2)] rfl (by (try simp only [List.map_toArray, List.map_cons, List.map_nil]); first | done | rfl | (simp only [List.length_drop, List.length_take]; rfl)) ?_; (with_reducible refine (impl_letter.calls ((rd_T83 l0 x21_1).f2) t419 _ A22.out).mono ?_); rintro e w35 ⟨rfl, hb⟩; refine ⟨_, rfl, ?_⟩; have n0_ := Aside0.mk (Kd.R_below (by (with_reducible repeat (first | apply Kd.R_alloc | apply Kd.R_drewN | apply Kd.R_drew)); exact HO_4.out) hb); have n1_ := Aside0.mk (blk_below (g := gb411) (o := .cells #[.int .i8 ((rd_T83 l0 x21_1).f0), .int .i16 ((rd_T83 l0 x21_1).f1), .int .i16 ((rd_T83 l0 x21_1).f2), .int .i64 ((rd_T83 l0 x21_1).f3), .int .i64 ((rd_T83 l0 x21_1).f4)] 83 (0, 0)) (by (with_reducible repeat (first | refine blk_drewN ?_ _ | refine blk_drew ?_ | refine blk_alloc ?_ _)); exact BK411.out) hb); have n2_ := Aside0.mk (below_step (by repeat (first | (with_reducible first | exact HB.out | apply below_alloc | apply pw_below_drewN | apply below_drew1 | refine below_set ?_ GE411.out) | exact HB.out)) hb); clear BK411; clear HB; have HO_4 := n0_; have BK411 := n1_; have HB := n2_; clear n0_ n1_ n2_; (try clear hb); (try clear hb2); (try clear hk); (try clear hi); have p23 : 0 ≤ (x21_1 : Int) := of_decide_eq_true (by first | (with_reducible assumption) | assumption); have q23 : (x21_1 : Int) < ((x4_1.length : Int) : Int) := of_decide_eq_true (by first | (with_reducible assumption) | assumption); obtain ⟨ce23, hcl23, hM23, hcc23, hfr23⟩ := Kd.R_elem HO_4.out z45 (x21_1 : Int) p23 q23; obtain rfl := k45_openM hM23; have hx23_0 : w35.cell? ⟨go16, (x21_1 : Int).toNat * 6, none⟩ = some (.string ((rd_T45 y418 x21_1).f0)) := hcc23 0 _ rfl; have hx23_1 : w35.cell? ⟨go16, (x21_1 : Int).toNat * 6 + 1, none⟩ = some (.int .i8 ((rd_T45 y418 x21_1).f1)) := hcc23 1 _ rfl; have hx23_2 : w35.cell? ⟨go16, (x21_1 : Int).toNat * 6 + 2, none⟩ = some (.string ((rd_T45 y418 x21_1).f2)) := hcc23 2 _ rfl; have hx23_3 : w35.cell? ⟨go16, (x21_1 : Int).toNat * 6 + 3, none⟩ = some (.string ((rd_T45 y418 x21_1).f3)) := hcc23 3 _ rfl; have hx23_4 : w35.cell? ⟨go16, (x21_1 : Int).toNat * 6 + 4, none⟩ = some (.int .i64 ((rd_T45 y418 x21_1).f4)) := hcc23 4 _ rfl; have hx23_5 : w35.cell? ⟨go16, (x21_1 : Int).toNat * 6 + 5, none⟩ = some (.int .i64 ((rd_T45 y418 x21_1).f5)) := hcc23 5 _ rfl; have hf23_0 : w35.frozen? ⟨go16, (x21_1 : Int).toNat * 6, none⟩ = false := hfr23 0; have hf23_1 : w35.frozen? ⟨go16, (x21_1 : Int).toNat * 6 + 1, none⟩ = false := hfr23 1; have hf23_2 : w35.frozen? ⟨go16, (x21_1 : Int).toNat * 6 + 2, none⟩ = false := hfr23 2; have hf23_3 : w35.frozen? ⟨go16, (x21_1 : Int).toNat * 6 + 3, none⟩ = false := hfr23 3; have hf23_4 : w35.frozen? ⟨go16, (x21_1 : Int).toNat * 6 + 4, none⟩ = false := hfr23 4; have hf23_5 : w35.frozen? ⟨go16, (x21_1 : Int).toNat * 6 + 5, none⟩ = false := hfr23 5; clear hcl23 hcc23 hfr23 hM23; replace p23 := eq_true p23; replace q23 := eq_true q23; have HX36 := Aside0.mk (show Kd.R k45 45 w35 w.heap.size (fun _ => True) (.slice (some ⟨go16, 0, none⟩) x4_1.length co16) y418 from (by (with_reducible repeat (first | apply Kd.R_alloc | apply Kd.R_drewN | apply Kd.R_drew)); exact HO_4.out)); obtain ⟨ce36, hcl36, hM36, hcc36, hfr36⟩ := Kd.R_elem HX36.out z45 (x21_1 : Int) (of_decide_eq_true (by first | (with_reducible assumption) | assumption)) (by have h_ : (x21_1 : Int) < ((x4_1.length : Int) : Int) := of_decide_eq_true (by first | (with_reducible assumption) | assumption); first | exact h_ | (have e_ := (Kd.R_reads' HO_4.out).1; omega) | simpa using h_); obtain rfl := k45_openM hM36; have HP36 := Kd.R_seg HX36.out (x21_1 : Int) (of_decide_eq_true (by first | (with_reducible assumption) | assumption)) (by have h_ : (x21_1 : Int) < ((x4_1.length : Int) : Int) := of_decide_eq_true (by first | (with_reducible assumption) | assumption); first | exact h_ | (have e_ := (Kd.R_reads' HO_4.out).1; omega) | simpa using h_) (seg := [.string t419]) (j := 3) hcl36 hcc36 (show 4 ≤ 6 from by decide) (x' := (⟨(rd_T45 y418 x21_1).f0, (rd_T45 y418 x21_1).f1, (rd_T45 y418 x21_1).f2, t419, (rd_T45 y418 x21_1).f4, (rd_T45 y418 x21_1).f5⟩ : S45)) (k45_mkM _ _ _ (⟨(rd_T45 y418 x21_1).f0, (rd_T45 y418 x21_1).f1, (rd_T45 y418 x21_1).f2, t419, (rd_T45 y418 x21_1).f4, (rd_T45 y418 x21_1).f5⟩ : S45) ) (fun _ hk => hk); have hx36_3 := hcc36 3 _ rfl; (try simp only [show (k45).sz = 6 from rfl, Nat.mul_one, Nat.add_zero] at hx36_3); have hf36_3 := hfr36 3; (try simp only [show (k45).sz = 6 from rfl, Nat.mul_one, Nat.add_zero] at hf36_3); clear hcl36 hcc36 hfr36 hM36) | ((with_reducible refine gate_store (t := 9) (p := 61) rfl ?_); refine store_event (t := 9) (p := 61) (v := ?vo_w37) (w1 := (w35.setCell ⟨go16, (x21_1 : Int).toNat * 6 + 3, none⟩ (.string t419))) ?hg ?ho ?hn ?hr ?_; (case ho => rfl); (case hg => rfl); (case hn => rfl); (case hr => first | (go_simp; done) | (go_simp; rfl)); intro w37 hw; have hg : w35.grownBy w37 (some go16) := (by rw [hw]; exact HP36.2); have hp_ : Kd.R k45 45 w37 w.heap.size (fun _ => True) (.slice (some ⟨go16, 0, none⟩) x4_1.length co16) y420 := (by rw [hw, Ny420.out]; exact HP36.1); clear HP36; have n0_ := Aside0.mk (hp_); have n1_ := Aside0.mk (blk_grown (g := gb411) (o := .cells #[.int .i8 ((rd_T83 l0 x21_1).f0), .int .i16 ((rd_T83 l0 x21_1).f1), .int .i16 ((rd_T83 l0 x21_1).f2), .int .i64 ((rd_T83 l0 x21_1).f3), .int .i64 ((rd_T83 l0 x21_1).f4)] 83 (0, 0)) (by (with_reducible repeat (first | refine blk_drewN ?_ _ | refine blk_drew ?_ | refine blk_alloc ?_ _)); exact BK411.out) hg (Kd.R_ne HO_4.out BK411.out (by decide))); have n2_ := Aside0.mk ((by rw [hw]; exact below_set (HB.out) GB16.out : Below w.heap.size w w37)); clear BK411; clear HB; have HO_4 := n0_; have BK411 := n1_; have HB := n2_; clear n0_ n1_ n2_; clear hg hw hp_))
             go_roundg k1
             case measure => have := HK1.out; omega
             case rel => exact ⟨(y420), (wrap64 (x21_1 + 1)), (by first | rfl | (simp; done) | (simp [*]; done)), H', ⟨by have := HK1.out; omega⟩, ⟨by (with_reducible repeat (first | apply Kd.R_alloc | apply Kd.R_drewN | apply Kd.R_drew)); exact HO_4.out⟩, ⟨by repeat (first | (with_reducible first | exact HB.out | apply below_alloc | apply pw_below_drewN | apply below_drew1 | refine below_set ?_ GE411.out) | exact HB.out)⟩⟩
            ·
             replace c21 := Bool.eq_false_iff.mpr c21
             subst c21
             have H1 : (impl_BookOfTerm.l0 k1 y418 l0 (l0.length : Int) (wrap64 (x21_1 + 1))) = some (r1, r2) := by rw [if_neg (show ¬ (false = true) by decide)] at H; exact H
             clear H
             have H := H1
             clear H1
             have H' := Aside0.mk H
             clear H
             have p410 : 0 ≤ (x21_1 : Int) := of_decide_eq_true (by first | (with_reducible assumption) | assumption)
             have q410 : x21_1 < (l0.length : Int) := of_decide_eq_true (by first | (with_reducible assumption) | assumption)
             obtain ⟨ad410, e410, hx410_0, hx410_1, hx410_2, hx410_3, hx410_4⟩ := at_T83 HR0.out x21_1 p410 q410
             cases e410
             replace hx410_0 := (HB.out.cell (World.block_lt_of_cell? w _ hx410_0)).trans hx410_0
             replace hx410_1 := (HB.out.cell (World.block_lt_of_cell? w _ hx410_1)).trans hx410_1
             replace hx410_2 := (HB.out.cell (World.block_lt_of_cell? w _ hx410_2)).trans hx410_2
             replace hx410_3 := (HB.out.cell (World.block_lt_of_cell? w _ hx410_3)).trans hx410_3
             replace hx410_4 := (HB.out.cell (World.block_lt_of_cell? w _ hx410_4)).trans hx410_4
             replace p410 := eq_true p410
             replace q410 := eq_true q410
             try go_wp2_with (first | ((with_reducible refine gate_dst (N := 6) rfl ?_); refine box_event ?hg (N := 6) ?hd (cs := #[.int .i8 0, .int .i16 0, .int .i16 0, .int .i64 0, .int .i64 0]) (t := 83) ?hr ?_; (case hd => rfl); (case hg => rfl); (case hr => first | (go_simp; done) | (go_simp; rfl)); intro gb411 hg w38 hbox hb; have n0_ := Aside0.mk (Kd.R_below (by (with_reducible repeat (first | apply Kd.R_alloc | apply Kd.R_drewN | apply Kd.R_drew)); exact HO_4.out) hb); have n1_ := Aside0.mk (below_step (by repeat (first | (with_reducible first | exact HB.out | apply below_alloc | apply pw_below_drewN | apply below_drew1) | exact HB.out)) hb); have n2_ := Aside0.mk (hbox); have n3_ := Aside0.mk ((by rw [hg]; exact (below_size (by repeat (first | (with_reducible first | exact HB.out | apply below_alloc | apply pw_below_drewN | apply below_drew1) | exact HB.out))) : w.heap.size ≤ gb411)); have n4_ := Aside0.mk ((by rw [hg]; exact (below_size (by repeat (first | (with_reducible first | exact HB.out | apply below_alloc | apply pw_below_drewN | apply below_drew1) | exact HB.out))) : w.heap.size ≤ gb411)); clear HO_4; clear HB; have HO_4 := n0_; have HB := n1_; have BK411 := n2_; have GW411 := n3_; have GE411 := n4_; clear n0_ n1_ n2_ n3_ n4_; clear hb hbox hg; have hcz39_0 : w38.cell? ⟨gb411, 0, none⟩ = some (.int .i8 0) := (blk_cell BK411.out 0).trans rfl; have hcz39_1 : w38.cell? ⟨gb411, 1, none⟩ = some (.int .i16 0) := (blk_cell BK411.out 1).trans rfl; have hcz39_2 : w38.cell? ⟨gb411, 2, none⟩ = some (.int .i16 0) := (blk_cell BK411.out 2).trans rfl; have hcz39_3 : w38.cell? ⟨gb411, 3, none⟩ = some (.int .i64 0) := (blk_cell BK411.out 3).trans rfl; have hcz39_4 : w38.cell? ⟨gb411, 4, none⟩ = some (.int .i64 0) := (blk_cell BK411.out 4).trans rfl; have hfz39_0 := blk_frozen BK411.out 0; have hfz39_1 := blk_frozen BK411.out 1; have hfz39_2 := blk_frozen BK411.out 2; have hfz39_3 := blk_frozen BK411.out 3; have hfz39_4 := blk_frozen BK411.out 4))
             have n0_ : Aside0 (Kd.R k45 45 (((((w38.setCell ⟨gb411, 0, none⟩ (.int .i8 ((rd_T83 l0 x21_1).f0))).setCell ⟨gb411, 1, none⟩ (.int .i16 ((rd_T83 l0 x21_1).f1))).setCell ⟨gb411, 2, none⟩ (.int .i16 ((rd_T83 l0 x21_1).f2))).setCell ⟨gb411, 3, none⟩ (.int .i64 ((rd_T83 l0 x21_1).f3))).setCell ⟨gb411, 4, none⟩ (.int .i64 ((rd_T83 l0 x21_1).f4))) w.heap.size (fun _ => True) v408 x4_1) := ⟨by (with_reducible repeat (first | apply Kd.R_alloc | apply Kd.R_drewN | apply Kd.R_drew)); exact Kd.R_mono (Kd.R_far (p := ⟨gb411, 4, none⟩) (Kd.R_far (p := ⟨gb411, 3, none⟩) (Kd.R_far (p := ⟨gb411, 2, none⟩) (Kd.R_far (p := ⟨gb411, 1, none⟩) (Kd.R_far (p := ⟨gb411, 0, none⟩) (Kd.R_types HO_4.out BK411.out (by decide)) (fun _ hk => hk.2) (.int .i8 ((rd_T83 l0 x21_1).f0))) (fun _ hk => hk.2) (.int .i16 ((rd_T83 l0 x21_1).f1))) (fun _ hk => hk.2) (.int .i16 ((rd_T83 l0 x21_1).f2))) (fun _ hk => hk.2) (.int .i64 ((rd_T83 l0 x21_1).f3))) (fun _ hk => hk.2) (.int .i64 ((rd_T83 l0 x21_1).f4))) (fun _ hk => trivial)⟩
             have n1_ : Aside0 ((((((w38.setCell ⟨gb411, 0, none⟩ (.int .i8 ((rd_T83 l0 x21_1).f0))).setCell ⟨gb411, 1, none⟩ (.int .i16 ((rd_T83 l0 x21_1).f1))).setCell ⟨gb411, 2, none⟩ (.int .i16 ((rd_T83 l0 x21_1).f2))).setCell ⟨gb411, 3, none⟩ (.int .i64 ((rd_T83 l0 x21_1).f3))).setCell ⟨gb411, 4, none⟩ (.int .i64 ((rd_T83 l0 x21_1).f4))).heap[gb411]? = some (.cells #[.int .i8 ((rd_T83 l0 x21_1).f0), .int .i16 ((rd_T83 l0 x21_1).f1), .int .i16 ((rd_T83 l0 x21_1).f2), .int .i64 ((rd_T83 l0 x21_1).f3), .int .i64 ((rd_T83 l0 x21_1).f4)] 83 (0, 0))) := ⟨by (with_reducible repeat (first | refine blk_drewN ?_ _ | refine blk_drew ?_ | refine blk_alloc ?_ _)); refine blk_put (cs := #[.int .i8 ((rd_T83 l0 x21_1).f0), .int .i16 ((rd_T83 l0 x21_1).f1), .int .i16 ((rd_T83 l0 x21_1).f2), .int .i64 ((rd_T83 l0 x21_1).f3), .int .i64 0]) ?_ 4 _ rfl; (with_reducible repeat (first | refine blk_drewN ?_ _ | refine blk_drew ?_ | refine blk_alloc ?_ _)); refine blk_put (cs := #[.int .i8 ((rd_T83 l0 x21_1).f0), .int .i16 ((rd_T83 l0 x21_1).f1), .int .i16 ((rd_T83 l0 x21_1).f2), .int .i64 0, .int .i64 0]) ?_ 3 _ rfl; (with_reducible repeat (first | refine blk_drewN ?_ _ | refine blk_drew ?_ | refine blk_alloc ?_ _)); refine blk_put (cs := #[.int .i8 ((rd_T83 l0 x21_1).f0), .int .i16 ((rd_T83 l0 x21_1).f1), .int .i16 0, .int .i64 0, .int .i64 0]) ?_ 2 _ rfl; (with_reducible repeat (first | refine blk_drewN ?_ _ | refine blk_drew ?_ | refine blk_alloc ?_ _)); refine blk_put (cs := #[.int .i8 ((rd_T83 l0 x21_1).f0), .int .i16 0, .int .i16 0, .int .i64 0, .int .i64 0]) ?_ 1 _ rfl; (with_reducible repeat (first | refine blk_drewN ?_ _ | refine blk_drew ?_ | refine blk_alloc ?_ _)); refine blk_put (cs := #[.int .i8 0, .int .i16 0, .int .i16 0, .int .i64 0, .int .i64 0]) ?_ 0 _ rfl; (with_reducible repeat (first | refine blk_drewN ?_ _ | refine blk_drew ?_ | refine blk_alloc ?_ _)); exact BK411.out⟩
             have n2_ : Aside0 (Below w.heap.size w (((((w38.setCell ⟨gb411, 0, none⟩ (.int .i8 ((rd_T83 l0 x21_1).f0))).setCell ⟨gb411, 1, none⟩ (.int .i16 ((rd_T83 l0 x21_1).f1))).setCell ⟨gb411, 2, none⟩ (.int .i16 ((rd_T83 l0 x21_1).f2))).setCell ⟨gb411, 3, none⟩ (.int .i64 ((rd_T83 l0 x21_1).f3))).setCell ⟨gb411, 4, none⟩ (.int .i64 ((rd_T83 l0 x21_1).f4)))) := ⟨by repeat (first | (with_reducible first | exact HB.out | apply below_alloc | apply pw_below_drewN | apply below_drew1 | refine below_set ?_ GE411.out) | exact HB.out)⟩
             (try clear HO_4)
             (try clear BK411)
             (try clear HB)
             generalize (((((w38.setCell ⟨gb411, 0, none⟩ (.int .i8 ((rd_T83 l0 x21_1).f0))).setCell ⟨gb411, 1, none⟩ (.int .i16 ((rd_T83 l0 x21_1).f1))).setCell ⟨gb411, 2, none⟩ (.int .i16 ((rd_T83 l0 x21_1).f2))).setCell ⟨gb411, 3, none⟩ (.int .i64 ((rd_T83 l0 x21_1).f3))).setCell ⟨gb411, 4, none⟩ (.int .i64 ((rd_T83 l0 x21_1).f4))) = w40 at n0_ n1_ n2_ ⊢
             have HO_4 := n0_
             have BK411 := n1_
             have HB := n2_
             clear n0_ n1_ n2_
             have n0_ := Aside0.mk (Kd.R_drew HO_4.out)
             have n1_ := Aside0.mk (blk_drew BK411.out)
             have n2_ := Aside0.mk (below_drew1 HB.out)
             clear HO_4
             clear BK411
             clear HB
             have HO_4 := n0_
             have BK411 := n1_
             have HB := n2_
             clear n0_ n1_ n2_
             refine start_ (n := 14) (S := fun w' => w'.cell? ⟨gb411, 0, none⟩ = some (.int .i8 ((rd_T83 l0 x21_1).f0)) ∧ w'.cell? ⟨gb411, 1, none⟩ = some (.int .i16 ((rd_T83 l0 x21_1).f1)) ∧ w'.cell? ⟨gb411, 2, none⟩ = some (.int .i16 ((rd_T83 l0 x21_1).f2)) ∧ w'.cell? ⟨gb411, 3, none⟩ = some (.int .i64 ((rd_T83 l0 x21_1).f3)) ∧ w'.cell? ⟨gb411, 4, none⟩ = some (.int .i64 ((rd_T83 l0 x21_1).f4))) (ds := [13]) #[false, false, false, false, false, false, false, false, false, false, false, false, false, false] (by kernel_rfl) rfl rfl ⟨(blk_cell BK411.out 0).trans rfl, (blk_cell BK411.out 1).trans rfl, (blk_cell BK411.out 2).trans rfl, (blk_cell BK411.out 3).trans rfl, (blk_cell BK411.out 4).trans rfl⟩ (fun hHeld => ?_); refine with_tabW impl_BookOfTerm.tab9 impl_BookOfTerm.bits9 (fun HT_ HW_ => ?_)
             generalize w40.drew = w41 at HO_4 BK411 HB hHeld ⊢
             refine pure_ (i := 0) (N := some 26) (v := ?_) (a' := ?_) #[true, false, false, false, false, false, false, false, false, false, false, false, false, false] rfl rfl (any_of HT_.out (by kernel_rfl)) (fun _ _ _ h => h) (Or.inl ⟨by rfl, ?_⟩) ?_ ?_
             rotate_left
             ·
              intro w'
              go_simp
              with_reducible rfl
             rotate_left
             ·
              simp only [Act.put, List.setIfInBounds_toArray, List.set_cons_zero, List.set_cons_succ, i64_w, i32_w]
              rfl
             refine pure_ (i := 1) (N := some 27) (v := ?_) (a' := ?_) #[true, true, false, false, false, false, false, false, false, false, false, false, false, false] rfl rfl (any_of HT_.out (by kernel_rfl)) (fun _ _ _ h => h) (Or.inl ⟨by rfl, ?_⟩) ?_ ?_
             rotate_left
             ·
              intro w'
              go_simp
              with_reducible rfl
             rotate_left
             ·
              simp only [Act.put, List.setIfInBounds_toArray, List.set_cons_zero, List.set_cons_succ, i64_w, i32_w]
              rfl
             refine pure_ (i := 2) (N := some 28) (v := ?_) (a' := ?_) #[true, true, true, false, false, false, false, false, false, false, false, false, false, false] rfl rfl (any_of HT_.out (by kernel_rfl)) (fun _ _ _ h => h) (Or.inl ⟨by rfl, ?_⟩) ?_ ?_
             rotate_left
             ·
              intro w'
              go_simp
              with_reducible rfl
             rotate_left
             ·
              simp only [Act.put, List.setIfInBounds_toArray, List.set_cons_zero, List.set_cons_succ, i64_w, i32_w]
              rfl
             refine pure_ (i := 3) (N := some 29) (v := ?_) (a' := ?_) #[true, true, true, true, false, false, false, false, false, false, false, false, false, false] rfl rfl (any_of HT_.out (by kernel_rfl)) (fun _ _ _ h => h) (Or.inl ⟨by rfl, ?_⟩) ?_ ?_
             rotate_left
             ·
              intro w'
              go_simp
              with_reducible rfl
             rotate_left
             ·
              simp only [Act.put, List.setIfInBounds_toArray, List.set_cons_zero, List.set_cons_succ, i64_w, i32_w]
              rfl
             refine pure_ (i := 5) (N := some 31) (v := ?_) (a' := ?_) #[true, true, true, true, false, true, false, false, false, false, false, false, false, false] rfl rfl (any_of HT_.out (by kernel_rfl)) (fun _ _ _ h => h) (Or.inl ⟨by rfl, ?_⟩) ?_ ?_
             rotate_left
             ·
              intro w'
              go_simp
              with_reducible rfl
             rotate_left
             ·
              simp only [Act.put, List.setIfInBounds_toArray, List.set_cons_zero, List.set_cons_succ, i64_w, i32_w]
              rfl
             refine pure_ (i := 7) (N := some 33) (v := ?_) (a' := ?_) #[true, true, true, true, false, true, false, true, false, false, false, false, false, false] rfl rfl (any_of HT_.out (by kernel_rfl)) (fun _ _ _ h => h) (Or.inl ⟨by rfl, ?_⟩) ?_ ?_
             rotate_left
             ·
              intro w'
              go_simp
              with_reducible rfl
             rotate_left
             ·
              simp only [Act.put, List.setIfInBounds_toArray, List.set_cons_zero, List.set_cons_succ, i64_w, i32_w]
              rfl
             refine pure_ (i := 9) (N := some 35) (v := ?_) (a' := ?_) #[true, true, true, true, false, true, false, true, false, true, false, false, false, false] rfl rfl (any_of HT_.out (by kernel_rfl)) (fun _ _ _ h => h) (Or.inl ⟨by rfl, ?_⟩) ?_ ?_
             rotate_left
             ·
              intro w'
              go_simp
              with_reducible rfl
             rotate_left
             ·
              simp only [Act.put, List.setIfInBounds_toArray, List.set_cons_zero, List.set_cons_succ, i64_w, i32_w]
              rfl
             refine take_ (i := 6) (N := some 32) (v := ?_) (a' := ?_) #[true, true, true, true, false, true, true, true, false, true, false, false, false, false] rfl rfl (take_ofW HT_.out HW_.out (by kernel_rfl)) (fun _ _ _ h => h) (Or.inl ⟨by rfl, ?_⟩) hHeld ?_ ?_
             rotate_left
             ·
              rintro w' ⟨s0, s1, s2, s3, s4⟩
              go_simp
              with_reducible rfl
             rotate_left
             ·
              simp only [Act.put, List.setIfInBounds_toArray, List.set_cons_zero, List.set_cons_succ, i64_w, i32_w]
              rfl
             refine take_ (i := 8) (N := some 34) (v := ?_) (a' := ?_) #[true, true, true, true, false, true, true, true, true, true, false, false, false, false] rfl rfl (take_ofW HT_.out HW_.out (by kernel_rfl)) (fun _ _ _ h => h) (Or.inl ⟨by rfl, ?_⟩) hHeld ?_ ?_
             rotate_left
             ·
              rintro w' ⟨s0, s1, s2, s3, s4⟩
              go_simp
              with_reducible rfl
             rotate_left
             ·
              simp only [Act.put, List.setIfInBounds_toArray, List.set_cons_zero, List.set_cons_succ, i64_w, i32_w]
              rfl
             refine take_ (i := 10) (N := some 36) (v := ?_) (a' := ?_) #[true, true, true, true, false, true, true, true, true, true, true, false, false, false] rfl rfl (take_ofW HT_.out HW_.out (by kernel_rfl)) (fun _ _ _ h => h) (Or.inl ⟨by rfl, ?_⟩) hHeld ?_ ?_
             rotate_left
             ·
              rintro w' ⟨s0, s1, s2, s3, s4⟩
              go_simp
              with_reducible rfl
             rotate_left
             ·
              simp only [Act.put, List.setIfInBounds_toArray, List.set_cons_zero, List.set_cons_succ, i64_w, i32_w]
              rfl
             refine one_ (i := 4) (N := some 30) #[true, true, true, true, true, true, true, true, true, true, true, false, false, false] rfl rfl (one_of HT_.out (by kernel_rfl)) (by decide) (fun K hK => ?_)
             refine goes_ Try.func73 (by kernel_rfl) rfl #[.int .i16 (IntKind.i16.wrap (x21_1))] (by rfl) rfl rfl (by (try simp only [List.map_toArray, List.map_cons, List.map_nil]); first | done | rfl | (simp only [List.length_drop, List.length_take]; rfl)) ?_
             with_reducible refine (impl_letter.calls (IntKind.i16.wrap (x21_1)) t412 _ A14.out).mono ?_
             rintro e w42 ⟨rfl, hb⟩
             refine ⟨_, rfl, ?_⟩
             have n0_ := Aside0.mk (Kd.R_below (by (with_reducible repeat (first | apply Kd.R_alloc | apply Kd.R_drewN | apply Kd.R_drew)); exact HO_4.out) hb)
             have n1_ := Aside0.mk (blk_below (g := gb411) (o := .cells #[.int .i8 ((rd_T83 l0 x21_1).f0), .int .i16 ((rd_T83 l0 x21_1).f1), .int .i16 ((rd_T83 l0 x21_1).f2), .int .i64 ((rd_T83 l0 x21_1).f3), .int .i64 ((rd_T83 l0 x21_1).f4)] 83 (0, 0)) (by (with_reducible repeat (first | refine blk_drewN ?_ _ | refine blk_drew ?_ | refine blk_alloc ?_ _)); exact BK411.out) hb)
             have n2_ := Aside0.mk (below_step (by repeat (first | (with_reducible first | exact HB.out | apply below_alloc | apply pw_below_drewN | apply below_drew1 | refine below_set ?_ GE411.out) | exact HB.out)) hb)
             clear HO_4
             clear BK411
             clear HB
             have HO_4 := n0_
             have BK411 := n1_
             have HB := n2_
             clear n0_ n1_ n2_
             (try clear hb)
             (try clear hb2)
             (try clear hk)
             (try clear hi)
             have p16 : 0 ≤ (x21_1 : Int) := of_decide_eq_true (by first | (with_reducible assumption) | assumption)
             have q16 : (x21_1 : Int) < ((x4_1.length : Int) : Int) := of_decide_eq_true (by first | (with_reducible assumption) | assumption)
             obtain ⟨go16, co16, eo16, gb16, gl16, cl16, HG16⟩ := Kd.R_form HO_4.out (by omega)
             (first | cases eo16 | (injection eo16 with ea_ en_ ec_; (first | subst ea_ | (injection ea_ with ea_; subst ea_)); subst ec_; clear en_))
             have GB16 := Aside0.mk gb16
             have GG16 := Aside0.mk HG16
             clear gb16 gl16 HG16
             obtain ⟨ce16, hcl16, hM16, hcc16, hfr16⟩ := Kd.R_elem HO_4.out z45 (x21_1 : Int) p16 q16
             obtain rfl := k45_openM hM16
             have hx16_0 : World.cell? _ ⟨go16, (x21_1 : Int).toNat * 6, none⟩ = some (.string ((rd_T45 x4_1 x21_1).f0)) := hcc16 0 _ rfl
             have hx16_1 : World.cell? _ ⟨go16, (x21_1 : Int).toNat * 6 + 1, none⟩ = some (.int .i8 ((rd_T45 x4_1 x21_1).f1)) := hcc16 1 _ rfl
             have hx16_2 : World.cell? _ ⟨go16, (x21_1 : Int).toNat * 6 + 2, none⟩ = some (.string ((rd_T45 x4_1 x21_1).f2)) := hcc16 2 _ rfl
             have hx16_3 : World.cell? _ ⟨go16, (x21_1 : Int).toNat * 6 + 3, none⟩ = some (.string ((rd_T45 x4_1 x21_1).f3)) := hcc16 3 _ rfl
             have hx16_4 : World.cell? _ ⟨go16, (x21_1 : Int).toNat * 6 + 4, none⟩ = some (.int .i64 ((rd_T45 x4_1 x21_1).f4)) := hcc16 4 _ rfl
             have hx16_5 : World.cell? _ ⟨go16, (x21_1 : Int).toNat * 6 + 5, none⟩ = some (.int .i64 ((rd_T45 x4_1 x21_1).f5)) := hcc16 5 _ rfl
             have hf16_0 : World.frozen? _ ⟨go16, (x21_1 : Int).toNat * 6, none⟩ = false := hfr16 0
             have hf16_1 : World.frozen? _ ⟨go16, (x21_1 : Int).toNat * 6 + 1, none⟩ = false := hfr16 1
             have hf16_2 : World.frozen? _ ⟨go16, (x21_1 : Int).toNat * 6 + 2, none⟩ = false := hfr16 2
             have hf16_3 : World.frozen? _ ⟨go16, (x21_1 : Int).toNat * 6 + 3, none⟩ = false := hfr16 3
             have hf16_4 : World.frozen? _ ⟨go16, (x21_1 : Int).toNat * 6 + 4, none⟩ = false := hfr16 4
             have hf16_5 : World.frozen? _ ⟨go16, (x21_1 : Int).toNat * 6 + 5, none⟩ = false := hfr16 5
             clear hcl16 hcc16 hfr16 hM16
             replace p16 := eq_true p16
             replace q16 := eq_true q16
             obtain ⟨ce43, hcl43, hM43, hcc43, hfr43⟩ := Kd.R_elem HO_4.out z45 (x21_1 : Int) (of_decide_eq_true (by first | (with_reducible assumption) | assumption)) (by have h_ : (x21_1 : Int) < ((x4_1.length : Int) : Int) := of_decide_eq_true (by first | (with_reducible assumption) | assumption); first | exact h_ | (have e_ := (Kd.R_reads' HO_4.out).1; omega) | simpa using h_)
             obtain rfl := k45_openM hM43
             have HP43 := (Kd.R_seg HO_4.out (x21_1 : Int) (of_decide_eq_true (by first | (with_reducible assumption) | assumption)) (by have h_ : (x21_1 : Int) < ((x4_1.length : Int) : Int) := of_decide_eq_true (by first | (with_reducible assumption) | assumption); first | exact h_ | (have e_ := (Kd.R_reads' HO_4.out).1; omega) | simpa using h_) (seg := [.string t412, .int .i8 ((rd_T83 l0 x21_1).f0), .string (⟨#[]⟩ : ByteArray), .string (⟨#[]⟩ : ByteArray), .int .i64 ((rd_T83 l0 x21_1).f3), .int .i64 ((rd_T83 l0 x21_1).f4)]) (j := 0) hcl43 hcc43 (show 6 ≤ 6 from by decide) (x' := (⟨t412, (rd_T83 l0 x21_1).f0, (⟨#[]⟩ : ByteArray), (⟨#[]⟩ : ByteArray), (rd_T83 l0 x21_1).f3, (rd_T83 l0 x21_1).f4⟩ : S45)) (k45_mkM _ _ _ (⟨t412, (rd_T83 l0 x21_1).f0, (⟨#[]⟩ : ByteArray), (⟨#[]⟩ : ByteArray), (rd_T83 l0 x21_1).f3, (rd_T83 l0 x21_1).f4⟩ : S45) ) (fun _ hk => hk)).1
             rw [← Ny413.out] at HP43
             have HQ43 := Aside0.mk HP43
             clear hcl43 hcc43 hfr43 hM43 HP43
             refine hK.out _ _ ⟨(blk_cell BK411.out 0).trans rfl, (blk_cell BK411.out 1).trans rfl, (blk_cell BK411.out 2).trans rfl, (blk_cell BK411.out 3).trans rfl, (blk_cell BK411.out 4).trans rfl⟩ (fun hHeld => ?_)
             clear hK K
             refine norm_ (a' := ?_) ?_ ?_
             rotate_left
             ·
              show Act.put _ (some 30) _ = _
              simp only [Act.put, List.setIfInBounds_toArray, List.set_cons_zero, List.set_cons_succ, i64_w, i32_w]
              rfl
             refine pure_ (i := 11) (N := some 37) (v := ?_) (a' := ?_) #[true, true, true, true, true, true, true, true, true, true, true, true, false, false] rfl rfl (any_of HT_.out (by kernel_rfl)) (fun _ _ _ h => h) (Or.inl ⟨by rfl, ?_⟩) ?_ ?_
             rotate_left
             ·
              intro w'
              go_simp
              with_reducible rfl
             rotate_left
             ·
              simp only [Act.put, List.setIfInBounds_toArray, List.set_cons_zero, List.set_cons_succ, i64_w, i32_w]
              rfl
             refine pure_ (i := 12) (N := some 38) (v := ?_) (a' := ?_) #[true, true, true, true, true, true, true, true, true, true, true, true, true, false] rfl rfl (any_of HT_.out (by kernel_rfl)) (fun _ _ _ h => h) (Or.inl ⟨by rfl, ?_⟩) ?_ ?_
             rotate_left
             ·
              intro w'
              go_simp
              with_reducible rfl
             rotate_left
             ·
              simp only [Act.put, List.setIfInBounds_toArray, List.set_cons_zero, List.set_cons_succ, i64_w, i32_w]
              rfl
             refine last_ (i := 13) (N := none) #[true, true, true, true, true, true, true, true, true, true, true, true, true, true] rfl rfl (one_of HT_.out (by kernel_rfl)) (by decide) (fun K hK => ?_)
             refine skip_ (w1 := ?_) (by rfl) rfl ?_ ?_
             rotate_left
             ·
              go_simp
              rfl
             refine hK.out _ _ ?_
             clear hK K
             refine done_ (done_of HT_.out (by kernel_rfl)) ?_
             have hcz44_0 : w42.cell? ⟨gb411, 0, none⟩ = some (.int .i8 ((rd_T83 l0 x21_1).f0)) := (blk_cell BK411.out 0).trans rfl
             have hcz44_1 : w42.cell? ⟨gb411, 1, none⟩ = some (.int .i16 ((rd_T83 l0 x21_1).f1)) := (blk_cell BK411.out 1).trans rfl
             have hcz44_2 : w42.cell? ⟨gb411, 2, none⟩ = some (.int .i16 ((rd_T83 l0 x21_1).f2)) := (blk_cell BK411.out 2).trans rfl
             have hcz44_3 : w42.cell? ⟨gb411, 3, none⟩ = some (.int .i64 ((rd_T83 l0 x21_1).f3)) := (blk_cell BK411.out 3).trans rfl
             have hcz44_4 : w42.cell? ⟨gb411, 4, none⟩ = some (.int .i64 ((rd_T83 l0 x21_1).f4)) := (blk_cell BK411.out 4).trans rfl
             have hfz44_0 := blk_frozen BK411.out 0
             have hfz44_1 := blk_frozen BK411.out 1
             have hfz44_2 := blk_frozen BK411.out 2
             have hfz44_3 := blk_frozen BK411.out 3
             have hfz44_4 := blk_frozen BK411.out 4
             replace HQ43 := HQ43.out
             simp only [World.setCells, show (k45).sz = 6 from rfl, Nat.add_zero, Nat.add_assoc, Nat.reduceAdd] at HQ43
             replace HQ43 := Aside0.mk HQ43
             generalize hW_ : World.setCell _ _ _ = wq_ at HQ43 ⊢
             have nB_ : Aside0 (wq_.heap[gb411]? = some (.cells #[.int .i8 ((rd_T83 l0 x21_1).f0), .int .i16 ((rd_T83 l0 x21_1).f1), .int .i16 ((rd_T83 l0 x21_1).f2), .int .i64 ((rd_T83 l0 x21_1).f3), .int .i64 ((rd_T83 l0 x21_1).f4)] 83 (0, 0))) := ⟨by rw [← hW_]; refine blk_far ?_ (by have h_ := Kd.R_ne HO_4.out BK411.out (by decide); intro e_; exact h_ (by rw [e_]; rfl)) _; refine blk_far ?_ (by have h_ := Kd.R_ne HO_4.out BK411.out (by decide); intro e_; exact h_ (by rw [e_]; rfl)) _; refine blk_far ?_ (by have h_ := Kd.R_ne HO_4.out BK411.out (by decide); intro e_; exact h_ (by rw [e_]; rfl)) _; refine blk_far ?_ (by have h_ := Kd.R_ne HO_4.out BK411.out (by decide); intro e_; exact h_ (by rw [e_]; rfl)) _; refine blk_far ?_ (by have h_ := Kd.R_ne HO_4.out BK411.out (by decide); intro e_; exact h_ (by rw [e_]; rfl)) _; refine blk_far ?_ (by have h_ := Kd.R_ne HO_4.out BK411.out (by decide); intro e_; exact h_ (by rw [e_]; rfl)) _; exact BK411.out⟩
             have nH_ : Aside0 (Below w.heap.size w wq_) := ⟨by rw [← hW_]; repeat (with_reducible first | exact HB.out | refine below_set ?_ GB16.out)⟩
             clear hW_ HO_4 HB BK411 hcz44_0 hfz44_0 hcz44_1 hfz44_1 hcz44_2 hfz44_2 hcz44_3 hfz44_3 hcz44_4 hfz44_4
             have BK411 := nB_
             have HB := nH_
             clear nB_ nH_
             have hcz44_0 : wq_.cell? ⟨gb411, 0, none⟩ = some (.int .i8 ((rd_T83 l0 x21_1).f0)) := (blk_cell BK411.out 0).trans rfl
             have hcz44_1 : wq_.cell? ⟨gb411, 1, none⟩ = some (.int .i16 ((rd_T83 l0 x21_1).f1)) := (blk_cell BK411.out 1).trans rfl
             have hcz44_2 : wq_.cell? ⟨gb411, 2, none⟩ = some (.int .i16 ((rd_T83 l0 x21_1).f2)) := (blk_cell BK411.out 2).trans rfl
             have hcz44_3 : wq_.cell? ⟨gb411, 3, none⟩ = some (.int .i64 ((rd_T83 l0 x21_1).f3)) := (blk_cell BK411.out 3).trans rfl
             have hcz44_4 : wq_.cell? ⟨gb411, 4, none⟩ = some (.int .i64 ((rd_T83 l0 x21_1).f4)) := (blk_cell BK411.out 4).trans rfl
             have hfz44_0 := blk_frozen BK411.out 0
             have hfz44_1 := blk_frozen BK411.out 1
             have hfz44_2 := blk_frozen BK411.out 2
             have hfz44_3 := blk_frozen BK411.out 3
             have hfz44_4 := blk_frozen BK411.out 4
             try go_wp2_with (first | ((with_reducible refine gate_callee (f := 74) rfl ?_); refine goesL_ (some 42) rfl rfl Try.func74 (by kernel_rfl) rfl #[.int .i8 ((rd_T83 l0 x21_1).f0)] rfl (by (try simp only [List.map_toArray, List.map_cons, List.map_nil]); first | done | rfl | (simp only [List.length_drop, List.length_take]; rfl)) ?_; (with_reducible refine (impl_uses.calls k1 ((rd_T83 l0 x21_1).f0) true false t416 _ A17.out).mono ?_); rintro e w' ⟨rfl, ⟨nd, rfl⟩⟩; refine ⟨_, rfl, ?_⟩) | ((with_reducible refine gate_callee (f := 73) rfl ?_); refine goesL_ (some 51) rfl rfl Try.func73 (by kernel_rfl) rfl #[.int .i16 ((rd_T83 l0 x21_1).f1)] rfl (by (try simp only [List.map_toArray, List.map_cons, List.map_nil]); first | done | rfl | (simp only [List.length_drop, List.length_take]; rfl)) ?_; (with_reducible refine (impl_letter.calls ((rd_T83 l0 x21_1).f1) t417 _ A19.out).mono ?_); rintro e w45 ⟨rfl, hb⟩; refine ⟨_, rfl, ?_⟩; have n0_ := Aside0.mk (Kd.R_below (by (with_reducible repeat (first | apply Kd.R_alloc | apply Kd.R_drewN | apply Kd.R_drew)); exact HQ43.out) hb); have n1_ := Aside0.mk (blk_below (g := gb411) (o := .cells #[.int .i8 ((rd_T83 l0 x21_1).f0), .int .i16 ((rd_T83 l0 x21_1).f1), .int .i16 ((rd_T83 l0 x21_1).f2), .int .i64 ((rd_T83 l0 x21_1).f3), .int .i64 ((rd_T83 l0 x21_1).f4)] 83 (0, 0)) (by (with_reducible repeat (first | refine blk_drewN ?_ _ | refine blk_drew ?_ | refine blk_alloc ?_ _)); (with_reducible repeat (first | refine blk_drewN ?_ _ | refine blk_drew ?_ | refine blk_alloc ?_ _)); (with_reducible repeat (first | refine blk_drewN ?_ _ | refine blk_drew ?_ | refine blk_alloc ?_ _)); (with_reducible repeat (first | refine blk_drewN ?_ _ | refine blk_drew ?_ | refine blk_alloc ?_ _)); (with_reducible repeat (first | refine blk_drewN ?_ _ | refine blk_drew ?_ | refine blk_alloc ?_ _)); (with_reducible repeat (first | refine blk_drewN ?_ _ | refine blk_drew ?_ | refine blk_alloc ?_ _)); (with_reducible repeat (first | refine blk_drewN ?_ _ | refine blk_drew ?_ | refine blk_alloc ?_ _)); exact BK411.out) hb); have n2_ := Aside0.mk (below_step (by repeat (first | (with_reducible first | exact HB.out | apply below_alloc | apply pw_below_drewN | apply below_drew1 | refine below_set ?_ GB16.out | refine below_set ?_ GB16.out | refine below_set ?_ GB16.out | refine below_set ?_ GB16.out | refine below_set ?_ GB16.out | refine below_set ?_ GB16.out | refine below_set ?_ GE411.out) | exact HB.out)) hb); clear BK411; clear HB; have HO_4 := n0_; have BK411 := n1_; have HB := n2_; clear n0_ n1_ n2_; (try clear hb); (try clear hb2); (try clear hk); (try clear hi); have p20 : 0 ≤ (x21_1 : Int) := of_decide_eq_true (by first | (with_reducible assumption) | assumption); have q20 : (x21_1 : Int) < ((x4_1.length : Int) : Int) := of_decide_eq_true (by first | (with_reducible assumption) | assumption); obtain ⟨ce20, hcl20, hM20, hcc20, hfr20⟩ := Kd.R_elem HO_4.out z45 (x21_1 : Int) p20 q20; obtain rfl := k45_openM hM20; have hx20_0 : w45.cell? ⟨go16, (x21_1 : Int).toNat * 6, none⟩ = some (.string ((rd_T45 y413 x21_1).f0)) := hcc20 0 _ rfl; have hx20_1 : w45.cell? ⟨go16, (x21_1 : Int).toNat * 6 + 1, none⟩ = some (.int .i8 ((rd_T45 y413 x21_1).f1)) := hcc20 1 _ rfl; have hx20_2 : w45.cell? ⟨go16, (x21_1 : Int).toNat * 6 + 2, none⟩ = some (.string ((rd_T45 y413 x21_1).f2)) := hcc20 2 _ rfl; have hx20_3 : w45.cell? ⟨go16, (x21_1 : Int).toNat * 6 + 3, none⟩ = some (.string ((rd_T45 y413 x21_1).f3)) := hcc20 3 _ rfl; have hx20_4 : w45.cell? ⟨go16, (x21_1 : Int).toNat * 6 + 4, none⟩ = some (.int .i64 ((rd_T45 y413 x21_1).f4)) := hcc20 4 _ rfl; have hx20_5 : w45.cell? ⟨go16, (x21_1 : Int).toNat * 6 + 5, none⟩ = some (.int .i64 ((rd_T45 y413 x21_1).f5)) := hcc20 5 _ rfl; have hf20_0 : w45.frozen? ⟨go16, (x21_1 : Int).toNat * 6, none⟩ = false := hfr20 0; have hf20_1 : w45.frozen? ⟨go16, (x21_1 : Int).toNat * 6 + 1, none⟩ = false := hfr20 1; have hf20_2 : w45.frozen? ⟨go16, (x21_1 : Int).toNat * 6 + 2, none⟩ = false := hfr20 2; have hf20_3 : w45.frozen? ⟨go16, (x21_1 : Int).toNat * 6 + 3, none⟩ = false := hfr20 3; have hf20_4 : w45.frozen? ⟨go16, (x21_1 : Int).toNat * 6 + 4, none⟩ = false := hfr20 4; have hf20_5 : w45.frozen? ⟨go16, (x21_1 : Int).toNat * 6 + 5, none⟩ = false := hfr20 5; clear hcl20 hcc20 hfr20 hM20; replace p20 := eq_true p20; replace q20 := eq_true q20; have HX46 := Aside0.mk (show Kd.R k45 45 w45 w.heap.size (fun _ => True) (.slice (some ⟨go16, 0, none⟩) x4_1.length co16) y413 from (by (with_reducible repeat (first | apply Kd.R_alloc | apply Kd.R_drewN | apply Kd.R_drew)); exact HO_4.out)); obtain ⟨ce46, hcl46, hM46, hcc46, hfr46⟩ := Kd.R_elem HX46.out z45 (x21_1 : Int) (of_decide_eq_true (by first | (with_reducible assumption) | assumption)) (by have h_ : (x21_1 : Int) < ((x4_1.length : Int) : Int) := of_decide_eq_true (by first | (with_reducible assumption) | assumption); first | exact h_ | (have e_ := (Kd.R_reads' HO_4.out).1; omega) | simpa using h_); obtain rfl := k45_openM hM46; have HP46 := Kd.R_seg HX46.out (x21_1 : Int) (of_decide_eq_true (by first | (with_reducible assumption) | assumption)) (by have h_ : (x21_1 : Int) < ((x4_1.length : Int) : Int) := of_decide_eq_true (by first | (with_reducible assumption) | assumption); first | exact h_ | (have e_ := (Kd.R_reads' HO_4.out).1; omega) | simpa using h_) (seg := [.string t417]) (j := 2) hcl46 hcc46 (show 3 ≤ 6 from by decide) (x' := (⟨(rd_T45 y413 x21_1).f0, (rd_T45 y413 x21_1).f1, t417, (rd_T45 y413 x21_1).f3, (rd_T45 y413 x21_1).f4, (rd_T45 y413 x21_1).f5⟩ : S45)) (k45_mkM _ _ _ (⟨(rd_T45 y413 x21_1).f0, (rd_T45 y413 x21_1).f1, t417, (rd_T45 y413 x21_1).f3, (rd_T45 y413 x21_1).f4, (rd_T45 y413 x21_1).f5⟩ : S45) ) (fun _ hk => hk); have hx46_2 := hcc46 2 _ rfl; (try simp only [show (k45).sz = 6 from rfl, Nat.mul_one, Nat.add_zero] at hx46_2); have hf46_2 := hfr46 2; (try simp only [show (k45).sz = 6 from rfl, Nat.mul_one, Nat.add_zero] at hf46_2); clear hcl46 hcc46 hfr46 hM46) | ((with_reducible refine gate_store (t := 9) (p := 53) rfl ?_); refine store_event (t := 9) (p := 53) (v := ?vo_w47) (w1 := (w45.setCell ⟨go16, (x21_1 : Int).toNat * 6 + 2, none⟩ (.string t417))) ?hg ?ho ?hn ?hr ?_; (case ho => rfl); (case hg => rfl); (case hn => rfl); (case hr => first | (go_simp; done) | (go_simp; rfl)); intro w47 hw; have hg : w45.grownBy w47 (some go16) := (by rw [hw]; exact HP46.2); have hp_ : Kd.R k45 45 w47 w.heap.size (fun _ => True) (.slice (some ⟨go16, 0, none⟩) x4_1.length co16) y418 := (by rw [hw, Ny418.out]; exact HP46.1); clear HP46; have n0_ := Aside0.mk (hp_); have n1_ := Aside0.mk (blk_grown (g := gb411) (o := .cells #[.int .i8 ((rd_T83 l0 x21_1).f0), .int .i16 ((rd_T83 l0 x21_1).f1), .int .i16 ((rd_T83 l0 x21_1).f2), .int .i64 ((rd_T83 l0 x21_1).f3), .int .i64 ((rd_T83 l0 x21_1).f4)] 83 (0, 0)) (by (with_reducible repeat (first | refine blk_drewN ?_ _ | refine blk_drew ?_ | refine blk_alloc ?_ _)); exact BK411.out) hg (Kd.R_ne HO_4.out BK411.out (by decide))); have n2_ := Aside0.mk ((by rw [hw]; exact below_set (HB.out) GB16.out : Below w.heap.size w w47)); clear BK411; clear HB; have HO_4 := n0_; have BK411 := n1_; have HB := n2_; clear n0_ n1_ n2_; clear hg hw hp_))
             go_roundg k1
             case measure => have := HK1.out; omega
             case rel => exact ⟨(y418), (wrap64 (x21_1 + 1)), (by first | rfl | (simp; done) | (simp [*]; done)), H', ⟨by have := HK1.out; omega⟩, ⟨by (with_reducible repeat (first | apply Kd.R_alloc | apply Kd.R_drewN | apply Kd.R_drew)); exact HO_4.out⟩, ⟨by repeat (first | (with_reducible first | exact HB.out | apply below_alloc | apply pw_below_drewN | apply below_drew1 | refine below_set ?_ GE411.out) | exact HB.out)⟩⟩
           ·
            replace c18 := Bool.eq_false_iff.mpr c18
            subst c18
            have H1 : (if t415 = true then ((impl_letter.f ((rd_T83 l0 x21_1).f2)).bind fun t421 => (impl_BookOfTerm.l0 k1 (y413.set (x21_1 : Int).toNat (⟨(rd_T45 y413 x21_1).f0, (rd_T45 y413 x21_1).f1, (rd_T45 y413 x21_1).f2, t421, (rd_T45 y413 x21_1).f4, (rd_T45 y413 x21_1).f5⟩ : S45)) l0 (l0.length : Int) (wrap64 (x21_1 + 1)))) else (impl_BookOfTerm.l0 k1 y413 l0 (l0.length : Int) (wrap64 (x21_1 + 1)))) = some (r1, r2) := by rw [if_neg (show ¬ (false = true) by decide)] at H; exact H
            clear H
            have H := H1
            clear H1
            by_cases c48 : t415 = true
            ·
             subst c48
             have H1 : ((impl_letter.f ((rd_T83 l0 x21_1).f2)).bind fun t421 => (impl_BookOfTerm.l0 k1 (y413.set (x21_1 : Int).toNat (⟨(rd_T45 y413 x21_1).f0, (rd_T45 y413 x21_1).f1, (rd_T45 y413 x21_1).f2, t421, (rd_T45 y413 x21_1).f4, (rd_T45 y413 x21_1).f5⟩ : S45)) l0 (l0.length : Int) (wrap64 (x21_1 + 1)))) = some (r1, r2) := by rw [if_pos rfl] at H; exact H
             clear H
             have H := H1
             clear H1
             replace H := Option.bind_eq_some_iff.mp H
             obtain ⟨t421, A490, H⟩ := H
             replace H : (impl_BookOfTerm.l0 k1 (y413.set (x21_1 : Int).toNat (⟨(rd_T45 y413 x21_1).f0, (rd_T45 y413 x21_1).f1, (rd_T45 y413 x21_1).f2, t421, (rd_T45 y413 x21_1).f4, (rd_T45 y413 x21_1).f5⟩ : S45)) l0 (l0.length : Int) (wrap64 (x21_1 + 1))) = some (r1, r2) := H
             have A49 := Aside0.mk A490
             clear A490
             obtain ⟨y422, hy422⟩ : ∃ y_ : List (S45), y_ = (y413.set (x21_1 : Int).toNat (⟨(rd_T45 y413 x21_1).f0, (rd_T45 y413 x21_1).f1, (rd_T45 y413 x21_1).f2, t421, (rd_T45 y413 x21_1).f4, (rd_T45 y413 x21_1).f5⟩ : S45)) := ⟨_, rfl⟩
             replace H : (impl_BookOfTerm.l0 k1 y422 l0 (l0.length : Int) (wrap64 (x21_1 + 1))) = some (r1, r2) := by first | (rw [hy422]; with_reducible exact H) | (have H2_ := (Option.bind_some _ _).symm.trans H; rw [hy422]; with_reducible exact H2_) | (have H2_ := (Option.bind_some _ _).symm.trans H; with_reducible exact H2_) | with_reducible exact H | (rw [hy422]; exact H) | exact H
             have Ny422 := Aside0.mk hy422
             clear hy422
             have H' := Aside0.mk H
             clear H
             have p410 : 0 ≤ (x21_1 : Int) := of_decide_eq_true (by first | (with_reducible assumption) | assumption)
             have q410 : x21_1 < (l0.length : Int) := of_decide_eq_true (by first | (with_reducible assumption) | assumption)
             obtain ⟨ad410, e410, hx410_0, hx410_1, hx410_2, hx410_3, hx410_4⟩ := at_T83 HR0.out x21_1 p410 q410
             cases e410
             replace hx410_0 := (HB.out.cell (World.block_lt_of_cell? w _ hx410_0)).trans hx410_0
             replace hx410_1 := (HB.out.cell (World.block_lt_of_cell? w _ hx410_1)).trans hx410_1
             replace hx410_2 := (HB.out.cell (World.block_lt_of_cell? w _ hx410_2)).trans hx410_2
             replace hx410_3 := (HB.out.cell (World.block_lt_of_cell? w _ hx410_3)).trans hx410_3
             replace hx410_4 := (HB.out.cell (World.block_lt_of_cell? w _ hx410_4)).trans hx410_4
             replace p410 := eq_true p410
             replace q410 := eq_true q410
             try go_wp2_with (first | ((with_reducible refine gate_dst (N := 6) rfl ?_); refine box_event ?hg (N := 6) ?hd (cs := #[.int .i8 0, .int .i16 0, .int .i16 0, .int .i64 0, .int .i64 0]) (t := 83) ?hr ?_; (case hd => rfl); (case hg => rfl); (case hr => first | (go_simp; done) | (go_simp; rfl)); intro gb411 hg w51 hbox hb; have n0_ := Aside0.mk (Kd.R_below (by (with_reducible repeat (first | apply Kd.R_alloc | apply Kd.R_drewN | apply Kd.R_drew)); exact HO_4.out) hb); have n1_ := Aside0.mk (below_step (by repeat (first | (with_reducible first | exact HB.out | apply below_alloc | apply pw_below_drewN | apply below_drew1) | exact HB.out)) hb); have n2_ := Aside0.mk (hbox); have n3_ := Aside0.mk ((by rw [hg]; exact (below_size (by repeat (first | (with_reducible first | exact HB.out | apply below_alloc | apply pw_below_drewN | apply below_drew1) | exact HB.out))) : w.heap.size ≤ gb411)); have n4_ := Aside0.mk ((by rw [hg]; exact (below_size (by repeat (first | (with_reducible first | exact HB.out | apply below_alloc | apply pw_below_drewN | apply below_drew1) | exact HB.out))) : w.heap.size ≤ gb411)); clear HO_4; clear HB; have HO_4 := n0_; have HB := n1_; have BK411 := n2_; have GW411 := n3_; have GE411 := n4_; clear n0_ n1_ n2_ n3_ n4_; clear hb hbox hg; have hcz52_0 : w51.cell? ⟨gb411, 0, none⟩ = some (.int .i8 0) := (blk_cell BK411.out 0).trans rfl; have hcz52_1 : w51.cell? ⟨gb411, 1, none⟩ = some (.int .i16 0) := (blk_cell BK411.out 1).trans rfl; have hcz52_2 : w51.cell? ⟨gb411, 2, none⟩ = some (.int .i16 0) := (blk_cell BK411.out 2).trans rfl; have hcz52_3 : w51.cell? ⟨gb411, 3, none⟩ = some (.int .i64 0) := (blk_cell BK411.out 3).trans rfl; have hcz52_4 : w51.cell? ⟨gb411, 4, none⟩ = some (.int .i64 0) := (blk_cell BK411.out 4).trans rfl; have hfz52_0 := blk_frozen BK411.out 0; have hfz52_1 := blk_frozen BK411.out 1; have hfz52_2 := blk_frozen BK411.out 2; have hfz52_3 := blk_frozen BK411.out 3; have hfz52_4 := blk_frozen BK411.out 4))
             have n0_ : Aside0 (Kd.R k45 45 (((((w51.setCell ⟨gb411, 0, none⟩ (.int .i8 ((rd_T83 l0 x21_1).f0))).setCell ⟨gb411, 1, none⟩ (.int .i16 ((rd_T83 l0 x21_1).f1))).setCell ⟨gb411, 2, none⟩ (.int .i16 ((rd_T83 l0 x21_1).f2))).setCell ⟨gb411, 3, none⟩ (.int .i64 ((rd_T83 l0 x21_1).f3))).setCell ⟨gb411, 4, none⟩ (.int .i64 ((rd_T83 l0 x21_1).f4))) w.heap.size (fun _ => True) v408 x4_1) := ⟨by (with_reducible repeat (first | apply Kd.R_alloc | apply Kd.R_drewN | apply Kd.R_drew)); exact Kd.R_mono (Kd.R_far (p := ⟨gb411, 4, none⟩) (Kd.R_far (p := ⟨gb411, 3, none⟩) (Kd.R_far (p := ⟨gb411, 2, none⟩) (Kd.R_far (p := ⟨gb411, 1, none⟩) (Kd.R_far (p := ⟨gb411, 0, none⟩) (Kd.R_types HO_4.out BK411.out (by decide)) (fun _ hk => hk.2) (.int .i8 ((rd_T83 l0 x21_1).f0))) (fun _ hk => hk.2) (.int .i16 ((rd_T83 l0 x21_1).f1))) (fun _ hk => hk.2) (.int .i16 ((rd_T83 l0 x21_1).f2))) (fun _ hk => hk.2) (.int .i64 ((rd_T83 l0 x21_1).f3))) (fun _ hk => hk.2) (.int .i64 ((rd_T83 l0 x21_1).f4))) (fun _ hk => trivial)⟩
             have n1_ : Aside0 ((((((w51.setCell ⟨gb411, 0, none⟩ (.int .i8 ((rd_T83 l0 x21_1).f0))).setCell ⟨gb411, 1, none⟩ (.int .i16 ((rd_T83 l0 x21_1).f1))).setCell ⟨gb411, 2, none⟩ (.int .i16 ((rd_T83 l0 x21_1).f2))).setCell ⟨gb411, 3, none⟩ (.int .i64 ((rd_T83 l0 x21_1).f3))).setCell ⟨gb411, 4, none⟩ (.int .i64 ((rd_T83 l0 x21_1).f4))).heap[gb411]? = some (.cells #[.int .i8 ((rd_T83 l0 x21_1).f0), .int .i16 ((rd_T83 l0 x21_1).f1), .int .i16 ((rd_T83 l0 x21_1).f2), .int .i64 ((rd_T83 l0 x21_1).f3), .int .i64 ((rd_T83 l0 x21_1).f4)] 83 (0, 0))) := ⟨by (with_reducible repeat (first | refine blk_drewN ?_ _ | refine blk_drew ?_ | refine blk_alloc ?_ _)); refine blk_put (cs := #[.int .i8 ((rd_T83 l0 x21_1).f0), .int .i16 ((rd_T83 l0 x21_1).f1), .int .i16 ((rd_T83 l0 x21_1).f2), .int .i64 ((rd_T83 l0 x21_1).f3), .int .i64 0]) ?_ 4 _ rfl; (with_reducible repeat (first | refine blk_drewN ?_ _ | refine blk_drew ?_ | refine blk_alloc ?_ _)); refine blk_put (cs := #[.int .i8 ((rd_T83 l0 x21_1).f0), .int .i16 ((rd_T83 l0 x21_1).f1), .int .i16 ((rd_T83 l0 x21_1).f2), .int .i64 0, .int .i64 0]) ?_ 3 _ rfl; (with_reducible repeat (first | refine blk_drewN ?_ _ | refine blk_drew ?_ | refine blk_alloc ?_ _)); refine blk_put (cs := #[.int .i8 ((rd_T83 l0 x21_1).f0), .int .i16 ((rd_T83 l0 x21_1).f1), .int .i16 0, .int .i64 0, .int .i64 0]) ?_ 2 _ rfl; (with_reducible repeat (first | refine blk_drewN ?_ _ | refine blk_drew ?_ | refine blk_alloc ?_ _)); refine blk_put (cs := #[.int .i8 ((rd_T83 l0 x21_1).f0), .int .i16 0, .int .i16 0, .int .i64 0, .int .i64 0]) ?_ 1 _ rfl; (with_reducible repeat (first | refine blk_drewN ?_ _ | refine blk_drew ?_ | refine blk_alloc ?_ _)); refine blk_put (cs := #[.int .i8 0, .int .i16 0, .int .i16 0, .int .i64 0, .int .i64 0]) ?_ 0 _ rfl; (with_reducible repeat (first | refine blk_drewN ?_ _ | refine blk_drew ?_ | refine blk_alloc ?_ _)); exact BK411.out⟩
             have n2_ : Aside0 (Below w.heap.size w (((((w51.setCell ⟨gb411, 0, none⟩ (.int .i8 ((rd_T83 l0 x21_1).f0))).setCell ⟨gb411, 1, none⟩ (.int .i16 ((rd_T83 l0 x21_1).f1))).setCell ⟨gb411, 2, none⟩ (.int .i16 ((rd_T83 l0 x21_1).f2))).setCell ⟨gb411, 3, none⟩ (.int .i64 ((rd_T83 l0 x21_1).f3))).setCell ⟨gb411, 4, none⟩ (.int .i64 ((rd_T83 l0 x21_1).f4)))) := ⟨by repeat (first | (with_reducible first | exact HB.out | apply below_alloc | apply pw_below_drewN | apply below_drew1 | refine below_set ?_ GE411.out) | exact HB.out)⟩
             (try clear HO_4)
             (try clear BK411)
             (try clear HB)
             generalize (((((w51.setCell ⟨gb411, 0, none⟩ (.int .i8 ((rd_T83 l0 x21_1).f0))).setCell ⟨gb411, 1, none⟩ (.int .i16 ((rd_T83 l0 x21_1).f1))).setCell ⟨gb411, 2, none⟩ (.int .i16 ((rd_T83 l0 x21_1).f2))).setCell ⟨gb411, 3, none⟩ (.int .i64 ((rd_T83 l0 x21_1).f3))).setCell ⟨gb411, 4, none⟩ (.int .i64 ((rd_T83 l0 x21_1).f4))) = w53 at n0_ n1_ n2_ ⊢
             have HO_4 := n0_
             have BK411 := n1_
             have HB := n2_
             clear n0_ n1_ n2_
             have n0_ := Aside0.mk (Kd.R_drew HO_4.out)
             have n1_ := Aside0.mk (blk_drew BK411.out)
             have n2_ := Aside0.mk (below_drew1 HB.out)
             clear HO_4
             clear BK411
             clear HB
             have HO_4 := n0_
             have BK411 := n1_
             have HB := n2_
             clear n0_ n1_ n2_
             refine start_ (n := 14) (S := fun w' => w'.cell? ⟨gb411, 0, none⟩ = some (.int .i8 ((rd_T83 l0 x21_1).f0)) ∧ w'.cell? ⟨gb411, 1, none⟩ = some (.int .i16 ((rd_T83 l0 x21_1).f1)) ∧ w'.cell? ⟨gb411, 2, none⟩ = some (.int .i16 ((rd_T83 l0 x21_1).f2)) ∧ w'.cell? ⟨gb411, 3, none⟩ = some (.int .i64 ((rd_T83 l0 x21_1).f3)) ∧ w'.cell? ⟨gb411, 4, none⟩ = some (.int .i64 ((rd_T83 l0 x21_1).f4))) (ds := [13]) #[false, false, false, false, false, false, false, false, false, false, false, false, false, false] (by kernel_rfl) rfl rfl ⟨(blk_cell BK411.out 0).trans rfl, (blk_cell BK411.out 1).trans rfl, (blk_cell BK411.out 2).trans rfl, (blk_cell BK411.out 3).trans rfl, (blk_cell BK411.out 4).trans rfl⟩ (fun hHeld => ?_); refine with_tabW impl_BookOfTerm.tab9 impl_BookOfTerm.bits9 (fun HT_ HW_ => ?_)
             generalize w53.drew = w54 at HO_4 BK411 HB hHeld ⊢
             refine pure_ (i := 0) (N := some 26) (v := ?_) (a' := ?_) #[true, false, false, false, false, false, false, false, false, false, false, false, false, false] rfl rfl (any_of HT_.out (by kernel_rfl)) (fun _ _ _ h => h) (Or.inl ⟨by rfl, ?_⟩) ?_ ?_
             rotate_left
             ·
              intro w'
              go_simp
              with_reducible rfl
             rotate_left
             ·
              simp only [Act.put, List.setIfInBounds_toArray, List.set_cons_zero, List.set_cons_succ, i64_w, i32_w]
              rfl
             refine pure_ (i := 1) (N := some 27) (v := ?_) (a' := ?_) #[true, true, false, false, false, false, false, false, false, false, false, false, false, false] rfl rfl (any_of HT_.out (by kernel_rfl)) (fun _ _ _ h => h) (Or.inl ⟨by rfl, ?_⟩) ?_ ?_
             rotate_left
             ·
              intro w'
              go_simp
              with_reducible rfl
             rotate_left
             ·
              simp only [Act.put, List.setIfInBounds_toArray, List.set_cons_zero, List.set_cons_succ, i64_w, i32_w]
              rfl
             refine pure_ (i := 2) (N := some 28) (v := ?_) (a' := ?_) #[true, true, true, false, false, false, false, false, false, false, false, false, false, false] rfl rfl (any_of HT_.out (by kernel_rfl)) (fun _ _ _ h => h) (Or.inl ⟨by rfl, ?_⟩) ?_ ?_
             rotate_left
             ·
              intro w'
              go_simp
              with_reducible rfl
             rotate_left
             ·
              simp only [Act.put, List.setIfInBounds_toArray, List.set_cons_zero, List.set_cons_succ, i64_w, i32_w]
              rfl
             refine pure_ (i := 3) (N := some 29) (v := ?_) (a' := ?_) #[true, true, true, true, false, false, false, false, false, false, false, false, false, false] rfl rfl (any_of HT_.out (by kernel_rfl)) (fun _ _ _ h => h) (Or.inl ⟨by rfl, ?_⟩) ?_ ?_
             rotate_left
             ·
              intro w'
              go_simp
              with_reducible rfl
             rotate_left
             ·
              simp only [Act.put, List.setIfInBounds_toArray, List.set_cons_zero, List.set_cons_succ, i64_w, i32_w]
              rfl
             refine pure_ (i := 5) (N := some 31) (v := ?_) (a' := ?_) #[true, true, true, true, false, true, false, false, false, false, false, false, false, false] rfl rfl (any_of HT_.out (by kernel_rfl)) (fun _ _ _ h => h) (Or.inl ⟨by rfl, ?_⟩) ?_ ?_
             rotate_left
             ·
              intro w'
              go_simp
              with_reducible rfl
             rotate_left
             ·
              simp only [Act.put, List.setIfInBounds_toArray, List.set_cons_zero, List.set_cons_succ, i64_w, i32_w]
              rfl
             refine pure_ (i := 7) (N := some 33) (v := ?_) (a' := ?_) #[true, true, true, true, false, true, false, true, false, false, false, false, false, false] rfl rfl (any_of HT_.out (by kernel_rfl)) (fun _ _ _ h => h) (Or.inl ⟨by rfl, ?_⟩) ?_ ?_
             rotate_left
             ·
              intro w'
              go_simp
              with_reducible rfl
             rotate_left
             ·
              simp only [Act.put, List.setIfInBounds_toArray, List.set_cons_zero, List.set_cons_succ, i64_w, i32_w]
              rfl
             refine pure_ (i := 9) (N := some 35) (v := ?_) (a' := ?_) #[true, true, true, true, false, true, false, true, false, true, false, false, false, false] rfl rfl (any_of HT_.out (by kernel_rfl)) (fun _ _ _ h => h) (Or.inl ⟨by rfl, ?_⟩) ?_ ?_
             rotate_left
             ·
              intro w'
              go_simp
              with_reducible rfl
             rotate_left
             ·
              simp only [Act.put, List.setIfInBounds_toArray, List.set_cons_zero, List.set_cons_succ, i64_w, i32_w]
              rfl
             refine take_ (i := 6) (N := some 32) (v := ?_) (a' := ?_) #[true, true, true, true, false, true, true, true, false, true, false, false, false, false] rfl rfl (take_ofW HT_.out HW_.out (by kernel_rfl)) (fun _ _ _ h => h) (Or.inl ⟨by rfl, ?_⟩) hHeld ?_ ?_
             rotate_left
             ·
              rintro w' ⟨s0, s1, s2, s3, s4⟩
              go_simp
              with_reducible rfl
             rotate_left
             ·
              simp only [Act.put, List.setIfInBounds_toArray, List.set_cons_zero, List.set_cons_succ, i64_w, i32_w]
              rfl
             refine take_ (i := 8) (N := some 34) (v := ?_) (a' := ?_) #[true, true, true, true, false, true, true, true, true, true, false, false, false, false] rfl rfl (take_ofW HT_.out HW_.out (by kernel_rfl)) (fun _ _ _ h => h) (Or.inl ⟨by rfl, ?_⟩) hHeld ?_ ?_
             rotate_left
             ·
              rintro w' ⟨s0, s1, s2, s3, s4⟩
              go_simp
              with_reducible rfl
             rotate_left
             ·
              simp only [Act.put, List.setIfInBounds_toArray, List.set_cons_zero, List.set_cons_succ, i64_w, i32_w]
              rfl
             refine take_ (i := 10) (N := some 36) (v := ?_) (a' := ?_) #[true, true, true, true, false, true, true, true, true, true, true, false, false, false] rfl rfl (take_ofW HT_.out HW_.out (by kernel_rfl)) (fun _ _ _ h => h) (Or.inl ⟨by rfl, ?_⟩) hHeld ?_ ?_
             rotate_left
             ·
              rintro w' ⟨s0, s1, s2, s3, s4⟩
              go_simp
              with_reducible rfl
             rotate_left
             ·
              simp only [Act.put, List.setIfInBounds_toArray, List.set_cons_zero, List.set_cons_succ, i64_w, i32_w]
              rfl
             refine one_ (i := 4) (N := some 30) #[true, true, true, true, true, true, true, true, true, true, true, false, false, false] rfl rfl (one_of HT_.out (by kernel_rfl)) (by decide) (fun K hK => ?_)
             refine goes_ Try.func73 (by kernel_rfl) rfl #[.int .i16 (IntKind.i16.wrap (x21_1))] (by rfl) rfl rfl (by (try simp only [List.map_toArray, List.map_cons, List.map_nil]); first | done | rfl | (simp only [List.length_drop, List.length_take]; rfl)) ?_
             with_reducible refine (impl_letter.calls (IntKind.i16.wrap (x21_1)) t412 _ A14.out).mono ?_
             rintro e w55 ⟨rfl, hb⟩
             refine ⟨_, rfl, ?_⟩
             have n0_ := Aside0.mk (Kd.R_below (by (with_reducible repeat (first | apply Kd.R_alloc | apply Kd.R_drewN | apply Kd.R_drew)); exact HO_4.out) hb)
             have n1_ := Aside0.mk (blk_below (g := gb411) (o := .cells #[.int .i8 ((rd_T83 l0 x21_1).f0), .int .i16 ((rd_T83 l0 x21_1).f1), .int .i16 ((rd_T83 l0 x21_1).f2), .int .i64 ((rd_T83 l0 x21_1).f3), .int .i64 ((rd_T83 l0 x21_1).f4)] 83 (0, 0)) (by (with_reducible repeat (first | refine blk_drewN ?_ _ | refine blk_drew ?_ | refine blk_alloc ?_ _)); exact BK411.out) hb)
             have n2_ := Aside0.mk (below_step (by repeat (first | (with_reducible first | exact HB.out | apply below_alloc | apply pw_below_drewN | apply below_drew1 | refine below_set ?_ GE411.out) | exact HB.out)) hb)
             clear HO_4
             clear BK411
             clear HB
             have HO_4 := n0_
             have BK411 := n1_
             have HB := n2_
             clear n0_ n1_ n2_
             (try clear hb)
             (try clear hb2)
             (try clear hk)
             (try clear hi)
             have p16 : 0 ≤ (x21_1 : Int) := of_decide_eq_true (by first | (with_reducible assumption) | assumption)
             have q16 : (x21_1 : Int) < ((x4_1.length : Int) : Int) := of_decide_eq_true (by first | (with_reducible assumption) | assumption)
             obtain ⟨go16, co16, eo16, gb16, gl16, cl16, HG16⟩ := Kd.R_form HO_4.out (by omega)
             (first | cases eo16 | (injection eo16 with ea_ en_ ec_; (first | subst ea_ | (injection ea_ with ea_; subst ea_)); subst ec_; clear en_))
             have GB16 := Aside0.mk gb16
             have GG16 := Aside0.mk HG16
             clear gb16 gl16 HG16
             obtain ⟨ce16, hcl16, hM16, hcc16, hfr16⟩ := Kd.R_elem HO_4.out z45 (x21_1 : Int) p16 q16
             obtain rfl := k45_openM hM16
             have hx16_0 : World.cell? _ ⟨go16, (x21_1 : Int).toNat * 6, none⟩ = some (.string ((rd_T45 x4_1 x21_1).f0)) := hcc16 0 _ rfl
             have hx16_1 : World.cell? _ ⟨go16, (x21_1 : Int).toNat * 6 + 1, none⟩ = some (.int .i8 ((rd_T45 x4_1 x21_1).f1)) := hcc16 1 _ rfl
             have hx16_2 : World.cell? _ ⟨go16, (x21_1 : Int).toNat * 6 + 2, none⟩ = some (.string ((rd_T45 x4_1 x21_1).f2)) := hcc16 2 _ rfl
             have hx16_3 : World.cell? _ ⟨go16, (x21_1 : Int).toNat * 6 + 3, none⟩ = some (.string ((rd_T45 x4_1 x21_1).f3)) := hcc16 3 _ rfl
             have hx16_4 : World.cell? _ ⟨go16, (x21_1 : Int).toNat * 6 + 4, none⟩ = some (.int .i64 ((rd_T45 x4_1 x21_1).f4)) := hcc16 4 _ rfl
             have hx16_5 : World.cell? _ ⟨go16, (x21_1 : Int).toNat * 6 + 5, none⟩ = some (.int .i64 ((rd_T45 x4_1 x21_1).f5)) := hcc16 5 _ rfl
             have hf16_0 : World.frozen? _ ⟨go16, (x21_1 : Int).toNat * 6, none⟩ = false := hfr16 0
             have hf16_1 : World.frozen? _ ⟨go16, (x21_1 : Int).toNat * 6 + 1, none⟩ = false := hfr16 1
             have hf16_2 : World.frozen? _ ⟨go16, (x21_1 : Int).toNat * 6 + 2, none⟩ = false := hfr16 2
             have hf16_3 : World.frozen? _ ⟨go16, (x21_1 : Int).toNat * 6 + 3, none⟩ = false := hfr16 3
             have hf16_4 : World.frozen? _ ⟨go16, (x21_1 : Int).toNat * 6 + 4, none⟩ = false := hfr16 4
             have hf16_5 : World.frozen? _ ⟨go16, (x21_1 : Int).toNat * 6 + 5, none⟩ = false := hfr16 5
             clear hcl16 hcc16 hfr16 hM16
             replace p16 := eq_true p16
             replace q16 := eq_true q16
             obtain ⟨ce56, hcl56, hM56, hcc56, hfr56⟩ := Kd.R_elem HO_4.out z45 (x21_1 : Int) (of_decide_eq_true (by first | (with_reducible assumption) | assumption)) (by have h_ : (x21_1 : Int) < ((x4_1.length : Int) : Int) := of_decide_eq_true (by first | (with_reducible assumption) | assumption); first | exact h_ | (have e_ := (Kd.R_reads' HO_4.out).1; omega) | simpa using h_)
             obtain rfl := k45_openM hM56
             have HP56 := (Kd.R_seg HO_4.out (x21_1 : Int) (of_decide_eq_true (by first | (with_reducible assumption) | assumption)) (by have h_ : (x21_1 : Int) < ((x4_1.length : Int) : Int) := of_decide_eq_true (by first | (with_reducible assumption) | assumption); first | exact h_ | (have e_ := (Kd.R_reads' HO_4.out).1; omega) | simpa using h_) (seg := [.string t412, .int .i8 ((rd_T83 l0 x21_1).f0), .string (⟨#[]⟩ : ByteArray), .string (⟨#[]⟩ : ByteArray), .int .i64 ((rd_T83 l0 x21_1).f3), .int .i64 ((rd_T83 l0 x21_1).f4)]) (j := 0) hcl56 hcc56 (show 6 ≤ 6 from by decide) (x' := (⟨t412, (rd_T83 l0 x21_1).f0, (⟨#[]⟩ : ByteArray), (⟨#[]⟩ : ByteArray), (rd_T83 l0 x21_1).f3, (rd_T83 l0 x21_1).f4⟩ : S45)) (k45_mkM _ _ _ (⟨t412, (rd_T83 l0 x21_1).f0, (⟨#[]⟩ : ByteArray), (⟨#[]⟩ : ByteArray), (rd_T83 l0 x21_1).f3, (rd_T83 l0 x21_1).f4⟩ : S45) ) (fun _ hk => hk)).1
             rw [← Ny413.out] at HP56
             have HQ56 := Aside0.mk HP56
             clear hcl56 hcc56 hfr56 hM56 HP56
             refine hK.out _ _ ⟨(blk_cell BK411.out 0).trans rfl, (blk_cell BK411.out 1).trans rfl, (blk_cell BK411.out 2).trans rfl, (blk_cell BK411.out 3).trans rfl, (blk_cell BK411.out 4).trans rfl⟩ (fun hHeld => ?_)
             clear hK K
             refine norm_ (a' := ?_) ?_ ?_
             rotate_left
             ·
              show Act.put _ (some 30) _ = _
              simp only [Act.put, List.setIfInBounds_toArray, List.set_cons_zero, List.set_cons_succ, i64_w, i32_w]
              rfl
             refine pure_ (i := 11) (N := some 37) (v := ?_) (a' := ?_) #[true, true, true, true, true, true, true, true, true, true, true, true, false, false] rfl rfl (any_of HT_.out (by kernel_rfl)) (fun _ _ _ h => h) (Or.inl ⟨by rfl, ?_⟩) ?_ ?_
             rotate_left
             ·
              intro w'
              go_simp
              with_reducible rfl
             rotate_left
             ·
              simp only [Act.put, List.setIfInBounds_toArray, List.set_cons_zero, List.set_cons_succ, i64_w, i32_w]
              rfl
             refine pure_ (i := 12) (N := some 38) (v := ?_) (a' := ?_) #[true, true, true, true, true, true, true, true, true, true, true, true, true, false] rfl rfl (any_of HT_.out (by kernel_rfl)) (fun _ _ _ h => h) (Or.inl ⟨by rfl, ?_⟩) ?_ ?_
             rotate_left
             ·
              intro w'
              go_simp
              with_reducible rfl
             rotate_left
             ·
              simp only [Act.put, List.setIfInBounds_toArray, List.set_cons_zero, List.set_cons_succ, i64_w, i32_w]
              rfl
             refine last_ (i := 13) (N := none) #[true, true, true, true, true, true, true, true, true, true, true, true, true, true] rfl rfl (one_of HT_.out (by kernel_rfl)) (by decide) (fun K hK => ?_)
             refine skip_ (w1 := ?_) (by rfl) rfl ?_ ?_
             rotate_left
             ·
              go_simp
              rfl
             refine hK.out _ _ ?_
             clear hK K
             refine done_ (done_of HT_.out (by kernel_rfl)) ?_
             have hcz57_0 : w55.cell? ⟨gb411, 0, none⟩ = some (.int .i8 ((rd_T83 l0 x21_1).f0)) := (blk_cell BK411.out 0).trans rfl
             have hcz57_1 : w55.cell? ⟨gb411, 1, none⟩ = some (.int .i16 ((rd_T83 l0 x21_1).f1)) := (blk_cell BK411.out 1).trans rfl
             have hcz57_2 : w55.cell? ⟨gb411, 2, none⟩ = some (.int .i16 ((rd_T83 l0 x21_1).f2)) := (blk_cell BK411.out 2).trans rfl
             have hcz57_3 : w55.cell? ⟨gb411, 3, none⟩ = some (.int .i64 ((rd_T83 l0 x21_1).f3)) := (blk_cell BK411.out 3).trans rfl
             have hcz57_4 : w55.cell? ⟨gb411, 4, none⟩ = some (.int .i64 ((rd_T83 l0 x21_1).f4)) := (blk_cell BK411.out 4).trans rfl
             have hfz57_0 := blk_frozen BK411.out 0
             have hfz57_1 := blk_frozen BK411.out 1
             have hfz57_2 := blk_frozen BK411.out 2
             have hfz57_3 := blk_frozen BK411.out 3
             have hfz57_4 := blk_frozen BK411.out 4
             replace HQ56 := HQ56.out
             simp only [World.setCells, show (k45).sz = 6 from rfl, Nat.add_zero, Nat.add_assoc, Nat.reduceAdd] at HQ56
             replace HQ56 := Aside0.mk HQ56
             generalize hW_ : World.setCell _ _ _ = wq_ at HQ56 ⊢
             have nB_ : Aside0 (wq_.heap[gb411]? = some (.cells #[.int .i8 ((rd_T83 l0 x21_1).f0), .int .i16 ((rd_T83 l0 x21_1).f1), .int .i16 ((rd_T83 l0 x21_1).f2), .int .i64 ((rd_T83 l0 x21_1).f3), .int .i64 ((rd_T83 l0 x21_1).f4)] 83 (0, 0))) := ⟨by rw [← hW_]; refine blk_far ?_ (by have h_ := Kd.R_ne HO_4.out BK411.out (by decide); intro e_; exact h_ (by rw [e_]; rfl)) _; refine blk_far ?_ (by have h_ := Kd.R_ne HO_4.out BK411.out (by decide); intro e_; exact h_ (by rw [e_]; rfl)) _; refine blk_far ?_ (by have h_ := Kd.R_ne HO_4.out BK411.out (by decide); intro e_; exact h_ (by rw [e_]; rfl)) _; refine blk_far ?_ (by have h_ := Kd.R_ne HO_4.out BK411.out (by decide); intro e_; exact h_ (by rw [e_]; rfl)) _; refine blk_far ?_ (by have h_ := Kd.R_ne HO_4.out BK411.out (by decide); intro e_; exact h_ (by rw [e_]; rfl)) _; refine blk_far ?_ (by have h_ := Kd.R_ne HO_4.out BK411.out (by decide); intro e_; exact h_ (by rw [e_]; rfl)) _; exact BK411.out⟩
             have nH_ : Aside0 (Below w.heap.size w wq_) := ⟨by rw [← hW_]; repeat (with_reducible first | exact HB.out | refine below_set ?_ GB16.out)⟩
             clear hW_ HO_4 HB BK411 hcz57_0 hfz57_0 hcz57_1 hfz57_1 hcz57_2 hfz57_2 hcz57_3 hfz57_3 hcz57_4 hfz57_4
             have BK411 := nB_
             have HB := nH_
             clear nB_ nH_
             have hcz57_0 : wq_.cell? ⟨gb411, 0, none⟩ = some (.int .i8 ((rd_T83 l0 x21_1).f0)) := (blk_cell BK411.out 0).trans rfl
             have hcz57_1 : wq_.cell? ⟨gb411, 1, none⟩ = some (.int .i16 ((rd_T83 l0 x21_1).f1)) := (blk_cell BK411.out 1).trans rfl
             have hcz57_2 : wq_.cell? ⟨gb411, 2, none⟩ = some (.int .i16 ((rd_T83 l0 x21_1).f2)) := (blk_cell BK411.out 2).trans rfl
             have hcz57_3 : wq_.cell? ⟨gb411, 3, none⟩ = some (.int .i64 ((rd_T83 l0 x21_1).f3)) := (blk_cell BK411.out 3).trans rfl
             have hcz57_4 : wq_.cell? ⟨gb411, 4, none⟩ = some (.int .i64 ((rd_T83 l0 x21_1).f4)) := (blk_cell BK411.out 4).trans rfl
             have hfz57_0 := blk_frozen BK411.out 0
             have hfz57_1 := blk_frozen BK411.out 1
             have hfz57_2 := blk_frozen BK411.out 2
             have hfz57_3 := blk_frozen BK411.out 3
             have hfz57_4 := blk_frozen BK411.out 4
             try go_wp2_with (first | ((with_reducible refine gate_callee (f := 74) rfl ?_); refine goesL_ (some 42) rfl rfl Try.func74 (by kernel_rfl) rfl #[.int .i8 ((rd_T83 l0 x21_1).f0)] rfl (by (try simp only [List.map_toArray, List.map_cons, List.map_nil]); first | done | rfl | (simp only [List.length_drop, List.length_take]; rfl)) ?_; (with_reducible refine (impl_uses.calls k1 ((rd_T83 l0 x21_1).f0) false true t416 _ A17.out).mono ?_); rintro e w' ⟨rfl, ⟨nd, rfl⟩⟩; refine ⟨_, rfl, ?_⟩) | ((with_reducible refine gate_callee (f := 73) rfl ?_); refine goesL_ (some 59) rfl rfl Try.func73 (by kernel_rfl) rfl #[.int .i16 ((rd_T83 l0 x21_1).f2)] rfl (by (try simp only [List.map_toArray, List.map_cons, List.map_nil]); first | done | rfl | (simp only [List.length_drop, List.length_take]; rfl)) ?_; (with_reducible refine (impl_letter.calls ((rd_T83 l0 x21_1).f2) t421 _ A49.out).mono ?_); rintro e w58 ⟨rfl, hb⟩; refine ⟨_, rfl, ?_⟩; have n0_ := Aside0.mk (Kd.R_below (by (with_reducible repeat (first | apply Kd.R_alloc | apply Kd.R_drewN | apply Kd.R_drew)); exact HQ56.out) hb); have n1_ := Aside0.mk (blk_below (g := gb411) (o := .cells #[.int .i8 ((rd_T83 l0 x21_1).f0), .int .i16 ((rd_T83 l0 x21_1).f1), .int .i16 ((rd_T83 l0 x21_1).f2), .int .i64 ((rd_T83 l0 x21_1).f3), .int .i64 ((rd_T83 l0 x21_1).f4)] 83 (0, 0)) (by (with_reducible repeat (first | refine blk_drewN ?_ _ | refine blk_drew ?_ | refine blk_alloc ?_ _)); (with_reducible repeat (first | refine blk_drewN ?_ _ | refine blk_drew ?_ | refine blk_alloc ?_ _)); (with_reducible repeat (first | refine blk_drewN ?_ _ | refine blk_drew ?_ | refine blk_alloc ?_ _)); (with_reducible repeat (first | refine blk_drewN ?_ _ | refine blk_drew ?_ | refine blk_alloc ?_ _)); (with_reducible repeat (first | refine blk_drewN ?_ _ | refine blk_drew ?_ | refine blk_alloc ?_ _)); (with_reducible repeat (first | refine blk_drewN ?_ _ | refine blk_drew ?_ | refine blk_alloc ?_ _)); (with_reducible repeat (first | refine blk_drewN ?_ _ | refine blk_drew ?_ | refine blk_alloc ?_ _)); exact BK411.out) hb); have n2_ := Aside0.mk (below_step (by repeat (first | (with_reducible first | exact HB.out | apply below_alloc | apply pw_below_drewN | apply below_drew1 | refine below_set ?_ GB16.out | refine below_set ?_ GB16.out | refine below_set ?_ GB16.out | refine below_set ?_ GB16.out | refine below_set ?_ GB16.out | refine below_set ?_ GB16.out | refine below_set ?_ GE411.out) | exact HB.out)) hb); clear BK411; clear HB; have HO_4 := n0_; have BK411 := n1_; have HB := n2_; clear n0_ n1_ n2_; (try clear hb); (try clear hb2); (try clear hk); (try clear hi); have p50 : 0 ≤ (x21_1 : Int) := of_decide_eq_true (by first | (with_reducible assumption) | assumption); have q50 : (x21_1 : Int) < ((x4_1.length : Int) : Int) := of_decide_eq_true (by first | (with_reducible assumption) | assumption); obtain ⟨ce50, hcl50, hM50, hcc50, hfr50⟩ := Kd.R_elem HO_4.out z45 (x21_1 : Int) p50 q50; obtain rfl := k45_openM hM50; have hx50_0 : w58.cell? ⟨go16, (x21_1 : Int).toNat * 6, none⟩ = some (.string ((rd_T45 y413 x21_1).f0)) := hcc50 0 _ rfl; have hx50_1 : w58.cell? ⟨go16, (x21_1 : Int).toNat * 6 + 1, none⟩ = some (.int .i8 ((rd_T45 y413 x21_1).f1)) := hcc50 1 _ rfl; have hx50_2 : w58.cell? ⟨go16, (x21_1 : Int).toNat * 6 + 2, none⟩ = some (.string ((rd_T45 y413 x21_1).f2)) := hcc50 2 _ rfl; have hx50_3 : w58.cell? ⟨go16, (x21_1 : Int).toNat * 6 + 3, none⟩ = some (.string ((rd_T45 y413 x21_1).f3)) := hcc50 3 _ rfl; have hx50_4 : w58.cell? ⟨go16, (x21_1 : Int).toNat * 6 + 4, none⟩ = some (.int .i64 ((rd_T45 y413 x21_1).f4)) := hcc50 4 _ rfl; have hx50_5 : w58.cell? ⟨go16, (x21_1 : Int).toNat * 6 + 5, none⟩ = some (.int .i64 ((rd_T45 y413 x21_1).f5)) := hcc50 5 _ rfl; have hf50_0 : w58.frozen? ⟨go16, (x21_1 : Int).toNat * 6, none⟩ = false := hfr50 0; have hf50_1 : w58.frozen? ⟨go16, (x21_1 : Int).toNat * 6 + 1, none⟩ = false := hfr50 1; have hf50_2 : w58.frozen? ⟨go16, (x21_1 : Int).toNat * 6 + 2, none⟩ = false := hfr50 2; have hf50_3 : w58.frozen? ⟨go16, (x21_1 : Int).toNat * 6 + 3, none⟩ = false := hfr50 3; have hf50_4 : w58.frozen? ⟨go16, (x21_1 : Int).toNat * 6 + 4, none⟩ = false := hfr50 4; have hf50_5 : w58.frozen? ⟨go16, (x21_1 : Int).toNat * 6 + 5, none⟩ = false := hfr50 5; clear hcl50 hcc50 hfr50 hM50; replace p50 := eq_true p50; replace q50 := eq_true q50; have HX59 := Aside0.mk (show Kd.R k45 45 w58 w.heap.size (fun _ => True) (.slice (some ⟨go16, 0, none⟩) x4_1.length co16) y413 from (by (with_reducible repeat (first | apply Kd.R_alloc | apply Kd.R_drewN | apply Kd.R_drew)); exact HO_4.out)); obtain ⟨ce59, hcl59, hM59, hcc59, hfr59⟩ := Kd.R_elem HX59.out z45 (x21_1 : Int) (of_decide_eq_true (by first | (with_reducible assumption) | assumption)) (by have h_ : (x21_1 : Int) < ((x4_1.length : Int) : Int) := of_decide_eq_true (by first | (with_reducible assumption) | assumption); first | exact h_ | (have e_ := (Kd.R_reads' HO_4.out).1; omega) | simpa using h_); obtain rfl := k45_openM hM59; have HP59 := Kd.R_seg HX59.out (x21_1 : Int) (of_decide_eq_true (by first | (with_reducible assumption) | assumption)) (by have h_ : (x21_1 : Int) < ((x4_1.length : Int) : Int) := of_decide_eq_true (by first | (with_reducible assumption) | assumption); first | exact h_ | (have e_ := (Kd.R_reads' HO_4.out).1; omega) | simpa using h_) (seg := [.string t421]) (j := 3) hcl59 hcc59 (show 4 ≤ 6 from by decide) (x' := (⟨(rd_T45 y413 x21_1).f0, (rd_T45 y413 x21_1).f1, (rd_T45 y413 x21_1).f2, t421, (rd_T45 y413 x21_1).f4, (rd_T45 y413 x21_1).f5⟩ : S45)) (k45_mkM _ _ _ (⟨(rd_T45 y413 x21_1).f0, (rd_T45 y413 x21_1).f1, (rd_T45 y413 x21_1).f2, t421, (rd_T45 y413 x21_1).f4, (rd_T45 y413 x21_1).f5⟩ : S45) ) (fun _ hk => hk); have hx59_3 := hcc59 3 _ rfl; (try simp only [show (k45).sz = 6 from rfl, Nat.mul_one, Nat.add_zero] at hx59_3); have hf59_3 := hfr59 3; (try simp only [show (k45).sz = 6 from rfl, Nat.mul_one, Nat.add_zero] at hf59_3); clear hcl59 hcc59 hfr59 hM59) | ((with_reducible refine gate_store (t := 9) (p := 61) rfl ?_); refine store_event (t := 9) (p := 61) (v := ?vo_w60) (w1 := (w58.setCell ⟨go16, (x21_1 : Int).toNat * 6 + 3, none⟩ (.string t421))) ?hg ?ho ?hn ?hr ?_; (case ho => rfl); (case hg => rfl); (case hn => rfl); (case hr => first | (go_simp; done) | (go_simp; rfl)); intro w60 hw; have hg : w58.grownBy w60 (some go16) := (by rw [hw]; exact HP59.2); have hp_ : Kd.R k45 45 w60 w.heap.size (fun _ => True) (.slice (some ⟨go16, 0, none⟩) x4_1.length co16) y422 := (by rw [hw, Ny422.out]; exact HP59.1); clear HP59; have n0_ := Aside0.mk (hp_); have n1_ := Aside0.mk (blk_grown (g := gb411) (o := .cells #[.int .i8 ((rd_T83 l0 x21_1).f0), .int .i16 ((rd_T83 l0 x21_1).f1), .int .i16 ((rd_T83 l0 x21_1).f2), .int .i64 ((rd_T83 l0 x21_1).f3), .int .i64 ((rd_T83 l0 x21_1).f4)] 83 (0, 0)) (by (with_reducible repeat (first | refine blk_drewN ?_ _ | refine blk_drew ?_ | refine blk_alloc ?_ _)); exact BK411.out) hg (Kd.R_ne HO_4.out BK411.out (by decide))); have n2_ := Aside0.mk ((by rw [hw]; exact below_set (HB.out) GB16.out : Below w.heap.size w w60)); clear BK411; clear HB; have HO_4 := n0_; have BK411 := n1_; have HB := n2_; clear n0_ n1_ n2_; clear hg hw hp_))
             go_roundg k1
             case measure => have := HK1.out; omega
             case rel => exact ⟨(y422), (wrap64 (x21_1 + 1)), (by first | rfl | (simp; done) | (simp [*]; done)), H', ⟨by have := HK1.out; omega⟩, ⟨by (with_reducible repeat (first | apply Kd.R_alloc | apply Kd.R_drewN | apply Kd.R_drew)); exact HO_4.out⟩, ⟨by repeat (first | (with_reducible first | exact HB.out | apply below_alloc | apply pw_below_drewN | apply below_drew1 | refine below_set ?_ GE411.out) | exact HB.out)⟩⟩
            ·
             replace c48 := Bool.eq_false_iff.mpr c48
             subst c48
             have H1 : (impl_BookOfTerm.l0 k1 y413 l0 (l0.length : Int) (wrap64 (x21_1 + 1))) = some (r1, r2) := by rw [if_neg (show ¬ (false = true) by decide)] at H; exact H
             clear H
             have H := H1
             clear H1
             have H' := Aside0.mk H
             clear H
             have p410 : 0 ≤ (x21_1 : Int) := of_decide_eq_true (by first | (with_reducible assumption) | assumption)
             have q410 : x21_1 < (l0.length : Int) := of_decide_eq_true (by first | (with_reducible assumption) | assumption)
             obtain ⟨ad410, e410, hx410_0, hx410_1, hx410_2, hx410_3, hx410_4⟩ := at_T83 HR0.out x21_1 p410 q410
             cases e410
             replace hx410_0 := (HB.out.cell (World.block_lt_of_cell? w _ hx410_0)).trans hx410_0
             replace hx410_1 := (HB.out.cell (World.block_lt_of_cell? w _ hx410_1)).trans hx410_1
             replace hx410_2 := (HB.out.cell (World.block_lt_of_cell? w _ hx410_2)).trans hx410_2
             replace hx410_3 := (HB.out.cell (World.block_lt_of_cell? w _ hx410_3)).trans hx410_3
             replace hx410_4 := (HB.out.cell (World.block_lt_of_cell? w _ hx410_4)).trans hx410_4
             replace p410 := eq_true p410
             replace q410 := eq_true q410
             try go_wp2_with (first | ((with_reducible refine gate_dst (N := 6) rfl ?_); refine box_event ?hg (N := 6) ?hd (cs := #[.int .i8 0, .int .i16 0, .int .i16 0, .int .i64 0, .int .i64 0]) (t := 83) ?hr ?_; (case hd => rfl); (case hg => rfl); (case hr => first | (go_simp; done) | (go_simp; rfl)); intro gb411 hg w61 hbox hb; have n0_ := Aside0.mk (Kd.R_below (by (with_reducible repeat (first | apply Kd.R_alloc | apply Kd.R_drewN | apply Kd.R_drew)); exact HO_4.out) hb); have n1_ := Aside0.mk (below_step (by repeat (first | (with_reducible first | exact HB.out | apply below_alloc | apply pw_below_drewN | apply below_drew1) | exact HB.out)) hb); have n2_ := Aside0.mk (hbox); have n3_ := Aside0.mk ((by rw [hg]; exact (below_size (by repeat (first | (with_reducible first | exact HB.out | apply below_alloc | apply pw_below_drewN | apply below_drew1) | exact HB.out))) : w.heap.size ≤ gb411)); have n4_ := Aside0.mk ((by rw [hg]; exact (below_size (by repeat (first | (with_reducible first | exact HB.out | apply below_alloc | apply pw_below_drewN | apply below_drew1) | exact HB.out))) : w.heap.size ≤ gb411)); clear HO_4; clear HB; have HO_4 := n0_; have HB := n1_; have BK411 := n2_; have GW411 := n3_; have GE411 := n4_; clear n0_ n1_ n2_ n3_ n4_; clear hb hbox hg; have hcz62_0 : w61.cell? ⟨gb411, 0, none⟩ = some (.int .i8 0) := (blk_cell BK411.out 0).trans rfl; have hcz62_1 : w61.cell? ⟨gb411, 1, none⟩ = some (.int .i16 0) := (blk_cell BK411.out 1).trans rfl; have hcz62_2 : w61.cell? ⟨gb411, 2, none⟩ = some (.int .i16 0) := (blk_cell BK411.out 2).trans rfl; have hcz62_3 : w61.cell? ⟨gb411, 3, none⟩ = some (.int .i64 0) := (blk_cell BK411.out 3).trans rfl; have hcz62_4 : w61.cell? ⟨gb411, 4, none⟩ = some (.int .i64 0) := (blk_cell BK411.out 4).trans rfl; have hfz62_0 := blk_frozen BK411.out 0; have hfz62_1 := blk_frozen BK411.out 1; have hfz62_2 := blk_frozen BK411.out 2; have hfz62_3 := blk_frozen BK411.out 3; have hfz62_4 := blk_frozen BK411.out 4))
             have n0_ : Aside0 (Kd.R k45 45 (((((w61.setCell ⟨gb411, 0, none⟩ (.int .i8 ((rd_T83 l0 x21_1).f0))).setCell ⟨gb411, 1, none⟩ (.int .i16 ((rd_T83 l0 x21_1).f1))).setCell ⟨gb411, 2, none⟩ (.int .i16 ((rd_T83 l0 x21_1).f2))).setCell ⟨gb411, 3, none⟩ (.int .i64 ((rd_T83 l0 x21_1).f3))).setCell ⟨gb411, 4, none⟩ (.int .i64 ((rd_T83 l0 x21_1).f4))) w.heap.size (fun _ => True) v408 x4_1) := ⟨by (with_reducible repeat (first | apply Kd.R_alloc | apply Kd.R_drewN | apply Kd.R_drew)); exact Kd.R_mono (Kd.R_far (p := ⟨gb411, 4, none⟩) (Kd.R_far (p := ⟨gb411, 3, none⟩) (Kd.R_far (p := ⟨gb411, 2, none⟩) (Kd.R_far (p := ⟨gb411, 1, none⟩) (Kd.R_far (p := ⟨gb411, 0, none⟩) (Kd.R_types HO_4.out BK411.out (by decide)) (fun _ hk => hk.2) (.int .i8 ((rd_T83 l0 x21_1).f0))) (fun _ hk => hk.2) (.int .i16 ((rd_T83 l0 x21_1).f1))) (fun _ hk => hk.2) (.int .i16 ((rd_T83 l0 x21_1).f2))) (fun _ hk => hk.2) (.int .i64 ((rd_T83 l0 x21_1).f3))) (fun _ hk => hk.2) (.int .i64 ((rd_T83 l0 x21_1).f4))) (fun _ hk => trivial)⟩
             have n1_ : Aside0 ((((((w61.setCell ⟨gb411, 0, none⟩ (.int .i8 ((rd_T83 l0 x21_1).f0))).setCell ⟨gb411, 1, none⟩ (.int .i16 ((rd_T83 l0 x21_1).f1))).setCell ⟨gb411, 2, none⟩ (.int .i16 ((rd_T83 l0 x21_1).f2))).setCell ⟨gb411, 3, none⟩ (.int .i64 ((rd_T83 l0 x21_1).f3))).setCell ⟨gb411, 4, none⟩ (.int .i64 ((rd_T83 l0 x21_1).f4))).heap[gb411]? = some (.cells #[.int .i8 ((rd_T83 l0 x21_1).f0), .int .i16 ((rd_T83 l0 x21_1).f1), .int .i16 ((rd_T83 l0 x21_1).f2), .int .i64 ((rd_T83 l0 x21_1).f3), .int .i64 ((rd_T83 l0 x21_1).f4)] 83 (0, 0))) := ⟨by (with_reducible repeat (first | refine blk_drewN ?_ _ | refine blk_drew ?_ | refine blk_alloc ?_ _)); refine blk_put (cs := #[.int .i8 ((rd_T83 l0 x21_1).f0), .int .i16 ((rd_T83 l0 x21_1).f1), .int .i16 ((rd_T83 l0 x21_1).f2), .int .i64 ((rd_T83 l0 x21_1).f3), .int .i64 0]) ?_ 4 _ rfl; (with_reducible repeat (first | refine blk_drewN ?_ _ | refine blk_drew ?_ | refine blk_alloc ?_ _)); refine blk_put (cs := #[.int .i8 ((rd_T83 l0 x21_1).f0), .int .i16 ((rd_T83 l0 x21_1).f1), .int .i16 ((rd_T83 l0 x21_1).f2), .int .i64 0, .int .i64 0]) ?_ 3 _ rfl; (with_reducible repeat (first | refine blk_drewN ?_ _ | refine blk_drew ?_ | refine blk_alloc ?_ _)); refine blk_put (cs := #[.int .i8 ((rd_T83 l0 x21_1).f0), .int .i16 ((rd_T83 l0 x21_1).f1), .int .i16 0, .int .i64 0, .int .i64 0]) ?_ 2 _ rfl; (with_reducible repeat (first | refine blk_drewN ?_ _ | refine blk_drew ?_ | refine blk_alloc ?_ _)); refine blk_put (cs := #[.int .i8 ((rd_T83 l0 x21_1).f0), .int .i16 0, .int .i16 0, .int .i64 0, .int .i64 0]) ?_ 1 _ rfl; (with_reducible repeat (first | refine blk_drewN ?_ _ | refine blk_drew ?_ | refine blk_alloc ?_ _)); refine blk_put (cs := #[.int .i8 0, .int .i16 0, .int .i16 0, .int .i64 0, .int .i64 0]) ?_ 0 _ rfl; (with_reducible repeat (first | refine blk_drewN ?_ _ | refine blk_drew ?_ | refine blk_alloc ?_ _)); exact BK411.out⟩
             have n2_ : Aside0 (Below w.heap.size w (((((w61.setCell ⟨gb411, 0, none⟩ (.int .i8 ((rd_T83 l0 x21_1).f0))).setCell ⟨gb411, 1, none⟩ (.int .i16 ((rd_T83 l0 x21_1).f1))).setCell ⟨gb411, 2, none⟩ (.int .i16 ((rd_T83 l0 x21_1).f2))).setCell ⟨gb411, 3, none⟩ (.int .i64 ((rd_T83 l0 x21_1).f3))).setCell ⟨gb411, 4, none⟩ (.int .i64 ((rd_T83 l0 x21_1).f4)))) := ⟨by repeat (first | (with_reducible first | exact HB.out | apply below_alloc | apply pw_below_drewN | apply below_drew1 | refine below_set ?_ GE411.out) | exact HB.out)⟩
             (try clear HO_4)
             (try clear BK411)
             (try clear HB)
             generalize (((((w61.setCell ⟨gb411, 0, none⟩ (.int .i8 ((rd_T83 l0 x21_1).f0))).setCell ⟨gb411, 1, none⟩ (.int .i16 ((rd_T83 l0 x21_1).f1))).setCell ⟨gb411, 2, none⟩ (.int .i16 ((rd_T83 l0 x21_1).f2))).setCell ⟨gb411, 3, none⟩ (.int .i64 ((rd_T83 l0 x21_1).f3))).setCell ⟨gb411, 4, none⟩ (.int .i64 ((rd_T83 l0 x21_1).f4))) = w63 at n0_ n1_ n2_ ⊢
             have HO_4 := n0_
             have BK411 := n1_
             have HB := n2_
             clear n0_ n1_ n2_
             have n0_ := Aside0.mk (Kd.R_drew HO_4.out)
             have n1_ := Aside0.mk (blk_drew BK411.out)
             have n2_ := Aside0.mk (below_drew1 HB.out)
             clear HO_4
             clear BK411
             clear HB
             have HO_4 := n0_
             have BK411 := n1_
             have HB := n2_
             clear n0_ n1_ n2_
             refine start_ (n := 14) (S := fun w' => w'.cell? ⟨gb411, 0, none⟩ = some (.int .i8 ((rd_T83 l0 x21_1).f0)) ∧ w'.cell? ⟨gb411, 1, none⟩ = some (.int .i16 ((rd_T83 l0 x21_1).f1)) ∧ w'.cell? ⟨gb411, 2, none⟩ = some (.int .i16 ((rd_T83 l0 x21_1).f2)) ∧ w'.cell? ⟨gb411, 3, none⟩ = some (.int .i64 ((rd_T83 l0 x21_1).f3)) ∧ w'.cell? ⟨gb411, 4, none⟩ = some (.int .i64 ((rd_T83 l0 x21_1).f4))) (ds := [13]) #[false, false, false, false, false, false, false, false, false, false, false, false, false, false] (by kernel_rfl) rfl rfl ⟨(blk_cell BK411.out 0).trans rfl, (blk_cell BK411.out 1).trans rfl, (blk_cell BK411.out 2).trans rfl, (blk_cell BK411.out 3).trans rfl, (blk_cell BK411.out 4).trans rfl⟩ (fun hHeld => ?_); refine with_tabW impl_BookOfTerm.tab9 impl_BookOfTerm.bits9 (fun HT_ HW_ => ?_)
             generalize w63.drew = w64 at HO_4 BK411 HB hHeld ⊢
             refine pure_ (i := 0) (N := some 26) (v := ?_) (a' := ?_) #[true, false, false, false, false, false, false, false, false, false, false, false, false, false] rfl rfl (any_of HT_.out (by kernel_rfl)) (fun _ _ _ h => h) (Or.inl ⟨by rfl, ?_⟩) ?_ ?_
             rotate_left
             ·
              intro w'
              go_simp
              with_reducible rfl
             rotate_left
             ·
              simp only [Act.put, List.setIfInBounds_toArray, List.set_cons_zero, List.set_cons_succ, i64_w, i32_w]
              rfl
             refine pure_ (i := 1) (N := some 27) (v := ?_) (a' := ?_) #[true, true, false, false, false, false, false, false, false, false, false, false, false, false] rfl rfl (any_of HT_.out (by kernel_rfl)) (fun _ _ _ h => h) (Or.inl ⟨by rfl, ?_⟩) ?_ ?_
             rotate_left
             ·
              intro w'
              go_simp
              with_reducible rfl
             rotate_left
             ·
              simp only [Act.put, List.setIfInBounds_toArray, List.set_cons_zero, List.set_cons_succ, i64_w, i32_w]
              rfl
             refine pure_ (i := 2) (N := some 28) (v := ?_) (a' := ?_) #[true, true, true, false, false, false, false, false, false, false, false, false, false, false] rfl rfl (any_of HT_.out (by kernel_rfl)) (fun _ _ _ h => h) (Or.inl ⟨by rfl, ?_⟩) ?_ ?_
             rotate_left
             ·
              intro w'
              go_simp
              with_reducible rfl
             rotate_left
             ·
              simp only [Act.put, List.setIfInBounds_toArray, List.set_cons_zero, List.set_cons_succ, i64_w, i32_w]
              rfl
             refine pure_ (i := 3) (N := some 29) (v := ?_) (a' := ?_) #[true, true, true, true, false, false, false, false, false, false, false, false, false, false] rfl rfl (any_of HT_.out (by kernel_rfl)) (fun _ _ _ h => h) (Or.inl ⟨by rfl, ?_⟩) ?_ ?_
             rotate_left
             ·
              intro w'
              go_simp
              with_reducible rfl
             rotate_left
             ·
              simp only [Act.put, List.setIfInBounds_toArray, List.set_cons_zero, List.set_cons_succ, i64_w, i32_w]
              rfl
             refine pure_ (i := 5) (N := some 31) (v := ?_) (a' := ?_) #[true, true, true, true, false, true, false, false, false, false, false, false, false, false] rfl rfl (any_of HT_.out (by kernel_rfl)) (fun _ _ _ h => h) (Or.inl ⟨by rfl, ?_⟩) ?_ ?_
             rotate_left
             ·
              intro w'
              go_simp
              with_reducible rfl
             rotate_left
             ·
              simp only [Act.put, List.setIfInBounds_toArray, List.set_cons_zero, List.set_cons_succ, i64_w, i32_w]
              rfl
             refine pure_ (i := 7) (N := some 33) (v := ?_) (a' := ?_) #[true, true, true, true, false, true, false, true, false, false, false, false, false, false] rfl rfl (any_of HT_.out (by kernel_rfl)) (fun _ _ _ h => h) (Or.inl ⟨by rfl, ?_⟩) ?_ ?_
             rotate_left
             ·
              intro w'
              go_simp
              with_reducible rfl
             rotate_left
             ·
              simp only [Act.put, List.setIfInBounds_toArray, List.set_cons_zero, List.set_cons_succ, i64_w, i32_w]
              rfl
             refine pure_ (i := 9) (N := some 35) (v := ?_) (a' := ?_) #[true, true, true, true, false, true, false, true, false, true, false, false, false, false] rfl rfl (any_of HT_.out (by kernel_rfl)) (fun _ _ _ h => h) (Or.inl ⟨by rfl, ?_⟩) ?_ ?_
             rotate_left
             ·
              intro w'
              go_simp
              with_reducible rfl
             rotate_left
             ·
              simp only [Act.put, List.setIfInBounds_toArray, List.set_cons_zero, List.set_cons_succ, i64_w, i32_w]
              rfl
             refine take_ (i := 6) (N := some 32) (v := ?_) (a' := ?_) #[true, true, true, true, false, true, true, true, false, true, false, false, false, false] rfl rfl (take_ofW HT_.out HW_.out (by kernel_rfl)) (fun _ _ _ h => h) (Or.inl ⟨by rfl, ?_⟩) hHeld ?_ ?_
             rotate_left
             ·
              rintro w' ⟨s0, s1, s2, s3, s4⟩
              go_simp
              with_reducible rfl
             rotate_left
             ·
              simp only [Act.put, List.setIfInBounds_toArray, List.set_cons_zero, List.set_cons_succ, i64_w, i32_w]
              rfl
             refine take_ (i := 8) (N := some 34) (v := ?_) (a' := ?_) #[true, true, true, true, false, true, true, true, true, true, false, false, false, false] rfl rfl (take_ofW HT_.out HW_.out (by kernel_rfl)) (fun _ _ _ h => h) (Or.inl ⟨by rfl, ?_⟩) hHeld ?_ ?_
             rotate_left
             ·
              rintro w' ⟨s0, s1, s2, s3, s4⟩
              go_simp
              with_reducible rfl
             rotate_left
             ·
              simp only [Act.put, List.setIfInBounds_toArray, List.set_cons_zero, List.set_cons_succ, i64_w, i32_w]
              rfl
             refine take_ (i := 10) (N := some 36) (v := ?_) (a' := ?_) #[true, true, true, true, false, true, true, true, true, true, true, false, false, false] rfl rfl (take_ofW HT_.out HW_.out (by kernel_rfl)) (fun _ _ _ h => h) (Or.inl ⟨by rfl, ?_⟩) hHeld ?_ ?_
             rotate_left
             ·
              rintro w' ⟨s0, s1, s2, s3, s4⟩
              go_simp
              with_reducible rfl
             rotate_left
             ·
              simp only [Act.put, List.setIfInBounds_toArray, List.set_cons_zero, List.set_cons_succ, i64_w, i32_w]
              rfl
             refine one_ (i := 4) (N := some 30) #[true, true, true, true, true, true, true, true, true, true, true, false, false, false] rfl rfl (one_of HT_.out (by kernel_rfl)) (by decide) (fun K hK => ?_)
             refine goes_ Try.func73 (by kernel_rfl) rfl #[.int .i16 (IntKind.i16.wrap (x21_1))] (by rfl) rfl rfl (by (try simp only [List.map_toArray, List.map_cons, List.map_nil]); first | done | rfl | (simp only [List.length_drop, List.length_take]; rfl)) ?_
             with_reducible refine (impl_letter.calls (IntKind.i16.wrap (x21_1)) t412 _ A14.out).mono ?_
             rintro e w65 ⟨rfl, hb⟩
             refine ⟨_, rfl, ?_⟩
             have n0_ := Aside0.mk (Kd.R_below (by (with_reducible repeat (first | apply Kd.R_alloc | apply Kd.R_drewN | apply Kd.R_drew)); exact HO_4.out) hb)
             have n1_ := Aside0.mk (blk_below (g := gb411) (o := .cells #[.int .i8 ((rd_T83 l0 x21_1).f0), .int .i16 ((rd_T83 l0 x21_1).f1), .int .i16 ((rd_T83 l0 x21_1).f2), .int .i64 ((rd_T83 l0 x21_1).f3), .int .i64 ((rd_T83 l0 x21_1).f4)] 83 (0, 0)) (by (with_reducible repeat (first | refine blk_drewN ?_ _ | refine blk_drew ?_ | refine blk_alloc ?_ _)); exact BK411.out) hb)
             have n2_ := Aside0.mk (below_step (by repeat (first | (with_reducible first | exact HB.out | apply below_alloc | apply pw_below_drewN | apply below_drew1 | refine below_set ?_ GE411.out) | exact HB.out)) hb)
             clear HO_4
             clear BK411
             clear HB
             have HO_4 := n0_
             have BK411 := n1_
             have HB := n2_
             clear n0_ n1_ n2_
             (try clear hb)
             (try clear hb2)
             (try clear hk)
             (try clear hi)
             have p16 : 0 ≤ (x21_1 : Int) := of_decide_eq_true (by first | (with_reducible assumption) | assumption)
             have q16 : (x21_1 : Int) < ((x4_1.length : Int) : Int) := of_decide_eq_true (by first | (with_reducible assumption) | assumption)
             obtain ⟨go16, co16, eo16, gb16, gl16, cl16, HG16⟩ := Kd.R_form HO_4.out (by omega)
             (first | cases eo16 | (injection eo16 with ea_ en_ ec_; (first | subst ea_ | (injection ea_ with ea_; subst ea_)); subst ec_; clear en_))
             have GB16 := Aside0.mk gb16
             have GG16 := Aside0.mk HG16
             clear gb16 gl16 HG16
             obtain ⟨ce16, hcl16, hM16, hcc16, hfr16⟩ := Kd.R_elem HO_4.out z45 (x21_1 : Int) p16 q16
             obtain rfl := k45_openM hM16
             have hx16_0 : World.cell? _ ⟨go16, (x21_1 : Int).toNat * 6, none⟩ = some (.string ((rd_T45 x4_1 x21_1).f0)) := hcc16 0 _ rfl
             have hx16_1 : World.cell? _ ⟨go16, (x21_1 : Int).toNat * 6 + 1, none⟩ = some (.int .i8 ((rd_T45 x4_1 x21_1).f1)) := hcc16 1 _ rfl
             have hx16_2 : World.cell? _ ⟨go16, (x21_1 : Int).toNat * 6 + 2, none⟩ = some (.string ((rd_T45 x4_1 x21_1).f2)) := hcc16 2 _ rfl
             have hx16_3 : World.cell? _ ⟨go16, (x21_1 : Int).toNat * 6 + 3, none⟩ = some (.string ((rd_T45 x4_1 x21_1).f3)) := hcc16 3 _ rfl
             have hx16_4 : World.cell? _ ⟨go16, (x21_1 : Int).toNat * 6 + 4, none⟩ = some (.int .i64 ((rd_T45 x4_1 x21_1).f4)) := hcc16 4 _ rfl
             have hx16_5 : World.cell? _ ⟨go16, (x21_1 : Int).toNat * 6 + 5, none⟩ = some (.int .i64 ((rd_T45 x4_1 x21_1).f5)) := hcc16 5 _ rfl
             have hf16_0 : World.frozen? _ ⟨go16, (x21_1 : Int).toNat * 6, none⟩ = false := hfr16 0
             have hf16_1 : World.frozen? _ ⟨go16, (x21_1 : Int).toNat * 6 + 1, none⟩ = false := hfr16 1
             have hf16_2 : World.frozen? _ ⟨go16, (x21_1 : Int).toNat * 6 + 2, none⟩ = false := hfr16 2
             have hf16_3 : World.frozen? _ ⟨go16, (x21_1 : Int).toNat * 6 + 3, none⟩ = false := hfr16 3
             have hf16_4 : World.frozen? _ ⟨go16, (x21_1 : Int).toNat * 6 + 4, none⟩ = false := hfr16 4
             have hf16_5 : World.frozen? _ ⟨go16, (x21_1 : Int).toNat * 6 + 5, none⟩ = false := hfr16 5
             clear hcl16 hcc16 hfr16 hM16
             replace p16 := eq_true p16
             replace q16 := eq_true q16
             obtain ⟨ce66, hcl66, hM66, hcc66, hfr66⟩ := Kd.R_elem HO_4.out z45 (x21_1 : Int) (of_decide_eq_true (by first | (with_reducible assumption) | assumption)) (by have h_ : (x21_1 : Int) < ((x4_1.length : Int) : Int) := of_decide_eq_true (by first | (with_reducible assumption) | assumption); first | exact h_ | (have e_ := (Kd.R_reads' HO_4.out).1; omega) | simpa using h_)
             obtain rfl := k45_openM hM66
             have HP66 := (Kd.R_seg HO_4.out (x21_1 : Int) (of_decide_eq_true (by first | (with_reducible assumption) | assumption)) (by have h_ : (x21_1 : Int) < ((x4_1.length : Int) : Int) := of_decide_eq_true (by first | (with_reducible assumption) | assumption); first | exact h_ | (have e_ := (Kd.R_reads' HO_4.out).1; omega) | simpa using h_) (seg := [.string t412, .int .i8 ((rd_T83 l0 x21_1).f0), .string (⟨#[]⟩ : ByteArray), .string (⟨#[]⟩ : ByteArray), .int .i64 ((rd_T83 l0 x21_1).f3), .int .i64 ((rd_T83 l0 x21_1).f4)]) (j := 0) hcl66 hcc66 (show 6 ≤ 6 from by decide) (x' := (⟨t412, (rd_T83 l0 x21_1).f0, (⟨#[]⟩ : ByteArray), (⟨#[]⟩ : ByteArray), (rd_T83 l0 x21_1).f3, (rd_T83 l0 x21_1).f4⟩ : S45)) (k45_mkM _ _ _ (⟨t412, (rd_T83 l0 x21_1).f0, (⟨#[]⟩ : ByteArray), (⟨#[]⟩ : ByteArray), (rd_T83 l0 x21_1).f3, (rd_T83 l0 x21_1).f4⟩ : S45) ) (fun _ hk => hk)).1
             rw [← Ny413.out] at HP66
             have HQ66 := Aside0.mk HP66
             clear hcl66 hcc66 hfr66 hM66 HP66
             refine hK.out _ _ ⟨(blk_cell BK411.out 0).trans rfl, (blk_cell BK411.out 1).trans rfl, (blk_cell BK411.out 2).trans rfl, (blk_cell BK411.out 3).trans rfl, (blk_cell BK411.out 4).trans rfl⟩ (fun hHeld => ?_)
             clear hK K
             refine norm_ (a' := ?_) ?_ ?_
             rotate_left
             ·
              show Act.put _ (some 30) _ = _
              simp only [Act.put, List.setIfInBounds_toArray, List.set_cons_zero, List.set_cons_succ, i64_w, i32_w]
              rfl
             refine pure_ (i := 11) (N := some 37) (v := ?_) (a' := ?_) #[true, true, true, true, true, true, true, true, true, true, true, true, false, false] rfl rfl (any_of HT_.out (by kernel_rfl)) (fun _ _ _ h => h) (Or.inl ⟨by rfl, ?_⟩) ?_ ?_
             rotate_left
             ·
              intro w'
              go_simp
              with_reducible rfl
             rotate_left
             ·
              simp only [Act.put, List.setIfInBounds_toArray, List.set_cons_zero, List.set_cons_succ, i64_w, i32_w]
              rfl
             refine pure_ (i := 12) (N := some 38) (v := ?_) (a' := ?_) #[true, true, true, true, true, true, true, true, true, true, true, true, true, false] rfl rfl (any_of HT_.out (by kernel_rfl)) (fun _ _ _ h => h) (Or.inl ⟨by rfl, ?_⟩) ?_ ?_
             rotate_left
             ·
              intro w'
              go_simp
              with_reducible rfl
             rotate_left
             ·
              simp only [Act.put, List.setIfInBounds_toArray, List.set_cons_zero, List.set_cons_succ, i64_w, i32_w]
              rfl
             refine last_ (i := 13) (N := none) #[true, true, true, true, true, true, true, true, true, true, true, true, true, true] rfl rfl (one_of HT_.out (by kernel_rfl)) (by decide) (fun K hK => ?_)
             refine skip_ (w1 := ?_) (by rfl) rfl ?_ ?_
             rotate_left
             ·
              go_simp
              rfl
             refine hK.out _ _ ?_
             clear hK K
             refine done_ (done_of HT_.out (by kernel_rfl)) ?_
             have hcz67_0 : w65.cell? ⟨gb411, 0, none⟩ = some (.int .i8 ((rd_T83 l0 x21_1).f0)) := (blk_cell BK411.out 0).trans rfl
             have hcz67_1 : w65.cell? ⟨gb411, 1, none⟩ = some (.int .i16 ((rd_T83 l0 x21_1).f1)) := (blk_cell BK411.out 1).trans rfl
             have hcz67_2 : w65.cell? ⟨gb411, 2, none⟩ = some (.int .i16 ((rd_T83 l0 x21_1).f2)) := (blk_cell BK411.out 2).trans rfl
             have hcz67_3 : w65.cell? ⟨gb411, 3, none⟩ = some (.int .i64 ((rd_T83 l0 x21_1).f3)) := (blk_cell BK411.out 3).trans rfl
             have hcz67_4 : w65.cell? ⟨gb411, 4, none⟩ = some (.int .i64 ((rd_T83 l0 x21_1).f4)) := (blk_cell BK411.out 4).trans rfl
             have hfz67_0 := blk_frozen BK411.out 0
             have hfz67_1 := blk_frozen BK411.out 1
             have hfz67_2 := blk_frozen BK411.out 2
             have hfz67_3 := blk_frozen BK411.out 3
             have hfz67_4 := blk_frozen BK411.out 4
             replace HQ66 := HQ66.out
             simp only [World.setCells, show (k45).sz = 6 from rfl, Nat.add_zero, Nat.add_assoc, Nat.reduceAdd] at HQ66
             replace HQ66 := Aside0.mk HQ66
             generalize hW_ : World.setCell _ _ _ = wq_ at HQ66 ⊢
             have nB_ : Aside0 (wq_.heap[gb411]? = some (.cells #[.int .i8 ((rd_T83 l0 x21_1).f0), .int .i16 ((rd_T83 l0 x21_1).f1), .int .i16 ((rd_T83 l0 x21_1).f2), .int .i64 ((rd_T83 l0 x21_1).f3), .int .i64 ((rd_T83 l0 x21_1).f4)] 83 (0, 0))) := ⟨by rw [← hW_]; refine blk_far ?_ (by have h_ := Kd.R_ne HO_4.out BK411.out (by decide); intro e_; exact h_ (by rw [e_]; rfl)) _; refine blk_far ?_ (by have h_ := Kd.R_ne HO_4.out BK411.out (by decide); intro e_; exact h_ (by rw [e_]; rfl)) _; refine blk_far ?_ (by have h_ := Kd.R_ne HO_4.out BK411.out (by decide); intro e_; exact h_ (by rw [e_]; rfl)) _; refine blk_far ?_ (by have h_ := Kd.R_ne HO_4.out BK411.out (by decide); intro e_; exact h_ (by rw [e_]; rfl)) _; refine blk_far ?_ (by have h_ := Kd.R_ne HO_4.out BK411.out (by decide); intro e_; exact h_ (by rw [e_]; rfl)) _; refine blk_far ?_ (by have h_ := Kd.R_ne HO_4.out BK411.out (by decide); intro e_; exact h_ (by rw [e_]; rfl)) _; exact BK411.out⟩
             have nH_ : Aside0 (Below w.heap.size w wq_) := ⟨by rw [← hW_]; repeat (with_reducible first | exact HB.out | refine below_set ?_ GB16.out)⟩
             clear hW_ HO_4 HB BK411 hcz67_0 hfz67_0 hcz67_1 hfz67_1 hcz67_2 hfz67_2 hcz67_3 hfz67_3 hcz67_4 hfz67_4
             have BK411 := nB_
             have HB := nH_
             clear nB_ nH_
             have hcz67_0 : wq_.cell? ⟨gb411, 0, none⟩ = some (.int .i8 ((rd_T83 l0 x21_1).f0)) := (blk_cell BK411.out 0).trans rfl
             have hcz67_1 : wq_.cell? ⟨gb411, 1, none⟩ = some (.int .i16 ((rd_T83 l0 x21_1).f1)) := (blk_cell BK411.out 1).trans rfl
             have hcz67_2 : wq_.cell? ⟨gb411, 2, none⟩ = some (.int .i16 ((rd_T83 l0 x21_1).f2)) := (blk_cell BK411.out 2).trans rfl
             have hcz67_3 : wq_.cell? ⟨gb411, 3, none⟩ = some (.int .i64 ((rd_T83 l0 x21_1).f3)) := (blk_cell BK411.out 3).trans rfl
             have hcz67_4 : wq_.cell? ⟨gb411, 4, none⟩ = some (.int .i64 ((rd_T83 l0 x21_1).f4)) := (blk_cell BK411.out 4).trans rfl
             have hfz67_0 := blk_frozen BK411.out 0
             have hfz67_1 := blk_frozen BK411.out 1
             have hfz67_2 := blk_frozen BK411.out 2
             have hfz67_3 := blk_frozen BK411.out 3
             have hfz67_4 := blk_frozen BK411.out 4
             try go_wp2_with (first | ((with_reducible refine gate_callee (f := 74) rfl ?_); refine goesL_ (some 42) rfl rfl Try.func74 (by kernel_rfl) rfl #[.int .i8 ((rd_T83 l0 x21_1).f0)] rfl (by (try simp only [List.map_toArray, List.map_cons, List.map_nil]); first | done | rfl | (simp only [List.length_drop, List.length_take]; rfl)) ?_; (with_reducible refine (impl_uses.calls k1 ((rd_T83 l0 x21_1).f0) false false t416 _ A17.out).mono ?_); rintro e w' ⟨rfl, ⟨nd, rfl⟩⟩; refine ⟨_, rfl, ?_⟩))
             go_roundg k1
             case measure => have := HK1.out; omega
             case rel => exact ⟨(y413), (wrap64 (x21_1 + 1)), (by first | rfl | (simp; done) | (simp [*]; done)), H', ⟨by have := HK1.out; omega⟩, ⟨by (with_reducible repeat (first | apply Kd.R_alloc | apply Kd.R_drewN | apply Kd.R_drew)); exact HQ66.out⟩, ⟨by repeat (first | (with_reducible first | exact HB.out | apply below_alloc | apply pw_below_drewN | apply below_drew1 | refine below_set ?_ GB16.out | refine below_set ?_ GB16.out | refine below_set ?_ GB16.out | refine below_set ?_ GB16.out | refine below_set ?_ GB16.out | refine below_set ?_ GB16.out | refine below_set ?_ GE411.out) | exact HB.out)⟩⟩
          ·
           rw [if_neg c15] at H
           exact absurd H (by simp)
         ·
          rw [if_neg c13] at H
          exact absurd H (by simp)
        ·
         rw [if_neg c12] at H
         exact absurd H (by simp)
       ·
        rw [if_neg c11] at H
        have c11b0 : decide (x21_1 < (l0.length : Int)) = false := decide_eq_false c11
        clear c11
        simp only [Option.some.injEq, Prod.mk.injEq] at H
        obtain ⟨rfl, rfl⟩ := H
        go_wp2
        go_ret2
        exact ⟨_, by first | rfl | (simp [errW_none, errW_some] <;> rfl) | (simp [*, errW_none, errW_some] <;> rfl), by (with_reducible repeat (first | apply Kd.R_alloc | apply Kd.R_drewN | apply Kd.R_drew)); exact HO_4.out, by repeat (first | (with_reducible first | exact HB.out | apply below_alloc | apply pw_below_drewN | apply below_drew1) | exact HB.out)⟩
    ·
     rw [if_neg c7] at H
     exact absurd H (by simp)
   ·
    rw [if_neg c6] at H
    exact absurd H (by simp)
 ·
  replace c3 := Bool.eq_false_iff.mpr c3
  subst c3
  have H1 : (some (([] : List (S45)), 1)) = some (r1, r2) := by rw [if_neg (show ¬ (false = true) by decide)] at H; exact H
  clear H
  have H := H1
  clear H1
  simp only [Option.some.injEq, Prod.mk.injEq] at H
  obtain ⟨rfl, rfl⟩ := H
  go_enter Try.func24, Try.ntmps24
  go_wp2_with (first | ((with_reducible refine gate_callee (f := 72) rfl ?_); refine goesL_ (some 11) rfl rfl Try.func72 (by kernel_rfl) rfl #[.slice A0 l0.length c0] rfl (by (try simp only [List.map_toArray, List.map_cons, List.map_nil]); first | done | rfl | (simp only [List.length_drop, List.length_take]; rfl)) ?_; (with_reducible refine (impl_ValidTerm.calls k _ _ l0 false _ ?side1 ?side2 A2.out).mono ?_); (case side1 => repeat (first | exact HR0.out | (with_reducible refine Kd.C_alloc ?_ _) | (with_reducible refine Kd.C_drewN ?_ _) | (with_reducible refine Kd.C_drew ?_))); (case side2 => exact HC0.out); rintro e w68 ⟨rfl, hb⟩; refine ⟨_, rfl, ?_⟩; have n0_ := Aside0.mk (below_step (by repeat (first | (with_reducible first | exact HB.out | apply below_alloc | apply pw_below_drewN | apply below_drew1) | exact HB.out)) hb); clear HB; have HB := n0_; clear n0_; (try clear hb); (try clear hb2); (try clear hk); (try clear hi)))
  go_ret2
  exact ⟨_, by first | rfl | (simp [errW_none, errW_some] <;> rfl) | (simp [*, errW_none, errW_some] <;> rfl), by first | exact Kd.R_nil _ _ _ _ _ | exact Kd.N_nil _ _ _ _ _ | exact Kd.V_nil _ _ _ _ _ | exact Kd.Q_nil _ _ _ _ _ | exact Kd.S_nil _ _ _ _ _, by repeat (first | (with_reducible first | exact HB.out | apply below_alloc | apply pw_below_drewN | apply below_drew1) | exact HB.out)⟩
end Go.Proofs.Ytenhgmddpkiliaa.PB

-- Written by a program (xprint.py) out of the translation's own print; Lean checks it.
import Derived.Test.YtenhgmddpkiliaaPBx0
import Derived.Test.YtenhgmddpkiliaaPBx10
import Derived.Test.YtenhgmddpkiliaaPBclone
import Derived.Test.YtenhgmddpkiliaaPBlineOf
namespace Go.Proofs.Ytenhgmddpkiliaa.PB
open Go.RowKit Go.Proofs.YtenhgmddpkiliaaW.PrintWords Go.Proofs.YtenhgmddpkiliaaW.PrintLast Go.Proofs.YtenhgmddpkiliaaW.PrintMore Go.Proofs.YtenhgmddpkiliaaRP
attribute [local go_sem] max2_int min2_int max_two min_two max_three min_three max_four min_four Go.Proofs.YtenhgmddpkiliaaRP.max_eight   -- for this text's walks alone
set_option linter.unusedVariables false
set_option linter.unusedSimpArgs false
/-! ### impl_WriteLine: function 32 -/
def impl_WriteLine.j0 : Nat → List (S45) → Option ((List (S45)) × Int)
 | 0, _ => none
 | k + 1, x6 => if (x6.length : Int) > 24 then (some (([] : List (S45)), 3)) else ((impl_ValidBook.f k x6).bind fun t300 => (if t300 = true then (some (x6, 0)) else (some (([] : List (S45)), 4))))
def impl_WriteLine.f (k : Nat) (l0 : List (S45)) (a1_0 : ByteArray) (a1_1 : Int) (a1_2 : ByteArray) (a1_3 : ByteArray) (a1_4 : Int) (a1_5 : Int) : Option ((List (S45)) × Int) := (impl_ValidBook.f k l0).bind fun t291 => (if t291 = true then ((slices_CloneLine.f l0).bind fun t292 => ((impl_lineOf.f l0 a1_0).bind fun t295 => (if t295 ≥ 0 then (if 0 ≤ t295 then (if t295 < (t292.length : Int) then (impl_WriteLine.j0 k (t292.set (t295 : Int).toNat (⟨a1_0, a1_1, a1_2, a1_3, a1_4, a1_5⟩ : S45))) else (none)) else (none)) else (if t292.length < 1954687338268 then (impl_WriteLine.j0 k (t292 ++ [(⟨a1_0, a1_1, a1_2, a1_3, a1_4, a1_5⟩ : S45)])) else (none))))) else (some (([] : List (S45)), 1)))
theorem impl_WriteLine.mono_l : ∀ k, (∀ y0, LeO (impl_WriteLine.j0 k y0) (impl_WriteLine.j0 (k + 1) y0))
 | 0 => fun _ r h => by simp [impl_WriteLine.j0] at h
 | k + 1 => by
  have ih0 := impl_WriteLine.mono_l k
  ·
   intro y0
   unfold impl_WriteLine.j0
   repeat' first
   | (with_reducible exact ih0 _)
   | (with_reducible exact impl_ValidBook.mono _ _)
   | (with_reducible exact LeO.refl _)
   | (with_reducible exact LeO.none _)
   | (with_reducible refine LeO.ite ?_ ?_)
   | (with_reducible refine LeO.bind ?_ (fun _ => ?_))
   | exact ih0 _
   | exact LeO.none _
   | refine LeO.ite ?_ ?_
   | refine LeO.bind ?_ (fun _ => ?_)
theorem impl_WriteLine.mono : ∀ a0 a1 a2 a3 a4 a5 a6 k, LeO (impl_WriteLine.f k a0 a1 a2 a3 a4 a5 a6) (impl_WriteLine.f (k + 1) a0 a1 a2 a3 a4 a5 a6) := by
 intro a0 a1 a2 a3 a4 a5 a6 k
 have ih0 := impl_WriteLine.mono_l k
 unfold impl_WriteLine.f
 repeat' first
   | (with_reducible exact ih0 _)
   | (with_reducible exact impl_ValidBook.mono _ _)
   | (with_reducible exact LeO.refl _)
   | (with_reducible exact LeO.none _)
   | (with_reducible refine LeO.ite ?_ ?_)
   | (with_reducible refine LeO.bind ?_ (fun _ => ?_))
   | exact ih0 _
   | exact LeO.none _
   | refine LeO.ite ?_ ?_
   | refine LeO.bind ?_ (fun _ => ?_)
set_option maxHeartbeats 8000000 in
set_option maxRecDepth 100000 in
theorem impl_WriteLine.calls (k : Nat) (A0 : Option Addr) (c0 : Nat) (l0 : List (S45)) (a1_0 : ByteArray) (a1_1 : Int) (a1_2 : ByteArray) (a1_3 : ByteArray) (a1_4 : Int) (a1_5 : Int) (r1 : List (S45)) (r2 : Int) (w : World) (hr0 : Kd.C k45 w A0 l0.length l0) (hc0 : l0.length ≤ c0) (h : impl_WriteLine.f k l0 a1_0 a1_1 a1_2 a1_3 a1_4 a1_5 = some (r1, r2)) :
  Calls Try.prog 32 #[.slice A0 l0.length c0, .agg #[.string a1_0, .int .i8 a1_1, .string a1_2, .string a1_3, .int .i64 a1_4, .int .i64 a1_5]] w fun e w' => ∃ v0_ : Value, e = .returned (.tuple #[v0_, .int .i64 r2]) ∧ Kd.R k45 45 w' w.heap.size (fun _ => True) v0_ r1 ∧ Below w.heap.size w w' := by
 have hu45 := Try.underlying45
 have HR0 := Aside0.mk hr0
 have HC0 := Aside0.mk hc0
 clear hr0 hc0
 have HB := Aside0.mk (Below.refl w.heap.size w)
 have H : ((impl_ValidBook.f k l0).bind fun t291 => (if t291 = true then ((slices_CloneLine.f l0).bind fun t292 => ((impl_lineOf.f l0 a1_0).bind fun t295 => (if t295 ≥ 0 then (if 0 ≤ t295 then (if t295 < (t292.length : Int) then (impl_WriteLine.j0 k (t292.set (t295 : Int).toNat (⟨a1_0, a1_1, a1_2, a1_3, a1_4, a1_5⟩ : S45))) else (none)) else (none)) else (if t292.length < 1954687338268 then (impl_WriteLine.j0 k (t292 ++ [(⟨a1_0, a1_1, a1_2, a1_3, a1_4, a1_5⟩ : S45)])) else (none))))) else (some (([] : List (S45)), 1)))) = some (r1, r2) := h
 clear h
 replace H := Option.bind_eq_some_iff.mp H
 obtain ⟨t291, A30, H⟩ := H
 replace H : (if t291 = true then ((slices_CloneLine.f l0).bind fun t292 => ((impl_lineOf.f l0 a1_0).bind fun t295 => (if t295 ≥ 0 then (if 0 ≤ t295 then (if t295 < (t292.length : Int) then (impl_WriteLine.j0 k (t292.set (t295 : Int).toNat (⟨a1_0, a1_1, a1_2, a1_3, a1_4, a1_5⟩ : S45))) else (none)) else (none)) else (if t292.length < 1954687338268 then (impl_WriteLine.j0 k (t292 ++ [(⟨a1_0, a1_1, a1_2, a1_3, a1_4, a1_5⟩ : S45)])) else (none))))) else (some (([] : List (S45)), 1))) = some (r1, r2) := H
 have A3 := Aside0.mk A30
 clear A30
 by_cases c4 : t291 = true
 ·
  subst c4
  have H1 : ((slices_CloneLine.f l0).bind fun t292 => ((impl_lineOf.f l0 a1_0).bind fun t295 => (if t295 ≥ 0 then (if 0 ≤ t295 then (if t295 < (t292.length : Int) then (impl_WriteLine.j0 k (t292.set (t295 : Int).toNat (⟨a1_0, a1_1, a1_2, a1_3, a1_4, a1_5⟩ : S45))) else (none)) else (none)) else (if t292.length < 1954687338268 then (impl_WriteLine.j0 k (t292 ++ [(⟨a1_0, a1_1, a1_2, a1_3, a1_4, a1_5⟩ : S45)])) else (none))))) = some (r1, r2) := by first | (rw [if_pos rfl] at H; exact H) | rfl
  clear H
  have H := H1
  clear H1
  replace H := Option.bind_eq_some_iff.mp H
  obtain ⟨t292, A50, H⟩ := H
  replace H : ((impl_lineOf.f l0 a1_0).bind fun t295 => (if t295 ≥ 0 then (if 0 ≤ t295 then (if t295 < (t292.length : Int) then (impl_WriteLine.j0 k (t292.set (t295 : Int).toNat (⟨a1_0, a1_1, a1_2, a1_3, a1_4, a1_5⟩ : S45))) else (none)) else (none)) else (if t292.length < 1954687338268 then (impl_WriteLine.j0 k (t292 ++ [(⟨a1_0, a1_1, a1_2, a1_3, a1_4, a1_5⟩ : S45)])) else (none)))) = some (r1, r2) := H
  have A5 := Aside0.mk A50
  clear A50
  replace H := Option.bind_eq_some_iff.mp H
  obtain ⟨t295, A60, H⟩ := H
  replace H : (if t295 ≥ 0 then (if 0 ≤ t295 then (if t295 < (t292.length : Int) then (impl_WriteLine.j0 k (t292.set (t295 : Int).toNat (⟨a1_0, a1_1, a1_2, a1_3, a1_4, a1_5⟩ : S45))) else (none)) else (none)) else (if t292.length < 1954687338268 then (impl_WriteLine.j0 k (t292 ++ [(⟨a1_0, a1_1, a1_2, a1_3, a1_4, a1_5⟩ : S45)])) else (none))) = some (r1, r2) := H
  have A6 := Aside0.mk A60
  clear A60
  have HC7 := Aside0.mk H
  clear H
  go_enter Try.func32, Try.ntmps32
  go_upto_if 18 with (first | ((with_reducible refine gate_dst (N := 3) rfl ?_); refine box_event ?hg (N := 3) ?hd (cs := #[.string a1_0, .int .i8 a1_1, .string a1_2, .string a1_3, .int .i64 a1_4, .int .i64 a1_5]) (t := 45) ?hr ?_; (case hd => rfl); (case hg => rfl); (case hr => first | (go_simp; done) | (go_simp; rfl)); intro gb290 hg w8 hbox hb; have n0_ := Aside0.mk (below_step (by repeat (first | (with_reducible first | exact HB.out | apply below_alloc | apply pw_below_drewN | apply below_drew1) | exact HB.out)) hb); have n1_ := Aside0.mk (hbox); have n2_ := Aside0.mk ((by rw [hg]; exact (below_size (by repeat (first | (with_reducible first | exact HB.out | apply below_alloc | apply pw_below_drewN | apply below_drew1) | exact HB.out))) : w.heap.size ≤ gb290)); have n3_ := Aside0.mk ((by rw [hg]; exact (below_size (by repeat (first | (with_reducible first | exact HB.out | apply below_alloc | apply pw_below_drewN | apply below_drew1) | exact HB.out))) : w.heap.size ≤ gb290)); clear HB; have HB := n0_; have BK290 := n1_; have GW290 := n2_; have GE290 := n3_; clear n0_ n1_ n2_ n3_; clear hb hbox hg) | ((with_reducible refine gate_callee (f := 20) rfl ?_); refine goesL_ (some 9) rfl rfl Try.func20 (by kernel_rfl) rfl #[.slice A0 l0.length c0] rfl (by (try simp only [List.map_toArray, List.map_cons, List.map_nil]); first | done | rfl | (simp only [List.length_drop, List.length_take]; rfl)) ?_; (with_reducible refine (impl_ValidBook.calls k _ _ l0 true _ ?side1 ?side2 A3.out).mono ?_); (case side1 => repeat (first | exact (Kd.C_below HR0.out HB.out) | (with_reducible refine Kd.C_alloc ?_ _) | (with_reducible refine Kd.C_drewN ?_ _) | (with_reducible refine Kd.C_drew ?_))); (case side2 => exact HC0.out); rintro e w9 ⟨rfl, hb⟩; refine ⟨_, rfl, ?_⟩; have n0_ := Aside0.mk (blk_below (g := gb290) (o := .cells #[.string a1_0, .int .i8 a1_1, .string a1_2, .string a1_3, .int .i64 a1_4, .int .i64 a1_5] 45 (0, 0)) (by (with_reducible repeat (first | refine blk_drewN ?_ _ | refine blk_drew ?_ | refine blk_alloc ?_ _)); exact BK290.out) hb); have n1_ := Aside0.mk (below_step (by repeat (first | (with_reducible first | exact HB.out | apply below_alloc | apply pw_below_drewN | apply below_drew1 | refine below_set ?_ GE290.out) | exact HB.out)) hb); clear BK290; clear HB; have BK290 := n0_; have HB := n1_; clear n0_ n1_; (try clear hb); (try clear hb2); (try clear hk); (try clear hi)) | ((with_reducible refine gate_callee (f := 78) rfl ?_); refine goesL_ (some 12) rfl rfl Try.func78 (by kernel_rfl) rfl #[.slice A0 l0.length c0] rfl (by (try simp only [List.map_toArray, List.map_cons, List.map_nil]); first | done | rfl | (simp only [List.length_drop, List.length_take]; rfl)) ?_; (with_reducible refine (slices_CloneLine.calls _ _ l0 t292 _ ?side1 ?side2 A5.out).mono ?_); (case side1 => repeat (first | exact (Kd.C_below HR0.out HB.out) | (with_reducible refine Kd.C_alloc ?_ _) | (with_reducible refine Kd.C_drewN ?_ _) | (with_reducible refine Kd.C_drew ?_))); (case side2 => exact HC0.out); rintro e w10 ⟨v293, rfl, ho0, hb⟩; refine ⟨_, rfl, ?_⟩; have n0_ := Aside0.mk (Kd.R_lower (Kd.R_newB ho0 (g := gb290) (o := .cells #[.string a1_0, .int .i8 a1_1, .string a1_2, .string a1_3, .int .i64 a1_4, .int .i64 a1_5] 45 (0, 0)) (by (with_reducible repeat (first | refine blk_drewN ?_ _ | refine blk_drew ?_ | refine blk_alloc ?_ _)); exact BK290.out)) (below_size (by repeat (first | (with_reducible first | exact HB.out | apply below_alloc | apply pw_below_drewN | apply below_drew1 | refine below_set ?_ GE290.out) | exact HB.out)))); have n1_ := Aside0.mk (blk_below (g := gb290) (o := .cells #[.string a1_0, .int .i8 a1_1, .string a1_2, .string a1_3, .int .i64 a1_4, .int .i64 a1_5] 45 (0, 0)) (by (with_reducible repeat (first | refine blk_drewN ?_ _ | refine blk_drew ?_ | refine blk_alloc ?_ _)); exact BK290.out) hb); have n2_ := Aside0.mk (below_step (by repeat (first | (with_reducible first | exact HB.out | apply below_alloc | apply pw_below_drewN | apply below_drew1 | refine below_set ?_ GE290.out) | exact HB.out)) hb); clear BK290; clear HB; have HO294 := n0_; have BK290 := n1_; have HB := n2_; clear n0_ n1_ n2_; (try clear hb); (try clear hb2); (try clear hk); (try clear hi); (try clear ho0); have hcz11_0 : w10.cell? ⟨gb290, 0, none⟩ = some (.string a1_0) := (blk_cell BK290.out 0).trans rfl; have hcz11_1 : w10.cell? ⟨gb290, 1, none⟩ = some (.int .i8 a1_1) := (blk_cell BK290.out 1).trans rfl; have hcz11_2 : w10.cell? ⟨gb290, 2, none⟩ = some (.string a1_2) := (blk_cell BK290.out 2).trans rfl; have hcz11_3 : w10.cell? ⟨gb290, 3, none⟩ = some (.string a1_3) := (blk_cell BK290.out 3).trans rfl; have hcz11_4 : w10.cell? ⟨gb290, 4, none⟩ = some (.int .i64 a1_4) := (blk_cell BK290.out 4).trans rfl; have hcz11_5 : w10.cell? ⟨gb290, 5, none⟩ = some (.int .i64 a1_5) := (blk_cell BK290.out 5).trans rfl; have hfz11_0 := blk_frozen BK290.out 0; have hfz11_1 := blk_frozen BK290.out 1; have hfz11_2 := blk_frozen BK290.out 2; have hfz11_3 := blk_frozen BK290.out 3; have hfz11_4 := blk_frozen BK290.out 4; have hfz11_5 := blk_frozen BK290.out 5) | ((with_reducible refine gate_callee (f := 79) rfl ?_); refine goesL_ (some 16) rfl rfl Try.func79 (by kernel_rfl) rfl #[.slice A0 l0.length c0, .string a1_0] rfl (by (try simp only [List.map_toArray, List.map_cons, List.map_nil]); first | done | rfl | (simp only [List.length_drop, List.length_take]; rfl)) ?_; (with_reducible refine (impl_lineOf.calls _ _ l0 a1_0 t295 _ ?side1 ?side2 A6.out).mono ?_); (case side1 => repeat (first | exact (Kd.C_below HR0.out HB.out) | (with_reducible refine Kd.C_alloc ?_ _) | (with_reducible refine Kd.C_drewN ?_ _) | (with_reducible refine Kd.C_drew ?_))); (case side2 => exact HC0.out); rintro e w12 ⟨rfl, hb⟩; refine ⟨_, rfl, ?_⟩; have n0_ := Aside0.mk (Kd.R_below (by (with_reducible repeat (first | apply Kd.R_alloc | apply Kd.R_drewN | apply Kd.R_drew)); exact HO294.out) hb); have n1_ := Aside0.mk (blk_below (g := gb290) (o := .cells #[.string a1_0, .int .i8 a1_1, .string a1_2, .string a1_3, .int .i64 a1_4, .int .i64 a1_5] 45 (0, 0)) (by (with_reducible repeat (first | refine blk_drewN ?_ _ | refine blk_drew ?_ | refine blk_alloc ?_ _)); exact BK290.out) hb); have n2_ := Aside0.mk (below_step (by repeat (first | (with_reducible first | exact HB.out | apply below_alloc | apply pw_below_drewN | apply below_drew1 | refine below_set ?_ GE290.out) | exact HB.out)) hb); clear HO294; clear BK290; clear HB; have HO294 := n0_; have BK290 := n1_; have HB := n2_; clear n0_ n1_ n2_; (try clear hb); (try clear hb2); (try clear hk); (try clear hi)))
  (try simp only [Act.put, sA_, sB_, sC_])
  go_cut [6] (fun v6 wc => ∃ (kq : Nat) (x6_6 : List (S45)) (x291000_6 : ByteArray) (x291001_6 : Int) (x291002_6 : ByteArray) (x291003_6 : ByteArray) (x291004_6 : Int) (x291005_6 : Int), Aside0 (impl_WriteLine.j0 kq x6_6 = some (r1, r2)) ∧ Aside0 (kq ≤ k) ∧ Aside0 (Kd.R k45 45 wc w.heap.size (fun k_ => k_ ≠ gb290) v6 x6_6) ∧ Aside0 (wc.heap[gb290]? = some (.cells #[.string x291000_6, .int .i8 x291001_6, .string x291002_6, .string x291003_6, .int .i64 x291004_6, .int .i64 x291005_6] 45 (0, 0))) ∧ Aside0 (Below w.heap.size w wc))
  case first =>
   have H := HC7.out
   clear HC7
   by_cases c13 : t295 ≥ 0
   ·
    rw [if_pos c13] at H
    have c13b0 : decide (0 ≤ t295) = true := decide_eq_true c13
    clear c13
    (first | rw [c13b0] | (simp only [i64_w, i32_w]; rw [c13b0]) | skip)
    by_cases c14 : 0 ≤ t295
    ·
     rw [if_pos c14] at H
     have c14b0 : decide (0 ≤ t295) = true := decide_eq_true c14
     clear c14
     by_cases c15 : t295 < (t292.length : Int)
     ·
      rw [if_pos c15] at H
      have c15b0 : decide (t295 < (t292.length : Int)) = true := decide_eq_true c15
      clear c15
      obtain ⟨y296, hy296⟩ : ∃ y_ : List (S45), y_ = (t292.set (t295 : Int).toNat (⟨a1_0, a1_1, a1_2, a1_3, a1_4, a1_5⟩ : S45)) := ⟨_, rfl⟩
      replace H : (impl_WriteLine.j0 k y296) = some (r1, r2) := by first | (rw [hy296]; with_reducible exact H) | (have H2_ := (Option.bind_some _ _).symm.trans H; rw [hy296]; with_reducible exact H2_) | (have H2_ := (Option.bind_some _ _).symm.trans H; with_reducible exact H2_) | with_reducible exact H | (rw [hy296]; exact H) | exact H
      have Ny296 := Aside0.mk hy296
      clear hy296
      have H' := Aside0.mk H
      clear H
      have hcz17_0 : w12.cell? ⟨gb290, 0, none⟩ = some (.string a1_0) := (blk_cell BK290.out 0).trans rfl
      have hcz17_1 : w12.cell? ⟨gb290, 1, none⟩ = some (.int .i8 a1_1) := (blk_cell BK290.out 1).trans rfl
      have hcz17_2 : w12.cell? ⟨gb290, 2, none⟩ = some (.string a1_2) := (blk_cell BK290.out 2).trans rfl
      have hcz17_3 : w12.cell? ⟨gb290, 3, none⟩ = some (.string a1_3) := (blk_cell BK290.out 3).trans rfl
      have hcz17_4 : w12.cell? ⟨gb290, 4, none⟩ = some (.int .i64 a1_4) := (blk_cell BK290.out 4).trans rfl
      have hcz17_5 : w12.cell? ⟨gb290, 5, none⟩ = some (.int .i64 a1_5) := (blk_cell BK290.out 5).trans rfl
      have hfz17_0 := blk_frozen BK290.out 0
      have hfz17_1 := blk_frozen BK290.out 1
      have hfz17_2 := blk_frozen BK290.out 2
      have hfz17_3 := blk_frozen BK290.out 3
      have hfz17_4 := blk_frozen BK290.out 4
      have hfz17_5 := blk_frozen BK290.out 5
      have p16 : 0 ≤ (t295 : Int) := of_decide_eq_true (by assumption)
      have q16 : (t295 : Int) < ((t292.length : Int) : Int) := of_decide_eq_true (by assumption)
      obtain ⟨go16, co16, eo16, gb16, gl16, cl16, HG16⟩ := Kd.R_form HO294.out (by omega)
      (first | cases eo16 | (injection eo16 with ea_ en_ ec_; (first | subst ea_ | (injection ea_ with ea_; subst ea_)); subst ec_; clear en_))
      have GB16 := Aside0.mk gb16
      have GG16 := Aside0.mk HG16
      clear gb16 gl16 HG16
      obtain ⟨ce16, hcl16, hM16, hcc16, hfr16⟩ := Kd.R_elem HO294.out z45 (t295 : Int) p16 q16
      obtain rfl := k45_openM hM16
      have hx16_0 : w12.cell? ⟨go16, (t295 : Int).toNat * 6, none⟩ = some (.string ((rd_T45 t292 t295).f0)) := hcc16 0 _ rfl
      have hx16_1 : w12.cell? ⟨go16, (t295 : Int).toNat * 6 + 1, none⟩ = some (.int .i8 ((rd_T45 t292 t295).f1)) := hcc16 1 _ rfl
      have hx16_2 : w12.cell? ⟨go16, (t295 : Int).toNat * 6 + 2, none⟩ = some (.string ((rd_T45 t292 t295).f2)) := hcc16 2 _ rfl
      have hx16_3 : w12.cell? ⟨go16, (t295 : Int).toNat * 6 + 3, none⟩ = some (.string ((rd_T45 t292 t295).f3)) := hcc16 3 _ rfl
      have hx16_4 : w12.cell? ⟨go16, (t295 : Int).toNat * 6 + 4, none⟩ = some (.int .i64 ((rd_T45 t292 t295).f4)) := hcc16 4 _ rfl
      have hx16_5 : w12.cell? ⟨go16, (t295 : Int).toNat * 6 + 5, none⟩ = some (.int .i64 ((rd_T45 t292 t295).f5)) := hcc16 5 _ rfl
      have hf16_0 : w12.frozen? ⟨go16, (t295 : Int).toNat * 6, none⟩ = false := hfr16 0
      have hf16_1 : w12.frozen? ⟨go16, (t295 : Int).toNat * 6 + 1, none⟩ = false := hfr16 1
      have hf16_2 : w12.frozen? ⟨go16, (t295 : Int).toNat * 6 + 2, none⟩ = false := hfr16 2
      have hf16_3 : w12.frozen? ⟨go16, (t295 : Int).toNat * 6 + 3, none⟩ = false := hfr16 3
      have hf16_4 : w12.frozen? ⟨go16, (t295 : Int).toNat * 6 + 4, none⟩ = false := hfr16 4
      have hf16_5 : w12.frozen? ⟨go16, (t295 : Int).toNat * 6 + 5, none⟩ = false := hfr16 5
      clear hcl16 hcc16 hfr16 hM16
      replace p16 := eq_true p16
      replace q16 := eq_true q16
      have n_ := Aside0.mk (Kd.R_mono (ok' := (fun k_ => k_ ≠ gb290)) HO294.out (fun k_ hk => hk.2))
      clear HO294
      have HO294 := n_
      clear n_
      have HX18 := Aside0.mk (show Kd.R k45 45 w12 w.heap.size (fun k_ => k_ ≠ gb290) (.slice (some ⟨go16, 0, none⟩) t292.length co16) t292 from (by (with_reducible repeat (first | apply Kd.R_alloc | apply Kd.R_drewN | apply Kd.R_drew)); exact HO294.out))
      obtain ⟨ce18, hcl18, hM18, hcc18, hfr18⟩ := Kd.R_elem HX18.out z45 (t295 : Int) (of_decide_eq_true (by assumption)) (by have h_ : (t295 : Int) < ((t292.length : Int) : Int) := of_decide_eq_true (by assumption); first | exact h_ | (have e_ := (Kd.R_reads' HO294.out).1; omega) | simpa using h_)
      obtain rfl := k45_openM hM18
      have HP18 := Kd.R_seg HX18.out (t295 : Int) (of_decide_eq_true (by assumption)) (by have h_ : (t295 : Int) < ((t292.length : Int) : Int) := of_decide_eq_true (by assumption); first | exact h_ | (have e_ := (Kd.R_reads' HO294.out).1; omega) | simpa using h_) (seg := [.string a1_0, .int .i8 a1_1, .string a1_2, .string a1_3, .int .i64 a1_4, .int .i64 a1_5]) (j := 0) hcl18 hcc18 (show 6 ≤ 6 from by decide) (x' := (⟨a1_0, a1_1, a1_2, a1_3, a1_4, a1_5⟩ : S45)) (k45_mkM _ _ _ (⟨a1_0, a1_1, a1_2, a1_3, a1_4, a1_5⟩ : S45) ) (fun _ hk => hk)
      have hx18_0 := hcc18 0 _ rfl
      (try simp only [show (k45).sz = 6 from rfl, Nat.mul_one, Nat.add_zero] at hx18_0)
      have hf18_0 := hfr18 0
      (try simp only [show (k45).sz = 6 from rfl, Nat.mul_one, Nat.add_zero] at hf18_0)
      have hx18_1 := hcc18 1 _ rfl
      (try simp only [show (k45).sz = 6 from rfl, Nat.mul_one, Nat.add_zero] at hx18_1)
      have hf18_1 := hfr18 1
      (try simp only [show (k45).sz = 6 from rfl, Nat.mul_one, Nat.add_zero] at hf18_1)
      have hx18_2 := hcc18 2 _ rfl
      (try simp only [show (k45).sz = 6 from rfl, Nat.mul_one, Nat.add_zero] at hx18_2)
      have hf18_2 := hfr18 2
      (try simp only [show (k45).sz = 6 from rfl, Nat.mul_one, Nat.add_zero] at hf18_2)
      have hx18_3 := hcc18 3 _ rfl
      (try simp only [show (k45).sz = 6 from rfl, Nat.mul_one, Nat.add_zero] at hx18_3)
      have hf18_3 := hfr18 3
      (try simp only [show (k45).sz = 6 from rfl, Nat.mul_one, Nat.add_zero] at hf18_3)
      have hx18_4 := hcc18 4 _ rfl
      (try simp only [show (k45).sz = 6 from rfl, Nat.mul_one, Nat.add_zero] at hx18_4)
      have hf18_4 := hfr18 4
      (try simp only [show (k45).sz = 6 from rfl, Nat.mul_one, Nat.add_zero] at hf18_4)
      have hx18_5 := hcc18 5 _ rfl
      (try simp only [show (k45).sz = 6 from rfl, Nat.mul_one, Nat.add_zero] at hx18_5)
      have hf18_5 := hfr18 5
      (try simp only [show (k45).sz = 6 from rfl, Nat.mul_one, Nat.add_zero] at hf18_5)
      clear hcl18 hcc18 hfr18 hM18
      go_wp2_with (first | ((with_reducible refine gate_store (t := 45) (p := 22) rfl ?_); refine store_event (t := 45) (p := 22) (v := ?vo_w19) (w1 := ((((((w12.setCell ⟨go16, (t295 : Int).toNat * 6, none⟩ (.string a1_0)).setCell ⟨go16, (t295 : Int).toNat * 6 + 1, none⟩ (.int .i8 a1_1)).setCell ⟨go16, (t295 : Int).toNat * 6 + 2, none⟩ (.string a1_2)).setCell ⟨go16, (t295 : Int).toNat * 6 + 3, none⟩ (.string a1_3)).setCell ⟨go16, (t295 : Int).toNat * 6 + 4, none⟩ (.int .i64 a1_4)).setCell ⟨go16, (t295 : Int).toNat * 6 + 5, none⟩ (.int .i64 a1_5))) ?hg ?ho ?hn ?hr ?_; (case ho => rfl); (case hg => rfl); (case hn => rfl); (case hr => first | (go_simp; done) | (go_simp; rfl)); intro w19 hw; have hg : w12.grownBy w19 (some go16) := (by rw [hw]; exact HP18.2); have hp_ : Kd.R k45 45 w19 w.heap.size (fun k_ => k_ ≠ gb290) (.slice (some ⟨go16, 0, none⟩) t292.length co16) y296 := (by rw [hw, Ny296.out]; exact HP18.1); clear HP18; have n0_ := Aside0.mk (blk_grown (g := gb290) (o := .cells #[.string a1_0, .int .i8 a1_1, .string a1_2, .string a1_3, .int .i64 a1_4, .int .i64 a1_5] 45 (0, 0)) (by (with_reducible repeat (first | refine blk_drewN ?_ _ | refine blk_drew ?_ | refine blk_alloc ?_ _)); exact BK290.out) hg (Kd.R_away HO294.out (fun _ hk => hk))); have n1_ := Aside0.mk (hp_); have n2_ := Aside0.mk ((by rw [hw]; exact below_set (below_set (below_set (below_set (below_set (below_set (HB.out) GB16.out) GB16.out) GB16.out) GB16.out) GB16.out) GB16.out : Below w.heap.size w w19)); clear BK290; clear HO294; clear HB; have BK290 := n0_; have HO294 := n1_; have HB := n2_; clear n0_ n1_ n2_; clear hg hw hp_))
      go_meet
      case rel => exact ⟨_, (y296), (a1_0), (a1_1), (a1_2), (a1_3), (a1_4), (a1_5), H', ⟨by first | omega | exact Nat.le_refl _⟩, ⟨by (with_reducible repeat (first | apply Kd.R_alloc | apply Kd.R_drewN | apply Kd.R_drew)); exact HO294.out⟩, ⟨by (with_reducible repeat (first | refine blk_drewN ?_ _ | refine blk_drew ?_ | refine blk_alloc ?_ _)); exact BK290.out⟩, ⟨by repeat (first | (with_reducible first | exact HB.out | apply below_alloc | apply pw_below_drewN | apply below_drew1 | refine below_set ?_ GE290.out) | exact HB.out)⟩⟩
     ·
      rw [if_neg c15] at H
      exact absurd H (by simp)
    ·
     rw [if_neg c14] at H
     exact absurd H (by simp)
   ·
    rw [if_neg c13] at H
    have c13b0 : decide (0 ≤ t295) = false := decide_eq_false c13
    clear c13
    (first | rw [c13b0] | (simp only [i64_w, i32_w]; rw [c13b0]) | skip)
    by_cases c20 : t292.length < 1954687338268
    ·
     rw [if_pos c20] at H
     have LMc20 := Aside0.mk c20
     clear c20
     obtain ⟨y297, hy297⟩ : ∃ y_ : List (S45), y_ = (t292 ++ [(⟨a1_0, a1_1, a1_2, a1_3, a1_4, a1_5⟩ : S45)]) := ⟨_, rfl⟩
     replace H : (impl_WriteLine.j0 k y297) = some (r1, r2) := by first | (rw [hy297]; with_reducible exact H) | (have H2_ := (Option.bind_some _ _).symm.trans H; rw [hy297]; with_reducible exact H2_) | (have H2_ := (Option.bind_some _ _).symm.trans H; with_reducible exact H2_) | with_reducible exact H | (rw [hy297]; exact H) | exact H
     have Ny297 := Aside0.mk hy297
     clear hy297
     have H' := Aside0.mk H
     clear H
     have hcz21_0 : w12.cell? ⟨gb290, 0, none⟩ = some (.string a1_0) := (blk_cell BK290.out 0).trans rfl
     have hcz21_1 : w12.cell? ⟨gb290, 1, none⟩ = some (.int .i8 a1_1) := (blk_cell BK290.out 1).trans rfl
     have hcz21_2 : w12.cell? ⟨gb290, 2, none⟩ = some (.string a1_2) := (blk_cell BK290.out 2).trans rfl
     have hcz21_3 : w12.cell? ⟨gb290, 3, none⟩ = some (.string a1_3) := (blk_cell BK290.out 3).trans rfl
     have hcz21_4 : w12.cell? ⟨gb290, 4, none⟩ = some (.int .i64 a1_4) := (blk_cell BK290.out 4).trans rfl
     have hcz21_5 : w12.cell? ⟨gb290, 5, none⟩ = some (.int .i64 a1_5) := (blk_cell BK290.out 5).trans rfl
     have hfz21_0 := blk_frozen BK290.out 0
     have hfz21_1 := blk_frozen BK290.out 1
     have hfz21_2 := blk_frozen BK290.out 2
     have hfz21_3 := blk_frozen BK290.out 3
     have hfz21_4 := blk_frozen BK290.out 4
     have hfz21_5 := blk_frozen BK290.out 5
     go_wp2_with (first | ((with_reducible refine gate_builtin (b := .append) (xs := #[.tmp 23, .tmp 25]) rfl ?_); at_builtin; refine Kd.R_append k45 (w0 := w) w.heap.size rfl (.tmp 23) (.tmp 25) 25 45 (.agg #[(.string ⟨#[]⟩), (.int .i8 0), (.string ⟨#[]⟩), (.string ⟨#[]⟩), (.int .i64 0), (.int .i64 0)]) 72 rfl Try.underlying25 info45 rfl (by decide) (by omega) v293 t292 (⟨a1_0, a1_1, a1_2, a1_3, a1_4, a1_5⟩ : S45) [.string a1_0, .int .i8 a1_1, .string a1_2, .string a1_3, .int .i64 a1_4, .int .i64 a1_5] (fun k_ => k_ ≠ gb290) (fun _ => False) rfl rfl ?aP (fun _ hk => hk.elim) ?aF ?aO ?aB ?aS ?aL ?_; (case aP => exact k45_mkM _ _ _ (⟨a1_0, a1_1, a1_2, a1_3, a1_4, a1_5⟩ : S45)); (case aB => exact (by repeat (first | (with_reducible first | exact HB.out | apply below_alloc | apply pw_below_drewN | apply below_drew1 | refine below_set ?_ GE290.out) | exact HB.out))); (case aF => exact (fun k_ hk => Kd.freshB (g := gb290) (o := .cells #[.string a1_0, .int .i8 a1_1, .string a1_2, .string a1_3, .int .i64 a1_4, .int .i64 a1_5] 45 (0, 0)) (by (with_reducible repeat (first | refine blk_drewN ?_ _ | refine blk_drew ?_ | refine blk_alloc ?_ _)); exact BK290.out) k_ hk)); (case aO => exact (by (with_reducible repeat (first | apply Kd.R_alloc | apply Kd.R_drewN | apply Kd.R_drew)); exact Kd.R_mono HO294.out (fun _ hk => hk.2))); (case aS => exact (below_size (by repeat (first | (with_reducible first | exact HB.out | apply below_alloc | apply pw_below_drewN | apply below_drew1 | refine below_set ?_ GE290.out) | exact HB.out)))); (case aL => have := LMc20.out; omega); intro v298 w22 ho hb hg hat; rw [← Ny297.out] at ho; have n0_ := Aside0.mk (blk_grown (g := gb290) (o := .cells #[.string a1_0, .int .i8 a1_1, .string a1_2, .string a1_3, .int .i64 a1_4, .int .i64 a1_5] 45 (0, 0)) (by (with_reducible repeat (first | refine blk_drewN ?_ _ | refine blk_drew ?_ | refine blk_alloc ?_ _)); exact BK290.out) hg (Kd.R_away HO294.out (fun _ hk => hk.2))); have n1_ := Aside0.mk (hb); have n2_ := Aside0.mk (ho); clear BK290; clear HB; clear HO294; have BK290 := n0_; have HB := n1_; have HO299 := n2_; clear n0_ n1_ n2_; clear ho hb hg hat))
     go_meet
     case rel => exact ⟨_, (y297), (a1_0), (a1_1), (a1_2), (a1_3), (a1_4), (a1_5), H', ⟨by first | omega | exact Nat.le_refl _⟩, ⟨by (with_reducible repeat (first | apply Kd.R_alloc | apply Kd.R_drewN | apply Kd.R_drew)); exact HO299.out⟩, ⟨by (with_reducible repeat (first | refine blk_drewN ?_ _ | refine blk_drew ?_ | refine blk_alloc ?_ _)); exact BK290.out⟩, ⟨by repeat (first | (with_reducible first | exact HB.out | apply below_alloc | apply pw_below_drewN | apply below_drew1 | refine below_set ?_ GE290.out) | exact HB.out)⟩⟩
    ·
     rw [if_neg c20] at H
     exact absurd H (by simp)
  case rest =>
   clear HC7
   try clear c1
   try clear p1
   try clear q1
   try clear hx1
   try clear c2
   try clear p2
   try clear c3
   try clear c4
   try clear c7
   try clear c13
   try clear c13b0
   try clear c14
   try clear c14b0
   try clear c15
   try clear c15b0
   try clear c16
   try clear p16
   try clear q16
   try clear hx16
   try clear hf16
   try clear c18
   try clear hx18
   try clear hf18
   try clear c20
   try clear hcz11_0
   try clear hcz11_1
   try clear hcz11_2
   try clear hcz11_3
   try clear hcz11_4
   try clear hcz11_5
   try clear hcz17_0
   try clear hcz17_1
   try clear hcz17_2
   try clear hcz17_3
   try clear hcz17_4
   try clear hcz17_5
   try clear hcz21_0
   try clear hcz21_1
   try clear hcz21_2
   try clear hcz21_3
   try clear hcz21_4
   try clear hcz21_5
   try clear hfz11_0
   try clear hfz11_1
   try clear hfz11_2
   try clear hfz11_3
   try clear hfz11_4
   try clear hfz11_5
   try clear hfz17_0
   try clear hfz17_1
   try clear hfz17_2
   try clear hfz17_3
   try clear hfz17_4
   try clear hfz17_5
   try clear hfz21_0
   try clear hfz21_1
   try clear hfz21_2
   try clear hfz21_3
   try clear hfz21_4
   try clear hfz21_5
   try clear hx16_0
   try clear hx16_1
   try clear hx16_2
   try clear hx16_3
   try clear hx16_4
   try clear hx16_5
   try clear hx18_0
   try clear hx18_1
   try clear hx18_2
   try clear hx18_3
   try clear hx18_4
   try clear hx18_5
   try clear p16
   try clear q16
   obtain ⟨kq, x6_6, x291000_6, x291001_6, x291002_6, x291003_6, x291004_6, x291005_6, HA, HJ6, HO_6, BK290, HB⟩ := hcut
   cases kq with
   | zero => exact absurd HA.out (by simp [impl_WriteLine.j0])
   | succ kj6 =>
    have H := HA.out
    clear HA
    simp only [impl_WriteLine.j0] at H
    by_cases c23 : (x6_6.length : Int) > 24
    ·
     rw [if_pos c23] at H
     have c23b0 : decide (24 < (x6_6.length : Int)) = true := decide_eq_true c23
     have c23b1 : decide (24 < x6_6.length) = true := decide_eq_true (by omega)
     clear c23
     simp only [Option.some.injEq, Prod.mk.injEq] at H
     obtain ⟨rfl, rfl⟩ := H
     obtain ⟨Ao24, co24, eo24⟩ := Kd.R_slice HO_6.out
     subst eo24
     go_wp2
     go_ret2
     exact ⟨_, by first | rfl | (simp [errW_none, errW_some] <;> rfl) | (simp [*, errW_none, errW_some] <;> rfl), by first | exact Kd.R_nil _ _ _ _ _ | exact Kd.N_nil _ _ _ _ _ | exact Kd.V_nil _ _ _ _ _ | exact Kd.Q_nil _ _ _ _ _ | exact Kd.S_nil _ _ _ _ _, by repeat (first | (with_reducible first | exact HB.out | apply below_alloc | apply pw_below_drewN | apply below_drew1 | refine below_set ?_ GE290.out) | exact HB.out)⟩
    ·
     rw [if_neg c23] at H
     have c23b0 : decide (24 < (x6_6.length : Int)) = false := decide_eq_false c23
     have c23b1 : decide (24 < x6_6.length) = false := decide_eq_false (by omega)
     clear c23
     replace H := Option.bind_eq_some_iff.mp H
     obtain ⟨t300, A250, H⟩ := H
     replace H : (if t300 = true then (some (x6_6, 0)) else (some (([] : List (S45)), 4))) = some (r1, r2) := H
     have A25 := Aside0.mk A250
     clear A250
     by_cases c26 : t300 = true
     ·
      subst c26
      have H1 : (some (x6_6, 0)) = some (r1, r2) := by first | (rw [if_pos rfl] at H; exact H) | rfl
      clear H
      have H := H1
      clear H1
      simp only [Option.some.injEq, Prod.mk.injEq] at H
      obtain ⟨rfl, rfl⟩ := H
      obtain ⟨Ao27, co27, eo27⟩ := Kd.R_slice HO_6.out
      subst eo27
      go_wp2_with (first | ((with_reducible refine gate_callee (f := 20) rfl ?_); refine goesL_ (some 31) rfl rfl Try.func20 (by kernel_rfl) rfl #[.slice Ao27 x6_6.length co27] rfl (by (try simp only [List.map_toArray, List.map_cons, List.map_nil]); first | done | rfl | (simp only [List.length_drop, List.length_take]; rfl)) ?_; (with_reducible refine (impl_ValidBook.calls kj6 _ _ x6_6 true _ ?side1 ?side2 A25.out).mono ?_); (case side1 => repeat (first | exact (Kd.R_reads' HO_6.out).2.2 | (with_reducible refine Kd.C_alloc ?_ _) | (with_reducible refine Kd.C_drewN ?_ _) | (with_reducible refine Kd.C_drew ?_))); (case side2 => exact (Kd.R_reads' HO_6.out).2.1); rintro e w28 ⟨rfl, hb⟩; refine ⟨_, rfl, ?_⟩; have n0_ := Aside0.mk (Kd.R_below (by (with_reducible repeat (first | apply Kd.R_alloc | apply Kd.R_drewN | apply Kd.R_drew)); exact HO_6.out) hb); have n1_ := Aside0.mk (blk_below (g := gb290) (o := .cells #[.string x291000_6, .int .i8 x291001_6, .string x291002_6, .string x291003_6, .int .i64 x291004_6, .int .i64 x291005_6] 45 (0, 0)) (by (with_reducible repeat (first | refine blk_drewN ?_ _ | refine blk_drew ?_ | refine blk_alloc ?_ _)); exact BK290.out) hb); have n2_ := Aside0.mk (below_step (by repeat (first | (with_reducible first | exact HB.out | apply below_alloc | apply pw_below_drewN | apply below_drew1 | refine below_set ?_ GE290.out) | exact HB.out)) hb); clear HO_6; clear BK290; clear HB; have HO_6 := n0_; have BK290 := n1_; have HB := n2_; clear n0_ n1_ n2_; (try clear hb); (try clear hb2); (try clear hk); (try clear hi)))
      go_ret2
      exact ⟨_, by first | rfl | (simp [errW_none, errW_some] <;> rfl) | (simp [*, errW_none, errW_some] <;> rfl), by (with_reducible repeat (first | apply Kd.R_alloc | apply Kd.R_drewN | apply Kd.R_drew)); exact Kd.R_mono HO_6.out (fun _ hk => trivial), by repeat (first | (with_reducible first | exact HB.out | apply below_alloc | apply pw_below_drewN | apply below_drew1 | refine below_set ?_ GE290.out) | exact HB.out)⟩
     ·
      replace c26 := Bool.eq_false_iff.mpr c26
      subst c26
      have H1 : (some (([] : List (S45)), 4)) = some (r1, r2) := by first | (rw [if_neg (show ¬ (false = true) by decide)] at H; exact H) | rfl
      clear H
      have H := H1
      clear H1
      simp only [Option.some.injEq, Prod.mk.injEq] at H
      obtain ⟨rfl, rfl⟩ := H
      obtain ⟨Ao29, co29, eo29⟩ := Kd.R_slice HO_6.out
      subst eo29
      go_wp2_with (first | ((with_reducible refine gate_callee (f := 20) rfl ?_); refine goesL_ (some 31) rfl rfl Try.func20 (by kernel_rfl) rfl #[.slice Ao29 x6_6.length co29] rfl (by (try simp only [List.map_toArray, List.map_cons, List.map_nil]); first | done | rfl | (simp only [List.length_drop, List.length_take]; rfl)) ?_; (with_reducible refine (impl_ValidBook.calls kj6 _ _ x6_6 false _ ?side1 ?side2 A25.out).mono ?_); (case side1 => repeat (first | exact (Kd.R_reads' HO_6.out).2.2 | (with_reducible refine Kd.C_alloc ?_ _) | (with_reducible refine Kd.C_drewN ?_ _) | (with_reducible refine Kd.C_drew ?_))); (case side2 => exact (Kd.R_reads' HO_6.out).2.1); rintro e w30 ⟨rfl, hb⟩; refine ⟨_, rfl, ?_⟩; have n0_ := Aside0.mk (Kd.R_below (by (with_reducible repeat (first | apply Kd.R_alloc | apply Kd.R_drewN | apply Kd.R_drew)); exact HO_6.out) hb); have n1_ := Aside0.mk (blk_below (g := gb290) (o := .cells #[.string x291000_6, .int .i8 x291001_6, .string x291002_6, .string x291003_6, .int .i64 x291004_6, .int .i64 x291005_6] 45 (0, 0)) (by (with_reducible repeat (first | refine blk_drewN ?_ _ | refine blk_drew ?_ | refine blk_alloc ?_ _)); exact BK290.out) hb); have n2_ := Aside0.mk (below_step (by repeat (first | (with_reducible first | exact HB.out | apply below_alloc | apply pw_below_drewN | apply below_drew1 | refine below_set ?_ GE290.out) | exact HB.out)) hb); clear HO_6; clear BK290; clear HB; have HO_6 := n0_; have BK290 := n1_; have HB := n2_; clear n0_ n1_ n2_; (try clear hb); (try clear hb2); (try clear hk); (try clear hi)))
      go_ret2
      exact ⟨_, by first | rfl | (simp [errW_none, errW_some] <;> rfl) | (simp [*, errW_none, errW_some] <;> rfl), by first | exact Kd.R_nil _ _ _ _ _ | exact Kd.N_nil _ _ _ _ _ | exact Kd.V_nil _ _ _ _ _ | exact Kd.Q_nil _ _ _ _ _ | exact Kd.S_nil _ _ _ _ _, by repeat (first | (with_reducible first | exact HB.out | apply below_alloc | apply pw_below_drewN | apply below_drew1 | refine below_set ?_ GE290.out) | exact HB.out)⟩
 ·
  replace c4 := Bool.eq_false_iff.mpr c4
  subst c4
  have H1 : (some (([] : List (S45)), 1)) = some (r1, r2) := by first | (rw [if_neg (show ¬ (false = true) by decide)] at H; exact H) | rfl
  clear H
  have H := H1
  clear H1
  simp only [Option.some.injEq, Prod.mk.injEq] at H
  obtain ⟨rfl, rfl⟩ := H
  go_enter Try.func32, Try.ntmps32
  go_wp2_with (first | ((with_reducible refine gate_dst (N := 3) rfl ?_); refine box_event ?hg (N := 3) ?hd (cs := #[.string a1_0, .int .i8 a1_1, .string a1_2, .string a1_3, .int .i64 a1_4, .int .i64 a1_5]) (t := 45) ?hr ?_; (case hd => rfl); (case hg => rfl); (case hr => first | (go_simp; done) | (go_simp; rfl)); intro gb290 hg w31 hbox hb; have n0_ := Aside0.mk (below_step (by repeat (first | (with_reducible first | exact HB.out | apply below_alloc | apply pw_below_drewN | apply below_drew1) | exact HB.out)) hb); have n1_ := Aside0.mk (hbox); have n2_ := Aside0.mk ((by rw [hg]; exact (below_size (by repeat (first | (with_reducible first | exact HB.out | apply below_alloc | apply pw_below_drewN | apply below_drew1) | exact HB.out))) : w.heap.size ≤ gb290)); have n3_ := Aside0.mk ((by rw [hg]; exact (below_size (by repeat (first | (with_reducible first | exact HB.out | apply below_alloc | apply pw_below_drewN | apply below_drew1) | exact HB.out))) : w.heap.size ≤ gb290)); clear HB; have HB := n0_; have BK290 := n1_; have GW290 := n2_; have GE290 := n3_; clear n0_ n1_ n2_ n3_; clear hb hbox hg) | ((with_reducible refine gate_callee (f := 20) rfl ?_); refine goesL_ (some 9) rfl rfl Try.func20 (by kernel_rfl) rfl #[.slice A0 l0.length c0] rfl (by (try simp only [List.map_toArray, List.map_cons, List.map_nil]); first | done | rfl | (simp only [List.length_drop, List.length_take]; rfl)) ?_; (with_reducible refine (impl_ValidBook.calls k _ _ l0 false _ ?side1 ?side2 A3.out).mono ?_); (case side1 => repeat (first | exact (Kd.C_below HR0.out HB.out) | (with_reducible refine Kd.C_alloc ?_ _) | (with_reducible refine Kd.C_drewN ?_ _) | (with_reducible refine Kd.C_drew ?_))); (case side2 => exact HC0.out); rintro e w32 ⟨rfl, hb⟩; refine ⟨_, rfl, ?_⟩; have n0_ := Aside0.mk (blk_below (g := gb290) (o := .cells #[.string a1_0, .int .i8 a1_1, .string a1_2, .string a1_3, .int .i64 a1_4, .int .i64 a1_5] 45 (0, 0)) (by (with_reducible repeat (first | refine blk_drewN ?_ _ | refine blk_drew ?_ | refine blk_alloc ?_ _)); exact BK290.out) hb); have n1_ := Aside0.mk (below_step (by repeat (first | (with_reducible first | exact HB.out | apply below_alloc | apply pw_below_drewN | apply below_drew1 | refine below_set ?_ GE290.out) | exact HB.out)) hb); clear BK290; clear HB; have BK290 := n0_; have HB := n1_; clear n0_ n1_; (try clear hb); (try clear hb2); (try clear hk); (try clear hi)))
  go_ret2
  exact ⟨_, by first | rfl | (simp [errW_none, errW_some] <;> rfl) | (simp [*, errW_none, errW_some] <;> rfl), by first | exact Kd.R_nil _ _ _ _ _ | exact Kd.N_nil _ _ _ _ _ | exact Kd.V_nil _ _ _ _ _ | exact Kd.Q_nil _ _ _ _ _ | exact Kd.S_nil _ _ _ _ _, by repeat (first | (with_reducible first | exact HB.out | apply below_alloc | apply pw_below_drewN | apply below_drew1 | refine below_set ?_ GE290.out) | exact HB.out)⟩
end Go.Proofs.Ytenhgmddpkiliaa.PB

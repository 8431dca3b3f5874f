-- Written by a program (xprint.py) out of the translation's own print; Lean checks it.
import Derived.Test.YtenhgmddpkiliaaPBx0
import Derived.Test.YtenhgmddpkiliaaPBx9
import Derived.Test.YtenhgmddpkiliaaPBlineOf
namespace Go.Proofs.Ytenhgmddpkiliaa.PB
open Go.RowKit Go.Proofs.YtenhgmddpkiliaaW.PrintWords Go.Proofs.YtenhgmddpkiliaaW.PrintLast Go.Proofs.YtenhgmddpkiliaaW.PrintMore Go.Proofs.YtenhgmddpkiliaaRP
attribute [local go_sem] max2_int min2_int max_two min_two max_three min_three max_four min_four Go.Proofs.YtenhgmddpkiliaaRP.max_eight Go.Proofs.YtenhgmddpkiliaaRP.tmod_len   -- for this text's walks alone
set_option linter.unusedVariables false
set_option linter.unusedSimpArgs false
/-! ### impl_linesOk: function 65 -/
mutual
def impl_linesOk.l0 : Nat → List (S45) → List (S45) → Int → Int → Option (Bool)
 | 0, _, _, _, _ => none
 | k + 1, x0, x10, x11, x12 => if x12 < x11 then (if 0 ≤ x12 then (if x12 < (x10.length : Int) then ((impl_uses.f k ((rd_T45 x10 x12).f1)).bind fun bt250 => ((impl_lineName.f k ((rd_T45 x10 x12).f0)).bind fun t253 => (if t253 = true then ((impl_lineOf.f x0 ((rd_T45 x10 x12).f0)).bind fun t254 => (if t254 = x12 then (if ((rd_T45 x10 x12).f1) < 1 then (impl_linesOk.j1 k x0 bt250.1 bt250.2.1 x10 x11 x12 true ((rd_T45 x10 x12).f0) ((rd_T45 x10 x12).f1) ((rd_T45 x10 x12).f2) ((rd_T45 x10 x12).f3) ((rd_T45 x10 x12).f4) ((rd_T45 x10 x12).f5)) else (if ((rd_T45 x10 x12).f1) > 12 then (impl_linesOk.j1 k x0 bt250.1 bt250.2.1 x10 x11 x12 true ((rd_T45 x10 x12).f0) ((rd_T45 x10 x12).f1) ((rd_T45 x10 x12).f2) ((rd_T45 x10 x12).f3) ((rd_T45 x10 x12).f4) ((rd_T45 x10 x12).f5)) else ((impl_ratioOk.f ((rd_T45 x10 x12).f1) ((rd_T45 x10 x12).f4) ((rd_T45 x10 x12).f5)).bind fun t255 => (impl_linesOk.j1 k x0 bt250.1 bt250.2.1 x10 x11 x12 (!t255) ((rd_T45 x10 x12).f0) ((rd_T45 x10 x12).f1) ((rd_T45 x10 x12).f2) ((rd_T45 x10 x12).f3) ((rd_T45 x10 x12).f4) ((rd_T45 x10 x12).f5))))) else (impl_linesOk.j1 k x0 bt250.1 bt250.2.1 x10 x11 x12 true ((rd_T45 x10 x12).f0) ((rd_T45 x10 x12).f1) ((rd_T45 x10 x12).f2) ((rd_T45 x10 x12).f3) ((rd_T45 x10 x12).f4) ((rd_T45 x10 x12).f5)))) else (impl_linesOk.j1 k x0 bt250.1 bt250.2.1 x10 x11 x12 true ((rd_T45 x10 x12).f0) ((rd_T45 x10 x12).f1) ((rd_T45 x10 x12).f2) ((rd_T45 x10 x12).f3) ((rd_T45 x10 x12).f4) ((rd_T45 x10 x12).f5))))) else (none)) else (none)) else (some true)
def impl_linesOk.j1 : Nat → List (S45) → Bool → Bool → List (S45) → Int → Int → Bool → ByteArray → Int → ByteArray → ByteArray → Int → Int → Option (Bool)
 | 0, _, _, _, _, _, _, _, _, _, _, _, _, _ => none
 | k + 1, x0, x5, x6, x10, x11, x12, x55, x250000, x250001, x250002, x250003, x250004, x250005 => if x55 = true then (some false) else (if x5 = true then (if x6 = true then (impl_linesOk.j2 k x0 x10 x11 x12 false x250000 x250001 x250002 x250003 x250004 x250005) else (impl_linesOk.j2 k x0 x10 x11 x12 (x250003.toList != ([] : List UInt8)) x250000 x250001 x250002 x250003 x250004 x250005)) else (if x250002.toList = ([] : List UInt8) then (if x6 = true then (impl_linesOk.j2 k x0 x10 x11 x12 false x250000 x250001 x250002 x250003 x250004 x250005) else (impl_linesOk.j2 k x0 x10 x11 x12 (x250003.toList != ([] : List UInt8)) x250000 x250001 x250002 x250003 x250004 x250005)) else (impl_linesOk.j2 k x0 x10 x11 x12 true x250000 x250001 x250002 x250003 x250004 x250005)))
def impl_linesOk.j2 : Nat → List (S45) → List (S45) → Int → Int → Bool → ByteArray → Int → ByteArray → ByteArray → Int → Int → Option (Bool)
 | 0, _, _, _, _, _, _, _, _, _, _, _ => none
 | k + 1, x0, x10, x11, x12, x71, x250000, x250001, x250002, x250003, x250004, x250005 => if x71 = true then (some false) else ((impl_Line_used.f k [(⟨x250000, x250001, x250002, x250003, x250004, x250005⟩ : S45)]).bind fun t257 => (impl_linesOk.l1 k x0 x10 x11 x12 t257 (t257.length : Int) 0))
def impl_linesOk.l1 : Nat → List (S45) → List (S45) → Int → Int → List ByteArray → Int → Int → Option (Bool)
 | 0, _, _, _, _, _, _, _ => none
 | k + 1, x0, x10, x11, x12, x72, x73, x74 => if x74 < x73 then (if 0 ≤ x74 then (if x74 < (x72.length : Int) then ((impl_lineOf.f x0 (rdOf ByteArray.empty x72 x74)).bind fun t261 => (if t261 < 0 then (some false) else (impl_linesOk.l1 k x0 x10 x11 x12 x72 x73 (wrap64 (x74 + 1))))) else (none)) else (none)) else (impl_linesOk.l0 k x0 x10 x11 (wrap64 (x12 + 1)))
end
def impl_linesOk.f (k : Nat) (l0 : List (S45)) : Option (Bool) := impl_linesOk.l0 k l0 l0 (l0.length : Int) 0
theorem impl_linesOk.mono_l : ∀ k, (∀ y0 y1 y2 y3, LeO (impl_linesOk.l0 k y0 y1 y2 y3) (impl_linesOk.l0 (k + 1) y0 y1 y2 y3)) ∧ (∀ y0 y1 y2 y3 y4 y5 y6 y7 y8 y9 y10 y11 y12, LeO (impl_linesOk.j1 k y0 y1 y2 y3 y4 y5 y6 y7 y8 y9 y10 y11 y12) (impl_linesOk.j1 (k + 1) y0 y1 y2 y3 y4 y5 y6 y7 y8 y9 y10 y11 y12)) ∧ (∀ y0 y1 y2 y3 y4 y5 y6 y7 y8 y9 y10, LeO (impl_linesOk.j2 k y0 y1 y2 y3 y4 y5 y6 y7 y8 y9 y10) (impl_linesOk.j2 (k + 1) y0 y1 y2 y3 y4 y5 y6 y7 y8 y9 y10)) ∧ (∀ y0 y1 y2 y3 y4 y5 y6, LeO (impl_linesOk.l1 k y0 y1 y2 y3 y4 y5 y6) (impl_linesOk.l1 (k + 1) y0 y1 y2 y3 y4 y5 y6))
 | 0 => ⟨fun _ _ _ _ r h => by simp [impl_linesOk.l0] at h, fun _ _ _ _ _ _ _ _ _ _ _ _ _ r h => by simp [impl_linesOk.j1] at h, fun _ _ _ _ _ _ _ _ _ _ _ r h => by simp [impl_linesOk.j2] at h, fun _ _ _ _ _ _ _ r h => by simp [impl_linesOk.l1] at h⟩
 | k + 1 => by
  obtain ⟨ih0, ih1, ih2, ih3⟩ := impl_linesOk.mono_l k
  refine ⟨?_, ?_, ?_, ?_⟩
  ·
   intro y0 y1 y2 y3
   unfold impl_linesOk.l0
   repeat' first
   | (with_reducible exact ih0 _ _ _ _)
   | (with_reducible exact ih1 _ _ _ _ _ _ _ _ _ _ _ _ _)
   | (with_reducible exact ih2 _ _ _ _ _ _ _ _ _ _ _)
   | (with_reducible exact ih3 _ _ _ _ _ _ _)
   | (with_reducible exact impl_Line_used.mono _ _)
   | (with_reducible exact impl_lineName.mono _ _)
   | (with_reducible exact impl_uses.mono _ _)
   | (with_reducible exact LeO.refl _)
   | (with_reducible exact LeO.none _)
   | (with_reducible refine LeO.ite ?_ ?_)
   | (with_reducible refine LeO.bind ?_ (fun _ => ?_))
   | exact ih0 _ _ _ _
   | exact ih1 _ _ _ _ _ _ _ _ _ _ _ _ _
   | exact ih2 _ _ _ _ _ _ _ _ _ _ _
   | exact ih3 _ _ _ _ _ _ _
   | exact LeO.none _
   | refine LeO.ite ?_ ?_
   | refine LeO.bind ?_ (fun _ => ?_)
  ·
   intro y0 y1 y2 y3 y4 y5 y6 y7 y8 y9 y10 y11 y12
   unfold impl_linesOk.j1
   repeat' first
   | (with_reducible exact ih0 _ _ _ _)
   | (with_reducible exact ih1 _ _ _ _ _ _ _ _ _ _ _ _ _)
   | (with_reducible exact ih2 _ _ _ _ _ _ _ _ _ _ _)
   | (with_reducible exact ih3 _ _ _ _ _ _ _)
   | (with_reducible exact impl_Line_used.mono _ _)
   | (with_reducible exact impl_lineName.mono _ _)
   | (with_reducible exact impl_uses.mono _ _)
   | (with_reducible exact LeO.refl _)
   | (with_reducible exact LeO.none _)
   | (with_reducible refine LeO.ite ?_ ?_)
   | (with_reducible refine LeO.bind ?_ (fun _ => ?_))
   | exact ih0 _ _ _ _
   | exact ih1 _ _ _ _ _ _ _ _ _ _ _ _ _
   | exact ih2 _ _ _ _ _ _ _ _ _ _ _
   | exact ih3 _ _ _ _ _ _ _
   | exact LeO.none _
   | refine LeO.ite ?_ ?_
   | refine LeO.bind ?_ (fun _ => ?_)
  ·
   intro y0 y1 y2 y3 y4 y5 y6 y7 y8 y9 y10
   unfold impl_linesOk.j2
   repeat' first
   | (with_reducible exact ih0 _ _ _ _)
   | (with_reducible exact ih1 _ _ _ _ _ _ _ _ _ _ _ _ _)
   | (with_reducible exact ih2 _ _ _ _ _ _ _ _ _ _ _)
   | (with_reducible exact ih3 _ _ _ _ _ _ _)
   | (with_reducible exact impl_Line_used.mono _ _)
   | (with_reducible exact impl_lineName.mono _ _)
   | (with_reducible exact impl_uses.mono _ _)
   | (with_reducible exact LeO.refl _)
   | (with_reducible exact LeO.none _)
   | (with_reducible refine LeO.ite ?_ ?_)
   | (with_reducible refine LeO.bind ?_ (fun _ => ?_))
   | exact ih0 _ _ _ _
   | exact ih1 _ _ _ _ _ _ _ _ _ _ _ _ _
   | exact ih2 _ _ _ _ _ _ _ _ _ _ _
   | exact ih3 _ _ _ _ _ _ _
   | exact LeO.none _
   | refine LeO.ite ?_ ?_
   | refine LeO.bind ?_ (fun _ => ?_)
  ·
   intro y0 y1 y2 y3 y4 y5 y6
   unfold impl_linesOk.l1
   repeat' first
   | (with_reducible exact ih0 _ _ _ _)
   | (with_reducible exact ih1 _ _ _ _ _ _ _ _ _ _ _ _ _)
   | (with_reducible exact ih2 _ _ _ _ _ _ _ _ _ _ _)
   | (with_reducible exact ih3 _ _ _ _ _ _ _)
   | (with_reducible exact impl_Line_used.mono _ _)
   | (with_reducible exact impl_lineName.mono _ _)
   | (with_reducible exact impl_uses.mono _ _)
   | (with_reducible exact LeO.refl _)
   | (with_reducible exact LeO.none _)
   | (with_reducible refine LeO.ite ?_ ?_)
   | (with_reducible refine LeO.bind ?_ (fun _ => ?_))
   | exact ih0 _ _ _ _
   | exact ih1 _ _ _ _ _ _ _ _ _ _ _ _ _
   | exact ih2 _ _ _ _ _ _ _ _ _ _ _
   | exact ih3 _ _ _ _ _ _ _
   | exact LeO.none _
   | refine LeO.ite ?_ ?_
   | refine LeO.bind ?_ (fun _ => ?_)
theorem impl_linesOk.mono : ∀ a0 k, LeO (impl_linesOk.f k a0) (impl_linesOk.f (k + 1) a0) := by
 intro a0 k
 obtain ⟨ih0, ih1, ih2, ih3⟩ := impl_linesOk.mono_l k
 unfold impl_linesOk.f
 repeat' first
   | (with_reducible exact ih0 _ _ _ _)
   | (with_reducible exact ih1 _ _ _ _ _ _ _ _ _ _ _ _ _)
   | (with_reducible exact ih2 _ _ _ _ _ _ _ _ _ _ _)
   | (with_reducible exact ih3 _ _ _ _ _ _ _)
   | (with_reducible exact impl_Line_used.mono _ _)
   | (with_reducible exact impl_lineName.mono _ _)
   | (with_reducible exact impl_uses.mono _ _)
   | (with_reducible exact LeO.refl _)
   | (with_reducible exact LeO.none _)
   | (with_reducible refine LeO.ite ?_ ?_)
   | (with_reducible refine LeO.bind ?_ (fun _ => ?_))
   | exact ih0 _ _ _ _
   | exact ih1 _ _ _ _ _ _ _ _ _ _ _ _ _
   | exact ih2 _ _ _ _ _ _ _ _ _ _ _
   | exact ih3 _ _ _ _ _ _ _
   | exact LeO.none _
   | refine LeO.ite ?_ ?_
   | refine LeO.bind ?_ (fun _ => ?_)
set_option maxHeartbeats 8000000 in
set_option maxRecDepth 100000 in
theorem impl_linesOk.calls (k : Nat) (A0 : Option Addr) (c0 : Nat) (l0 : List (S45)) (r : Bool) (w : World) (hr0 : Kd.C k45 w A0 l0.length l0) (hc0 : l0.length ≤ c0) (h : impl_linesOk.f k l0 = some r) :
  Calls Try.prog 65 #[.slice A0 l0.length c0] w fun e w' => e = .returned (.bool r) ∧ Below w.heap.size w w' := by
 have hu45 := Try.underlying45
 have HR0 := Aside0.mk hr0
 have HC0 := Aside0.mk hc0
 clear hr0 hc0
 have HB := Aside0.mk (Below.refl w.heap.size w)
 have H : (impl_linesOk.l0 k l0 l0 (l0.length : Int) 0) = some r := h
 clear h
 have H' := Aside0.mk H
 clear H
 go_enter Try.func65, Try.ntmps65
 go_wp2
 go_loopg [12] k (fun kq v12 w' => ∃ (x12_1 : Int), v12 = .int .i64 x12_1 ∧ Aside0 (impl_linesOk.l0 kq l0 l0 (l0.length : Int) x12_1 = some r) ∧ Aside0 (kq ≤ k) ∧ Aside0 (Below w.heap.size w w'))
 case atStart => exact ⟨(0), (by first | rfl | (simp; done) | (simp [*]; done) | (simp [isE_]; done)), H', ⟨Nat.le_refl _⟩, ⟨by repeat (first | (with_reducible first | exact HB.out | apply below_alloc | apply pw_below_drewN | apply below_drew1) | exact HB.out)⟩⟩
 case round =>
  clear H'
  obtain ⟨x12_1, rfl, HA, HK1, HB⟩ := hrel
  cases gk with
  | zero => exact absurd HA.out (by simp [impl_linesOk.l0])
  | succ k1 =>
   have H := HA.out
   clear HA
   simp only [impl_linesOk.l0] at H
   by_cases c2 : x12_1 < (l0.length : Int)
   ·
    rw [if_pos c2] at H
    have c2b0 : decide (x12_1 < (l0.length : Int)) = true := decide_eq_true c2
    clear c2
    by_cases c3 : 0 ≤ x12_1
    ·
     rw [if_pos c3] at H
     have c3b0 : decide (0 ≤ x12_1) = true := decide_eq_true c3
     clear c3
     by_cases c4 : x12_1 < (l0.length : Int)
     ·
      rw [if_pos c4] at H
      have c4b0 : decide (x12_1 < (l0.length : Int)) = true := decide_eq_true c4
      clear c4
      replace H := Option.bind_eq_some_iff.mp H
      obtain ⟨⟨t250, t251, t252⟩, A50, H⟩ := H
      replace H : ((impl_lineName.f k1 ((rd_T45 l0 x12_1).f0)).bind fun t253 => (if t253 = true then ((impl_lineOf.f l0 ((rd_T45 l0 x12_1).f0)).bind fun t254 => (if t254 = x12_1 then (if ((rd_T45 l0 x12_1).f1) < 1 then (impl_linesOk.j1 k1 l0 t250 t251 l0 (l0.length : Int) x12_1 true ((rd_T45 l0 x12_1).f0) ((rd_T45 l0 x12_1).f1) ((rd_T45 l0 x12_1).f2) ((rd_T45 l0 x12_1).f3) ((rd_T45 l0 x12_1).f4) ((rd_T45 l0 x12_1).f5)) else (if ((rd_T45 l0 x12_1).f1) > 12 then (impl_linesOk.j1 k1 l0 t250 t251 l0 (l0.length : Int) x12_1 true ((rd_T45 l0 x12_1).f0) ((rd_T45 l0 x12_1).f1) ((rd_T45 l0 x12_1).f2) ((rd_T45 l0 x12_1).f3) ((rd_T45 l0 x12_1).f4) ((rd_T45 l0 x12_1).f5)) else ((impl_ratioOk.f ((rd_T45 l0 x12_1).f1) ((rd_T45 l0 x12_1).f4) ((rd_T45 l0 x12_1).f5)).bind fun t255 => (impl_linesOk.j1 k1 l0 t250 t251 l0 (l0.length : Int) x12_1 (!t255) ((rd_T45 l0 x12_1).f0) ((rd_T45 l0 x12_1).f1) ((rd_T45 l0 x12_1).f2) ((rd_T45 l0 x12_1).f3) ((rd_T45 l0 x12_1).f4) ((rd_T45 l0 x12_1).f5))))) else (impl_linesOk.j1 k1 l0 t250 t251 l0 (l0.length : Int) x12_1 true ((rd_T45 l0 x12_1).f0) ((rd_T45 l0 x12_1).f1) ((rd_T45 l0 x12_1).f2) ((rd_T45 l0 x12_1).f3) ((rd_T45 l0 x12_1).f4) ((rd_T45 l0 x12_1).f5)))) else (impl_linesOk.j1 k1 l0 t250 t251 l0 (l0.length : Int) x12_1 true ((rd_T45 l0 x12_1).f0) ((rd_T45 l0 x12_1).f1) ((rd_T45 l0 x12_1).f2) ((rd_T45 l0 x12_1).f3) ((rd_T45 l0 x12_1).f4) ((rd_T45 l0 x12_1).f5)))) = some r := H
      have A5 := Aside0.mk A50
      clear A50
      have HC6 := Aside0.mk H
      clear H
      have p248 : 0 ≤ (x12_1 : Int) := of_decide_eq_true (by assumption)
      have q248 : x12_1 < (l0.length : Int) := of_decide_eq_true (by assumption)
      obtain ⟨ad248, e248, hx248_0, hx248_1, hx248_2, hx248_3, hx248_4, hx248_5⟩ := at_T45 HR0.out x12_1 p248 q248
      cases e248
      replace hx248_0 := (HB.out.cell (World.block_lt_of_cell? w _ hx248_0)).trans hx248_0
      replace hx248_1 := (HB.out.cell (World.block_lt_of_cell? w _ hx248_1)).trans hx248_1
      replace hx248_2 := (HB.out.cell (World.block_lt_of_cell? w _ hx248_2)).trans hx248_2
      replace hx248_3 := (HB.out.cell (World.block_lt_of_cell? w _ hx248_3)).trans hx248_3
      replace hx248_4 := (HB.out.cell (World.block_lt_of_cell? w _ hx248_4)).trans hx248_4
      replace hx248_5 := (HB.out.cell (World.block_lt_of_cell? w _ hx248_5)).trans hx248_5
      replace p248 := eq_true p248
      replace q248 := eq_true q248
      go_upto_region 5 with (first | ((with_reducible refine gate_dst (N := 4) rfl ?_); refine box_event ?hg (N := 4) ?hd (cs := #[.string (⟨#[]⟩ : ByteArray), .int .i8 0, .string (⟨#[]⟩ : ByteArray), .string (⟨#[]⟩ : ByteArray), .int .i64 0, .int .i64 0]) (t := 45) ?hr ?_; (case hd => rfl); (case hg => rfl); (case hr => first | (go_simp; done) | (go_simp; rfl)); intro gb249 hg w7 hbox hb; have n0_ := Aside0.mk (below_step (by repeat (first | (with_reducible first | exact HB.out | apply below_alloc | apply pw_below_drewN | apply below_drew1) | exact HB.out)) hb); have n1_ := Aside0.mk (hbox); have n2_ := Aside0.mk ((by rw [hg]; exact (below_size (by repeat (first | (with_reducible first | exact HB.out | apply below_alloc | apply pw_below_drewN | apply below_drew1) | exact HB.out))) : w.heap.size ≤ gb249)); have n3_ := Aside0.mk ((by rw [hg]; exact (below_size (by repeat (first | (with_reducible first | exact HB.out | apply below_alloc | apply pw_below_drewN | apply below_drew1) | exact HB.out))) : w.heap.size ≤ gb249)); clear HB; have HB := n0_; have BK249 := n1_; have GW249 := n2_; have GE249 := n3_; clear n0_ n1_ n2_ n3_; clear hb hbox hg; have hcz8_0 : w7.cell? ⟨gb249, 0, none⟩ = some (.string (⟨#[]⟩ : ByteArray)) := (blk_cell BK249.out 0).trans rfl; have hcz8_1 : w7.cell? ⟨gb249, 1, none⟩ = some (.int .i8 0) := (blk_cell BK249.out 1).trans rfl; have hcz8_2 : w7.cell? ⟨gb249, 2, none⟩ = some (.string (⟨#[]⟩ : ByteArray)) := (blk_cell BK249.out 2).trans rfl; have hcz8_3 : w7.cell? ⟨gb249, 3, none⟩ = some (.string (⟨#[]⟩ : ByteArray)) := (blk_cell BK249.out 3).trans rfl; have hcz8_4 : w7.cell? ⟨gb249, 4, none⟩ = some (.int .i64 0) := (blk_cell BK249.out 4).trans rfl; have hcz8_5 : w7.cell? ⟨gb249, 5, none⟩ = some (.int .i64 0) := (blk_cell BK249.out 5).trans rfl; have hfz8_0 := blk_frozen BK249.out 0; have hfz8_1 := blk_frozen BK249.out 1; have hfz8_2 := blk_frozen BK249.out 2; have hfz8_3 := blk_frozen BK249.out 3; have hfz8_4 := blk_frozen BK249.out 4; have hfz8_5 := blk_frozen BK249.out 5) | ((with_reducible refine gate_callee (f := 74) rfl ?_); refine goesL_ (some 20) rfl rfl Try.func74 (by kernel_rfl) rfl #[.int .i8 ((rd_T45 l0 x12_1).f1)] rfl (by (try simp only [List.map_toArray, List.map_cons, List.map_nil]); first | done | rfl | (simp only [List.length_drop, List.length_take]; rfl)) ?_; (with_reducible refine (impl_uses.calls k1 ((rd_T45 l0 x12_1).f1) t250 t251 t252 _ A5.out).mono ?_); rintro e w' ⟨rfl, ⟨nd, rfl⟩⟩; refine ⟨_, rfl, ?_⟩))
      (try simp only [Act.put, sA_, sB_, sC_])
      go_cut [55] (fun v55 wc => ∃ (kq : Nat) (x55_5 : Bool), v55 = .bool x55_5 ∧ Aside0 (impl_linesOk.j1 kq l0 t250 t251 l0 (l0.length : Int) x12_1 x55_5 ((rd_T45 l0 x12_1).f0) ((rd_T45 l0 x12_1).f1) ((rd_T45 l0 x12_1).f2) ((rd_T45 l0 x12_1).f3) ((rd_T45 l0 x12_1).f4) ((rd_T45 l0 x12_1).f5) = some r) ∧ Aside0 (kq ≤ k1) ∧ Aside0 (wc.heap[gb249]? = some (.cells #[.string ((rd_T45 l0 x12_1).f0), .int .i8 ((rd_T45 l0 x12_1).f1), .string ((rd_T45 l0 x12_1).f2), .string ((rd_T45 l0 x12_1).f3), .int .i64 ((rd_T45 l0 x12_1).f4), .int .i64 ((rd_T45 l0 x12_1).f5)] 45 (0, 0))) ∧ Aside0 (Below w.heap.size w wc))
      case first =>
       have H := HC6.out
       clear HC6
       replace H := Option.bind_eq_some_iff.mp H
       obtain ⟨t253, A90, H⟩ := H
       replace H : (if t253 = true then ((impl_lineOf.f l0 ((rd_T45 l0 x12_1).f0)).bind fun t254 => (if t254 = x12_1 then (if ((rd_T45 l0 x12_1).f1) < 1 then (impl_linesOk.j1 k1 l0 t250 t251 l0 (l0.length : Int) x12_1 true ((rd_T45 l0 x12_1).f0) ((rd_T45 l0 x12_1).f1) ((rd_T45 l0 x12_1).f2) ((rd_T45 l0 x12_1).f3) ((rd_T45 l0 x12_1).f4) ((rd_T45 l0 x12_1).f5)) else (if ((rd_T45 l0 x12_1).f1) > 12 then (impl_linesOk.j1 k1 l0 t250 t251 l0 (l0.length : Int) x12_1 true ((rd_T45 l0 x12_1).f0) ((rd_T45 l0 x12_1).f1) ((rd_T45 l0 x12_1).f2) ((rd_T45 l0 x12_1).f3) ((rd_T45 l0 x12_1).f4) ((rd_T45 l0 x12_1).f5)) else ((impl_ratioOk.f ((rd_T45 l0 x12_1).f1) ((rd_T45 l0 x12_1).f4) ((rd_T45 l0 x12_1).f5)).bind fun t255 => (impl_linesOk.j1 k1 l0 t250 t251 l0 (l0.length : Int) x12_1 (!t255) ((rd_T45 l0 x12_1).f0) ((rd_T45 l0 x12_1).f1) ((rd_T45 l0 x12_1).f2) ((rd_T45 l0 x12_1).f3) ((rd_T45 l0 x12_1).f4) ((rd_T45 l0 x12_1).f5))))) else (impl_linesOk.j1 k1 l0 t250 t251 l0 (l0.length : Int) x12_1 true ((rd_T45 l0 x12_1).f0) ((rd_T45 l0 x12_1).f1) ((rd_T45 l0 x12_1).f2) ((rd_T45 l0 x12_1).f3) ((rd_T45 l0 x12_1).f4) ((rd_T45 l0 x12_1).f5)))) else (impl_linesOk.j1 k1 l0 t250 t251 l0 (l0.length : Int) x12_1 true ((rd_T45 l0 x12_1).f0) ((rd_T45 l0 x12_1).f1) ((rd_T45 l0 x12_1).f2) ((rd_T45 l0 x12_1).f3) ((rd_T45 l0 x12_1).f4) ((rd_T45 l0 x12_1).f5))) = some r := H
       have A9 := Aside0.mk A90
       clear A90
       by_cases c10 : t253 = true
       ·
        subst c10
        have H1 : ((impl_lineOf.f l0 ((rd_T45 l0 x12_1).f0)).bind fun t254 => (if t254 = x12_1 then (if ((rd_T45 l0 x12_1).f1) < 1 then (impl_linesOk.j1 k1 l0 t250 t251 l0 (l0.length : Int) x12_1 true ((rd_T45 l0 x12_1).f0) ((rd_T45 l0 x12_1).f1) ((rd_T45 l0 x12_1).f2) ((rd_T45 l0 x12_1).f3) ((rd_T45 l0 x12_1).f4) ((rd_T45 l0 x12_1).f5)) else (if ((rd_T45 l0 x12_1).f1) > 12 then (impl_linesOk.j1 k1 l0 t250 t251 l0 (l0.length : Int) x12_1 true ((rd_T45 l0 x12_1).f0) ((rd_T45 l0 x12_1).f1) ((rd_T45 l0 x12_1).f2) ((rd_T45 l0 x12_1).f3) ((rd_T45 l0 x12_1).f4) ((rd_T45 l0 x12_1).f5)) else ((impl_ratioOk.f ((rd_T45 l0 x12_1).f1) ((rd_T45 l0 x12_1).f4) ((rd_T45 l0 x12_1).f5)).bind fun t255 => (impl_linesOk.j1 k1 l0 t250 t251 l0 (l0.length : Int) x12_1 (!t255) ((rd_T45 l0 x12_1).f0) ((rd_T45 l0 x12_1).f1) ((rd_T45 l0 x12_1).f2) ((rd_T45 l0 x12_1).f3) ((rd_T45 l0 x12_1).f4) ((rd_T45 l0 x12_1).f5))))) else (impl_linesOk.j1 k1 l0 t250 t251 l0 (l0.length : Int) x12_1 true ((rd_T45 l0 x12_1).f0) ((rd_T45 l0 x12_1).f1) ((rd_T45 l0 x12_1).f2) ((rd_T45 l0 x12_1).f3) ((rd_T45 l0 x12_1).f4) ((rd_T45 l0 x12_1).f5)))) = some r := by first | (rw [if_pos rfl] at H; exact H) | rfl
        clear H
        have H := H1
        clear H1
        replace H := Option.bind_eq_some_iff.mp H
        obtain ⟨t254, A110, H⟩ := H
        replace H : (if t254 = x12_1 then (if ((rd_T45 l0 x12_1).f1) < 1 then (impl_linesOk.j1 k1 l0 t250 t251 l0 (l0.length : Int) x12_1 true ((rd_T45 l0 x12_1).f0) ((rd_T45 l0 x12_1).f1) ((rd_T45 l0 x12_1).f2) ((rd_T45 l0 x12_1).f3) ((rd_T45 l0 x12_1).f4) ((rd_T45 l0 x12_1).f5)) else (if ((rd_T45 l0 x12_1).f1) > 12 then (impl_linesOk.j1 k1 l0 t250 t251 l0 (l0.length : Int) x12_1 true ((rd_T45 l0 x12_1).f0) ((rd_T45 l0 x12_1).f1) ((rd_T45 l0 x12_1).f2) ((rd_T45 l0 x12_1).f3) ((rd_T45 l0 x12_1).f4) ((rd_T45 l0 x12_1).f5)) else ((impl_ratioOk.f ((rd_T45 l0 x12_1).f1) ((rd_T45 l0 x12_1).f4) ((rd_T45 l0 x12_1).f5)).bind fun t255 => (impl_linesOk.j1 k1 l0 t250 t251 l0 (l0.length : Int) x12_1 (!t255) ((rd_T45 l0 x12_1).f0) ((rd_T45 l0 x12_1).f1) ((rd_T45 l0 x12_1).f2) ((rd_T45 l0 x12_1).f3) ((rd_T45 l0 x12_1).f4) ((rd_T45 l0 x12_1).f5))))) else (impl_linesOk.j1 k1 l0 t250 t251 l0 (l0.length : Int) x12_1 true ((rd_T45 l0 x12_1).f0) ((rd_T45 l0 x12_1).f1) ((rd_T45 l0 x12_1).f2) ((rd_T45 l0 x12_1).f3) ((rd_T45 l0 x12_1).f4) ((rd_T45 l0 x12_1).f5))) = some r := H
        have A11 := Aside0.mk A110
        clear A110
        by_cases c12 : t254 = x12_1
        ·
         rw [if_pos c12] at H
         have c12b0 : (t254 == x12_1) = true := beq_iff_eq.mpr c12
         have c12b1 : (t254 != x12_1) = false := bne_eq_false_iff_eq.mpr c12
         clear c12
         (first | rw [c12b0] | (simp only [i64_w, i32_w]; rw [c12b0]) | skip)
         by_cases c13 : ((rd_T45 l0 x12_1).f1) < 1
         ·
          rw [if_pos c13] at H
          have c13b0 : decide (((rd_T45 l0 x12_1).f1) < 1) = true := decide_eq_true c13
          clear c13
          have H' := Aside0.mk H
          clear H
          have hcz14_0 : w7.cell? ⟨gb249, 0, none⟩ = some (.string (⟨#[]⟩ : ByteArray)) := (blk_cell BK249.out 0).trans rfl
          have hcz14_1 : w7.cell? ⟨gb249, 1, none⟩ = some (.int .i8 0) := (blk_cell BK249.out 1).trans rfl
          have hcz14_2 : w7.cell? ⟨gb249, 2, none⟩ = some (.string (⟨#[]⟩ : ByteArray)) := (blk_cell BK249.out 2).trans rfl
          have hcz14_3 : w7.cell? ⟨gb249, 3, none⟩ = some (.string (⟨#[]⟩ : ByteArray)) := (blk_cell BK249.out 3).trans rfl
          have hcz14_4 : w7.cell? ⟨gb249, 4, none⟩ = some (.int .i64 0) := (blk_cell BK249.out 4).trans rfl
          have hcz14_5 : w7.cell? ⟨gb249, 5, none⟩ = some (.int .i64 0) := (blk_cell BK249.out 5).trans rfl
          have hfz14_0 := blk_frozen BK249.out 0
          have hfz14_1 := blk_frozen BK249.out 1
          have hfz14_2 := blk_frozen BK249.out 2
          have hfz14_3 := blk_frozen BK249.out 3
          have hfz14_4 := blk_frozen BK249.out 4
          have hfz14_5 := blk_frozen BK249.out 5
          go_wp2_with (first | ((with_reducible refine gate_callee (f := 90) rfl ?_); refine goesL_ (some 26) rfl rfl Try.func90 (by kernel_rfl) rfl #[.string ((rd_T45 l0 x12_1).f0)] rfl (by (try simp only [List.map_toArray, List.map_cons, List.map_nil]); first | done | rfl | (simp only [List.length_drop, List.length_take]; rfl)) ?_; (with_reducible refine (impl_lineName.calls k1 ((rd_T45 l0 x12_1).f0) true _ A9.out).mono ?_); rintro e w' ⟨rfl, ⟨nd, rfl⟩⟩; refine ⟨_, rfl, ?_⟩) | (go_at_call 79; (with_reducible refine (impl_lineOf.calls _ _ l0 ((rd_T45 l0 x12_1).f0) t254 _ ?side1 ?side2 A11.out).mono ?_); (case side1 => exact Kd.C_below HR0.out (by repeat (first | (with_reducible first | exact HB.out | apply below_alloc | apply pw_below_drewN | apply below_drew1 | refine below_set ?_ GE249.out) | exact HB.out))); (case side2 => exact HC0.out); rintro e w15 ⟨rfl, hb⟩; have n0_ := Aside0.mk (blk_below (g := gb249) (o := .cells #[.string ((rd_T45 l0 x12_1).f0), .int .i8 ((rd_T45 l0 x12_1).f1), .string ((rd_T45 l0 x12_1).f2), .string ((rd_T45 l0 x12_1).f3), .int .i64 ((rd_T45 l0 x12_1).f4), .int .i64 ((rd_T45 l0 x12_1).f5)] 45 (0, 0)) (by (with_reducible repeat (first | refine blk_drewN ?_ _ | refine blk_drew ?_ | refine blk_alloc ?_ _)); refine blk_put (cs := #[.string ((rd_T45 l0 x12_1).f0), .int .i8 ((rd_T45 l0 x12_1).f1), .string ((rd_T45 l0 x12_1).f2), .string ((rd_T45 l0 x12_1).f3), .int .i64 ((rd_T45 l0 x12_1).f4), .int .i64 0]) ?_ 5 _ rfl; (with_reducible repeat (first | refine blk_drewN ?_ _ | refine blk_drew ?_ | refine blk_alloc ?_ _)); refine blk_put (cs := #[.string ((rd_T45 l0 x12_1).f0), .int .i8 ((rd_T45 l0 x12_1).f1), .string ((rd_T45 l0 x12_1).f2), .string ((rd_T45 l0 x12_1).f3), .int .i64 0, .int .i64 0]) ?_ 4 _ rfl; (with_reducible repeat (first | refine blk_drewN ?_ _ | refine blk_drew ?_ | refine blk_alloc ?_ _)); refine blk_put (cs := #[.string ((rd_T45 l0 x12_1).f0), .int .i8 ((rd_T45 l0 x12_1).f1), .string ((rd_T45 l0 x12_1).f2), .string (⟨#[]⟩ : ByteArray), .int .i64 0, .int .i64 0]) ?_ 3 _ rfl; (with_reducible repeat (first | refine blk_drewN ?_ _ | refine blk_drew ?_ | refine blk_alloc ?_ _)); refine blk_put (cs := #[.string ((rd_T45 l0 x12_1).f0), .int .i8 ((rd_T45 l0 x12_1).f1), .string (⟨#[]⟩ : ByteArray), .string (⟨#[]⟩ : ByteArray), .int .i64 0, .int .i64 0]) ?_ 2 _ rfl; (with_reducible repeat (first | refine blk_drewN ?_ _ | refine blk_drew ?_ | refine blk_alloc ?_ _)); refine blk_put (cs := #[.string ((rd_T45 l0 x12_1).f0), .int .i8 0, .string (⟨#[]⟩ : ByteArray), .string (⟨#[]⟩ : ByteArray), .int .i64 0, .int .i64 0]) ?_ 1 _ rfl; (with_reducible repeat (first | refine blk_drewN ?_ _ | refine blk_drew ?_ | refine blk_alloc ?_ _)); refine blk_put (cs := #[.string (⟨#[]⟩ : ByteArray), .int .i8 0, .string (⟨#[]⟩ : ByteArray), .string (⟨#[]⟩ : ByteArray), .int .i64 0, .int .i64 0]) ?_ 0 _ rfl; (with_reducible repeat (first | refine blk_drewN ?_ _ | refine blk_drew ?_ | refine blk_alloc ?_ _)); exact BK249.out) hb); have n1_ := Aside0.mk (below_step (by repeat (first | (with_reducible first | exact HB.out | apply below_alloc | apply pw_below_drewN | apply below_drew1 | refine below_set ?_ GE249.out) | exact HB.out)) hb); clear BK249; clear HB; have BK249 := n0_; have HB := n1_; clear n0_ n1_; (try clear hb); (try clear hb2); (try clear hk); (try clear hi); have hcz16_0 : w15.cell? ⟨gb249, 0, none⟩ = some (.string ((rd_T45 l0 x12_1).f0)) := (blk_cell BK249.out 0).trans rfl; have hcz16_1 : w15.cell? ⟨gb249, 1, none⟩ = some (.int .i8 ((rd_T45 l0 x12_1).f1)) := (blk_cell BK249.out 1).trans rfl; have hcz16_2 : w15.cell? ⟨gb249, 2, none⟩ = some (.string ((rd_T45 l0 x12_1).f2)) := (blk_cell BK249.out 2).trans rfl; have hcz16_3 : w15.cell? ⟨gb249, 3, none⟩ = some (.string ((rd_T45 l0 x12_1).f3)) := (blk_cell BK249.out 3).trans rfl; have hcz16_4 : w15.cell? ⟨gb249, 4, none⟩ = some (.int .i64 ((rd_T45 l0 x12_1).f4)) := (blk_cell BK249.out 4).trans rfl; have hcz16_5 : w15.cell? ⟨gb249, 5, none⟩ = some (.int .i64 ((rd_T45 l0 x12_1).f5)) := (blk_cell BK249.out 5).trans rfl; have hfz16_0 := blk_frozen BK249.out 0; have hfz16_1 := blk_frozen BK249.out 1; have hfz16_2 := blk_frozen BK249.out 2; have hfz16_3 := blk_frozen BK249.out 3; have hfz16_4 := blk_frozen BK249.out 4; have hfz16_5 := blk_frozen BK249.out 5))
          go_meet
          case rel => exact ⟨_, (true), (by first | rfl | (simp; done) | (simp [*]; done) | (simp [isE_]; done)), H', ⟨by have := HK1.out; first | omega | exact Nat.le_refl _⟩, ⟨by (with_reducible repeat (first | refine blk_drewN ?_ _ | refine blk_drew ?_ | refine blk_alloc ?_ _)); exact BK249.out⟩, ⟨by repeat (first | (with_reducible first | exact HB.out | apply below_alloc | apply pw_below_drewN | apply below_drew1 | refine below_set ?_ GE249.out) | exact HB.out)⟩⟩
         ·
          rw [if_neg c13] at H
          have c13b0 : decide (((rd_T45 l0 x12_1).f1) < 1) = false := decide_eq_false c13
          clear c13
          by_cases c17 : ((rd_T45 l0 x12_1).f1) > 12
          ·
           rw [if_pos c17] at H
           have c17b0 : decide (12 < ((rd_T45 l0 x12_1).f1)) = true := decide_eq_true c17
           clear c17
           have H' := Aside0.mk H
           clear H
           have hcz18_0 : w7.cell? ⟨gb249, 0, none⟩ = some (.string (⟨#[]⟩ : ByteArray)) := (blk_cell BK249.out 0).trans rfl
           have hcz18_1 : w7.cell? ⟨gb249, 1, none⟩ = some (.int .i8 0) := (blk_cell BK249.out 1).trans rfl
           have hcz18_2 : w7.cell? ⟨gb249, 2, none⟩ = some (.string (⟨#[]⟩ : ByteArray)) := (blk_cell BK249.out 2).trans rfl
           have hcz18_3 : w7.cell? ⟨gb249, 3, none⟩ = some (.string (⟨#[]⟩ : ByteArray)) := (blk_cell BK249.out 3).trans rfl
           have hcz18_4 : w7.cell? ⟨gb249, 4, none⟩ = some (.int .i64 0) := (blk_cell BK249.out 4).trans rfl
           have hcz18_5 : w7.cell? ⟨gb249, 5, none⟩ = some (.int .i64 0) := (blk_cell BK249.out 5).trans rfl
           have hfz18_0 := blk_frozen BK249.out 0
           have hfz18_1 := blk_frozen BK249.out 1
           have hfz18_2 := blk_frozen BK249.out 2
           have hfz18_3 := blk_frozen BK249.out 3
           have hfz18_4 := blk_frozen BK249.out 4
           have hfz18_5 := blk_frozen BK249.out 5
           go_wp2_with (first | ((with_reducible refine gate_callee (f := 90) rfl ?_); refine goesL_ (some 26) rfl rfl Try.func90 (by kernel_rfl) rfl #[.string ((rd_T45 l0 x12_1).f0)] rfl (by (try simp only [List.map_toArray, List.map_cons, List.map_nil]); first | done | rfl | (simp only [List.length_drop, List.length_take]; rfl)) ?_; (with_reducible refine (impl_lineName.calls k1 ((rd_T45 l0 x12_1).f0) true _ A9.out).mono ?_); rintro e w' ⟨rfl, ⟨nd, rfl⟩⟩; refine ⟨_, rfl, ?_⟩) | (go_at_call 79; (with_reducible refine (impl_lineOf.calls _ _ l0 ((rd_T45 l0 x12_1).f0) t254 _ ?side1 ?side2 A11.out).mono ?_); (case side1 => exact Kd.C_below HR0.out (by repeat (first | (with_reducible first | exact HB.out | apply below_alloc | apply pw_below_drewN | apply below_drew1 | refine below_set ?_ GE249.out) | exact HB.out))); (case side2 => exact HC0.out); rintro e w19 ⟨rfl, hb⟩; have n0_ := Aside0.mk (blk_below (g := gb249) (o := .cells #[.string ((rd_T45 l0 x12_1).f0), .int .i8 ((rd_T45 l0 x12_1).f1), .string ((rd_T45 l0 x12_1).f2), .string ((rd_T45 l0 x12_1).f3), .int .i64 ((rd_T45 l0 x12_1).f4), .int .i64 ((rd_T45 l0 x12_1).f5)] 45 (0, 0)) (by (with_reducible repeat (first | refine blk_drewN ?_ _ | refine blk_drew ?_ | refine blk_alloc ?_ _)); refine blk_put (cs := #[.string ((rd_T45 l0 x12_1).f0), .int .i8 ((rd_T45 l0 x12_1).f1), .string ((rd_T45 l0 x12_1).f2), .string ((rd_T45 l0 x12_1).f3), .int .i64 ((rd_T45 l0 x12_1).f4), .int .i64 0]) ?_ 5 _ rfl; (with_reducible repeat (first | refine blk_drewN ?_ _ | refine blk_drew ?_ | refine blk_alloc ?_ _)); refine blk_put (cs := #[.string ((rd_T45 l0 x12_1).f0), .int .i8 ((rd_T45 l0 x12_1).f1), .string ((rd_T45 l0 x12_1).f2), .string ((rd_T45 l0 x12_1).f3), .int .i64 0, .int .i64 0]) ?_ 4 _ rfl; (with_reducible repeat (first | refine blk_drewN ?_ _ | refine blk_drew ?_ | refine blk_alloc ?_ _)); refine blk_put (cs := #[.string ((rd_T45 l0 x12_1).f0), .int .i8 ((rd_T45 l0 x12_1).f1), .string ((rd_T45 l0 x12_1).f2), .string (⟨#[]⟩ : ByteArray), .int .i64 0, .int .i64 0]) ?_ 3 _ rfl; (with_reducible repeat (first | refine blk_drewN ?_ _ | refine blk_drew ?_ | refine blk_alloc ?_ _)); refine blk_put (cs := #[.string ((rd_T45 l0 x12_1).f0), .int .i8 ((rd_T45 l0 x12_1).f1), .string (⟨#[]⟩ : ByteArray), .string (⟨#[]⟩ : ByteArray), .int .i64 0, .int .i64 0]) ?_ 2 _ rfl; (with_reducible repeat (first | refine blk_drewN ?_ _ | refine blk_drew ?_ | refine blk_alloc ?_ _)); refine blk_put (cs := #[.string ((rd_T45 l0 x12_1).f0), .int .i8 0, .string (⟨#[]⟩ : ByteArray), .string (⟨#[]⟩ : ByteArray), .int .i64 0, .int .i64 0]) ?_ 1 _ rfl; (with_reducible repeat (first | refine blk_drewN ?_ _ | refine blk_drew ?_ | refine blk_alloc ?_ _)); refine blk_put (cs := #[.string (⟨#[]⟩ : ByteArray), .int .i8 0, .string (⟨#[]⟩ : ByteArray), .string (⟨#[]⟩ : ByteArray), .int .i64 0, .int .i64 0]) ?_ 0 _ rfl; (with_reducible repeat (first | refine blk_drewN ?_ _ | refine blk_drew ?_ | refine blk_alloc ?_ _)); exact BK249.out) hb); have n1_ := Aside0.mk (below_step (by repeat (first | (with_reducible first | exact HB.out | apply below_alloc | apply pw_below_drewN | apply below_drew1 | refine below_set ?_ GE249.out) | exact HB.out)) hb); clear BK249; clear HB; have BK249 := n0_; have HB := n1_; clear n0_ n1_; (try clear hb); (try clear hb2); (try clear hk); (try clear hi); have hcz20_0 : w19.cell? ⟨gb249, 0, none⟩ = some (.string ((rd_T45 l0 x12_1).f0)) := (blk_cell BK249.out 0).trans rfl; have hcz20_1 : w19.cell? ⟨gb249, 1, none⟩ = some (.int .i8 ((rd_T45 l0 x12_1).f1)) := (blk_cell BK249.out 1).trans rfl; have hcz20_2 : w19.cell? ⟨gb249, 2, none⟩ = some (.string ((rd_T45 l0 x12_1).f2)) := (blk_cell BK249.out 2).trans rfl; have hcz20_3 : w19.cell? ⟨gb249, 3, none⟩ = some (.string ((rd_T45 l0 x12_1).f3)) := (blk_cell BK249.out 3).trans rfl; have hcz20_4 : w19.cell? ⟨gb249, 4, none⟩ = some (.int .i64 ((rd_T45 l0 x12_1).f4)) := (blk_cell BK249.out 4).trans rfl; have hcz20_5 : w19.cell? ⟨gb249, 5, none⟩ = some (.int .i64 ((rd_T45 l0 x12_1).f5)) := (blk_cell BK249.out 5).trans rfl; have hfz20_0 := blk_frozen BK249.out 0; have hfz20_1 := blk_frozen BK249.out 1; have hfz20_2 := blk_frozen BK249.out 2; have hfz20_3 := blk_frozen BK249.out 3; have hfz20_4 := blk_frozen BK249.out 4; have hfz20_5 := blk_frozen BK249.out 5))
           go_meet
           case rel => exact ⟨_, (true), (by first | rfl | (simp; done) | (simp [*]; done) | (simp [isE_]; done)), H', ⟨by have := HK1.out; first | omega | exact Nat.le_refl _⟩, ⟨by (with_reducible repeat (first | refine blk_drewN ?_ _ | refine blk_drew ?_ | refine blk_alloc ?_ _)); exact BK249.out⟩, ⟨by repeat (first | (with_reducible first | exact HB.out | apply below_alloc | apply pw_below_drewN | apply below_drew1 | refine below_set ?_ GE249.out) | exact HB.out)⟩⟩
          ·
           rw [if_neg c17] at H
           have c17b0 : decide (12 < ((rd_T45 l0 x12_1).f1)) = false := decide_eq_false c17
           clear c17
           replace H := Option.bind_eq_some_iff.mp H
           obtain ⟨t255, A210, H⟩ := H
           replace H : (impl_linesOk.j1 k1 l0 t250 t251 l0 (l0.length : Int) x12_1 (!t255) ((rd_T45 l0 x12_1).f0) ((rd_T45 l0 x12_1).f1) ((rd_T45 l0 x12_1).f2) ((rd_T45 l0 x12_1).f3) ((rd_T45 l0 x12_1).f4) ((rd_T45 l0 x12_1).f5)) = some r := H
           have A21 := Aside0.mk A210
           clear A210
           have H' := Aside0.mk H
           clear H
           have hcz22_0 : w7.cell? ⟨gb249, 0, none⟩ = some (.string (⟨#[]⟩ : ByteArray)) := (blk_cell BK249.out 0).trans rfl
           have hcz22_1 : w7.cell? ⟨gb249, 1, none⟩ = some (.int .i8 0) := (blk_cell BK249.out 1).trans rfl
           have hcz22_2 : w7.cell? ⟨gb249, 2, none⟩ = some (.string (⟨#[]⟩ : ByteArray)) := (blk_cell BK249.out 2).trans rfl
           have hcz22_3 : w7.cell? ⟨gb249, 3, none⟩ = some (.string (⟨#[]⟩ : ByteArray)) := (blk_cell BK249.out 3).trans rfl
           have hcz22_4 : w7.cell? ⟨gb249, 4, none⟩ = some (.int .i64 0) := (blk_cell BK249.out 4).trans rfl
           have hcz22_5 : w7.cell? ⟨gb249, 5, none⟩ = some (.int .i64 0) := (blk_cell BK249.out 5).trans rfl
           have hfz22_0 := blk_frozen BK249.out 0
           have hfz22_1 := blk_frozen BK249.out 1
           have hfz22_2 := blk_frozen BK249.out 2
           have hfz22_3 := blk_frozen BK249.out 3
           have hfz22_4 := blk_frozen BK249.out 4
           have hfz22_5 := blk_frozen BK249.out 5
           go_wp2_with (first | ((with_reducible refine gate_callee (f := 90) rfl ?_); refine goesL_ (some 26) rfl rfl Try.func90 (by kernel_rfl) rfl #[.string ((rd_T45 l0 x12_1).f0)] rfl (by (try simp only [List.map_toArray, List.map_cons, List.map_nil]); first | done | rfl | (simp only [List.length_drop, List.length_take]; rfl)) ?_; (with_reducible refine (impl_lineName.calls k1 ((rd_T45 l0 x12_1).f0) true _ A9.out).mono ?_); rintro e w' ⟨rfl, ⟨nd, rfl⟩⟩; refine ⟨_, rfl, ?_⟩) | (go_at_call 79; (with_reducible refine (impl_lineOf.calls _ _ l0 ((rd_T45 l0 x12_1).f0) t254 _ ?side1 ?side2 A11.out).mono ?_); (case side1 => exact Kd.C_below HR0.out (by repeat (first | (with_reducible first | exact HB.out | apply below_alloc | apply pw_below_drewN | apply below_drew1 | refine below_set ?_ GE249.out) | exact HB.out))); (case side2 => exact HC0.out); rintro e w23 ⟨rfl, hb⟩; have n0_ := Aside0.mk (blk_below (g := gb249) (o := .cells #[.string ((rd_T45 l0 x12_1).f0), .int .i8 ((rd_T45 l0 x12_1).f1), .string ((rd_T45 l0 x12_1).f2), .string ((rd_T45 l0 x12_1).f3), .int .i64 ((rd_T45 l0 x12_1).f4), .int .i64 ((rd_T45 l0 x12_1).f5)] 45 (0, 0)) (by (with_reducible repeat (first | refine blk_drewN ?_ _ | refine blk_drew ?_ | refine blk_alloc ?_ _)); refine blk_put (cs := #[.string ((rd_T45 l0 x12_1).f0), .int .i8 ((rd_T45 l0 x12_1).f1), .string ((rd_T45 l0 x12_1).f2), .string ((rd_T45 l0 x12_1).f3), .int .i64 ((rd_T45 l0 x12_1).f4), .int .i64 0]) ?_ 5 _ rfl; (with_reducible repeat (first | refine blk_drewN ?_ _ | refine blk_drew ?_ | refine blk_alloc ?_ _)); refine blk_put (cs := #[.string ((rd_T45 l0 x12_1).f0), .int .i8 ((rd_T45 l0 x12_1).f1), .string ((rd_T45 l0 x12_1).f2), .string ((rd_T45 l0 x12_1).f3), .int .i64 0, .int .i64 0]) ?_ 4 _ rfl; (with_reducible repeat (first | refine blk_drewN ?_ _ | refine blk_drew ?_ | refine blk_alloc ?_ _)); refine blk_put (cs := #[.string ((rd_T45 l0 x12_1).f0), .int .i8 ((rd_T45 l0 x12_1).f1), .string ((rd_T45 l0 x12_1).f2), .string (⟨#[]⟩ : ByteArray), .int .i64 0, .int .i64 0]) ?_ 3 _ rfl; (with_reducible repeat (first | refine blk_drewN ?_ _ | refine blk_drew ?_ | refine blk_alloc ?_ _)); refine blk_put (cs := #[.string ((rd_T45 l0 x12_1).f0), .int .i8 ((rd_T45 l0 x12_1).f1), .string (⟨#[]⟩ : ByteArray), .string (⟨#[]⟩ : ByteArray), .int .i64 0, .int .i64 0]) ?_ 2 _ rfl; (with_reducible repeat (first | refine blk_drewN ?_ _ | refine blk_drew ?_ | refine blk_alloc ?_ _)); refine blk_put (cs := #[.string ((rd_T45 l0 x12_1).f0), .int .i8 0, .string (⟨#[]⟩ : ByteArray), .string (⟨#[]⟩ : ByteArray), .int .i64 0, .int .i64 0]) ?_ 1 _ rfl; (with_reducible repeat (first | refine blk_drewN ?_ _ | refine blk_drew ?_ | refine blk_alloc ?_ _)); refine blk_put (cs := #[.string (⟨#[]⟩ : ByteArray), .int .i8 0, .string (⟨#[]⟩ : ByteArray), .string (⟨#[]⟩ : ByteArray), .int .i64 0, .int .i64 0]) ?_ 0 _ rfl; (with_reducible repeat (first | refine blk_drewN ?_ _ | refine blk_drew ?_ | refine blk_alloc ?_ _)); exact BK249.out) hb); have n1_ := Aside0.mk (below_step (by repeat (first | (with_reducible first | exact HB.out | apply below_alloc | apply pw_below_drewN | apply below_drew1 | refine below_set ?_ GE249.out) | exact HB.out)) hb); clear BK249; clear HB; have BK249 := n0_; have HB := n1_; clear n0_ n1_; (try clear hb); (try clear hb2); (try clear hk); (try clear hi); have hcz24_0 : w23.cell? ⟨gb249, 0, none⟩ = some (.string ((rd_T45 l0 x12_1).f0)) := (blk_cell BK249.out 0).trans rfl; have hcz24_1 : w23.cell? ⟨gb249, 1, none⟩ = some (.int .i8 ((rd_T45 l0 x12_1).f1)) := (blk_cell BK249.out 1).trans rfl; have hcz24_2 : w23.cell? ⟨gb249, 2, none⟩ = some (.string ((rd_T45 l0 x12_1).f2)) := (blk_cell BK249.out 2).trans rfl; have hcz24_3 : w23.cell? ⟨gb249, 3, none⟩ = some (.string ((rd_T45 l0 x12_1).f3)) := (blk_cell BK249.out 3).trans rfl; have hcz24_4 : w23.cell? ⟨gb249, 4, none⟩ = some (.int .i64 ((rd_T45 l0 x12_1).f4)) := (blk_cell BK249.out 4).trans rfl; have hcz24_5 : w23.cell? ⟨gb249, 5, none⟩ = some (.int .i64 ((rd_T45 l0 x12_1).f5)) := (blk_cell BK249.out 5).trans rfl; have hfz24_0 := blk_frozen BK249.out 0; have hfz24_1 := blk_frozen BK249.out 1; have hfz24_2 := blk_frozen BK249.out 2; have hfz24_3 := blk_frozen BK249.out 3; have hfz24_4 := blk_frozen BK249.out 4; have hfz24_5 := blk_frozen BK249.out 5) | (go_at_call 105; (with_reducible refine (impl_ratioOk.calls ((rd_T45 l0 x12_1).f1) ((rd_T45 l0 x12_1).f4) ((rd_T45 l0 x12_1).f5) t255 _ A21.out).mono ?_); rintro e w' ⟨rfl, ⟨nd, rfl⟩⟩))
           go_meet
           case rel => exact ⟨_, (!t255), (by first | rfl | (simp; done) | (simp [*]; done) | (simp [isE_]; done)), H', ⟨by have := HK1.out; first | omega | exact Nat.le_refl _⟩, ⟨by (with_reducible repeat (first | refine blk_drewN ?_ _ | refine blk_drew ?_ | refine blk_alloc ?_ _)); exact BK249.out⟩, ⟨by repeat (first | (with_reducible first | exact HB.out | apply below_alloc | apply pw_below_drewN | apply below_drew1 | refine below_set ?_ GE249.out) | exact HB.out)⟩⟩
        ·
         rw [if_neg c12] at H
         have c12b0 : (t254 == x12_1) = false := beq_eq_false_iff_ne.mpr c12
         have c12b1 : (t254 != x12_1) = true := bne_iff_ne.mpr c12
         (first | rw [c12b0] | (simp only [i64_w, i32_w]; rw [c12b0]) | skip)
         have H' := Aside0.mk H
         clear H
         have hcz25_0 : w7.cell? ⟨gb249, 0, none⟩ = some (.string (⟨#[]⟩ : ByteArray)) := (blk_cell BK249.out 0).trans rfl
         have hcz25_1 : w7.cell? ⟨gb249, 1, none⟩ = some (.int .i8 0) := (blk_cell BK249.out 1).trans rfl
         have hcz25_2 : w7.cell? ⟨gb249, 2, none⟩ = some (.string (⟨#[]⟩ : ByteArray)) := (blk_cell BK249.out 2).trans rfl
         have hcz25_3 : w7.cell? ⟨gb249, 3, none⟩ = some (.string (⟨#[]⟩ : ByteArray)) := (blk_cell BK249.out 3).trans rfl
         have hcz25_4 : w7.cell? ⟨gb249, 4, none⟩ = some (.int .i64 0) := (blk_cell BK249.out 4).trans rfl
         have hcz25_5 : w7.cell? ⟨gb249, 5, none⟩ = some (.int .i64 0) := (blk_cell BK249.out 5).trans rfl
         have hfz25_0 := blk_frozen BK249.out 0
         have hfz25_1 := blk_frozen BK249.out 1
         have hfz25_2 := blk_frozen BK249.out 2
         have hfz25_3 := blk_frozen BK249.out 3
         have hfz25_4 := blk_frozen BK249.out 4
         have hfz25_5 := blk_frozen BK249.out 5
         go_wp2_with (first | ((with_reducible refine gate_callee (f := 90) rfl ?_); refine goesL_ (some 26) rfl rfl Try.func90 (by kernel_rfl) rfl #[.string ((rd_T45 l0 x12_1).f0)] rfl (by (try simp only [List.map_toArray, List.map_cons, List.map_nil]); first | done | rfl | (simp only [List.length_drop, List.length_take]; rfl)) ?_; (with_reducible refine (impl_lineName.calls k1 ((rd_T45 l0 x12_1).f0) true _ A9.out).mono ?_); rintro e w' ⟨rfl, ⟨nd, rfl⟩⟩; refine ⟨_, rfl, ?_⟩) | (go_at_call 79; (with_reducible refine (impl_lineOf.calls _ _ l0 ((rd_T45 l0 x12_1).f0) t254 _ ?side1 ?side2 A11.out).mono ?_); (case side1 => exact Kd.C_below HR0.out (by repeat (first | (with_reducible first | exact HB.out | apply below_alloc | apply pw_below_drewN | apply below_drew1 | refine below_set ?_ GE249.out) | exact HB.out))); (case side2 => exact HC0.out); rintro e w26 ⟨rfl, hb⟩; have n0_ := Aside0.mk (blk_below (g := gb249) (o := .cells #[.string ((rd_T45 l0 x12_1).f0), .int .i8 ((rd_T45 l0 x12_1).f1), .string ((rd_T45 l0 x12_1).f2), .string ((rd_T45 l0 x12_1).f3), .int .i64 ((rd_T45 l0 x12_1).f4), .int .i64 ((rd_T45 l0 x12_1).f5)] 45 (0, 0)) (by (with_reducible repeat (first | refine blk_drewN ?_ _ | refine blk_drew ?_ | refine blk_alloc ?_ _)); refine blk_put (cs := #[.string ((rd_T45 l0 x12_1).f0), .int .i8 ((rd_T45 l0 x12_1).f1), .string ((rd_T45 l0 x12_1).f2), .string ((rd_T45 l0 x12_1).f3), .int .i64 ((rd_T45 l0 x12_1).f4), .int .i64 0]) ?_ 5 _ rfl; (with_reducible repeat (first | refine blk_drewN ?_ _ | refine blk_drew ?_ | refine blk_alloc ?_ _)); refine blk_put (cs := #[.string ((rd_T45 l0 x12_1).f0), .int .i8 ((rd_T45 l0 x12_1).f1), .string ((rd_T45 l0 x12_1).f2), .string ((rd_T45 l0 x12_1).f3), .int .i64 0, .int .i64 0]) ?_ 4 _ rfl; (with_reducible repeat (first | refine blk_drewN ?_ _ | refine blk_drew ?_ | refine blk_alloc ?_ _)); refine blk_put (cs := #[.string ((rd_T45 l0 x12_1).f0), .int .i8 ((rd_T45 l0 x12_1).f1), .string ((rd_T45 l0 x12_1).f2), .string (⟨#[]⟩ : ByteArray), .int .i64 0, .int .i64 0]) ?_ 3 _ rfl; (with_reducible repeat (first | refine blk_drewN ?_ _ | refine blk_drew ?_ | refine blk_alloc ?_ _)); refine blk_put (cs := #[.string ((rd_T45 l0 x12_1).f0), .int .i8 ((rd_T45 l0 x12_1).f1), .string (⟨#[]⟩ : ByteArray), .string (⟨#[]⟩ : ByteArray), .int .i64 0, .int .i64 0]) ?_ 2 _ rfl; (with_reducible repeat (first | refine blk_drewN ?_ _ | refine blk_drew ?_ | refine blk_alloc ?_ _)); refine blk_put (cs := #[.string ((rd_T45 l0 x12_1).f0), .int .i8 0, .string (⟨#[]⟩ : ByteArray), .string (⟨#[]⟩ : ByteArray), .int .i64 0, .int .i64 0]) ?_ 1 _ rfl; (with_reducible repeat (first | refine blk_drewN ?_ _ | refine blk_drew ?_ | refine blk_alloc ?_ _)); refine blk_put (cs := #[.string (⟨#[]⟩ : ByteArray), .int .i8 0, .string (⟨#[]⟩ : ByteArray), .string (⟨#[]⟩ : ByteArray), .int .i64 0, .int .i64 0]) ?_ 0 _ rfl; (with_reducible repeat (first | refine blk_drewN ?_ _ | refine blk_drew ?_ | refine blk_alloc ?_ _)); exact BK249.out) hb); have n1_ := Aside0.mk (below_step (by repeat (first | (with_reducible first | exact HB.out | apply below_alloc | apply pw_below_drewN | apply below_drew1 | refine below_set ?_ GE249.out) | exact HB.out)) hb); clear BK249; clear HB; have BK249 := n0_; have HB := n1_; clear n0_ n1_; (try clear hb); (try clear hb2); (try clear hk); (try clear hi)))
         go_meet
         case rel => exact ⟨_, (true), (by first | rfl | (simp; done) | (simp [*]; done) | (simp [isE_]; done)), H', ⟨by have := HK1.out; first | omega | exact Nat.le_refl _⟩, ⟨by (with_reducible repeat (first | refine blk_drewN ?_ _ | refine blk_drew ?_ | refine blk_alloc ?_ _)); exact BK249.out⟩, ⟨by repeat (first | (with_reducible first | exact HB.out | apply below_alloc | apply pw_below_drewN | apply below_drew1 | refine below_set ?_ GE249.out) | exact HB.out)⟩⟩
       ·
        replace c10 := Bool.eq_false_iff.mpr c10
        subst c10
        have H1 : (impl_linesOk.j1 k1 l0 t250 t251 l0 (l0.length : Int) x12_1 true ((rd_T45 l0 x12_1).f0) ((rd_T45 l0 x12_1).f1) ((rd_T45 l0 x12_1).f2) ((rd_T45 l0 x12_1).f3) ((rd_T45 l0 x12_1).f4) ((rd_T45 l0 x12_1).f5)) = some r := by first | (rw [if_neg (show ¬ (false = true) by decide)] at H; exact H) | rfl
        clear H
        have H := H1
        clear H1
        have H' := Aside0.mk H
        clear H
        have hcz27_0 : w7.cell? ⟨gb249, 0, none⟩ = some (.string (⟨#[]⟩ : ByteArray)) := (blk_cell BK249.out 0).trans rfl
        have hcz27_1 : w7.cell? ⟨gb249, 1, none⟩ = some (.int .i8 0) := (blk_cell BK249.out 1).trans rfl
        have hcz27_2 : w7.cell? ⟨gb249, 2, none⟩ = some (.string (⟨#[]⟩ : ByteArray)) := (blk_cell BK249.out 2).trans rfl
        have hcz27_3 : w7.cell? ⟨gb249, 3, none⟩ = some (.string (⟨#[]⟩ : ByteArray)) := (blk_cell BK249.out 3).trans rfl
        have hcz27_4 : w7.cell? ⟨gb249, 4, none⟩ = some (.int .i64 0) := (blk_cell BK249.out 4).trans rfl
        have hcz27_5 : w7.cell? ⟨gb249, 5, none⟩ = some (.int .i64 0) := (blk_cell BK249.out 5).trans rfl
        have hfz27_0 := blk_frozen BK249.out 0
        have hfz27_1 := blk_frozen BK249.out 1
        have hfz27_2 := blk_frozen BK249.out 2
        have hfz27_3 := blk_frozen BK249.out 3
        have hfz27_4 := blk_frozen BK249.out 4
        have hfz27_5 := blk_frozen BK249.out 5
        go_wp2_with (first | ((with_reducible refine gate_callee (f := 90) rfl ?_); refine goesL_ (some 26) rfl rfl Try.func90 (by kernel_rfl) rfl #[.string ((rd_T45 l0 x12_1).f0)] rfl (by (try simp only [List.map_toArray, List.map_cons, List.map_nil]); first | done | rfl | (simp only [List.length_drop, List.length_take]; rfl)) ?_; (with_reducible refine (impl_lineName.calls k1 ((rd_T45 l0 x12_1).f0) false _ A9.out).mono ?_); rintro e w' ⟨rfl, ⟨nd, rfl⟩⟩; refine ⟨_, rfl, ?_⟩))
        go_meet
        case rel => exact ⟨_, (true), (by first | rfl | (simp; done) | (simp [*]; done) | (simp [isE_]; done)), H', ⟨by have := HK1.out; first | omega | exact Nat.le_refl _⟩, ⟨by (with_reducible repeat (first | refine blk_drewN ?_ _ | refine blk_drew ?_ | refine blk_alloc ?_ _)); refine blk_put (cs := #[.string ((rd_T45 l0 x12_1).f0), .int .i8 ((rd_T45 l0 x12_1).f1), .string ((rd_T45 l0 x12_1).f2), .string ((rd_T45 l0 x12_1).f3), .int .i64 ((rd_T45 l0 x12_1).f4), .int .i64 0]) ?_ 5 _ rfl; (with_reducible repeat (first | refine blk_drewN ?_ _ | refine blk_drew ?_ | refine blk_alloc ?_ _)); refine blk_put (cs := #[.string ((rd_T45 l0 x12_1).f0), .int .i8 ((rd_T45 l0 x12_1).f1), .string ((rd_T45 l0 x12_1).f2), .string ((rd_T45 l0 x12_1).f3), .int .i64 0, .int .i64 0]) ?_ 4 _ rfl; (with_reducible repeat (first | refine blk_drewN ?_ _ | refine blk_drew ?_ | refine blk_alloc ?_ _)); refine blk_put (cs := #[.string ((rd_T45 l0 x12_1).f0), .int .i8 ((rd_T45 l0 x12_1).f1), .string ((rd_T45 l0 x12_1).f2), .string (⟨#[]⟩ : ByteArray), .int .i64 0, .int .i64 0]) ?_ 3 _ rfl; (with_reducible repeat (first | refine blk_drewN ?_ _ | refine blk_drew ?_ | refine blk_alloc ?_ _)); refine blk_put (cs := #[.string ((rd_T45 l0 x12_1).f0), .int .i8 ((rd_T45 l0 x12_1).f1), .string (⟨#[]⟩ : ByteArray), .string (⟨#[]⟩ : ByteArray), .int .i64 0, .int .i64 0]) ?_ 2 _ rfl; (with_reducible repeat (first | refine blk_drewN ?_ _ | refine blk_drew ?_ | refine blk_alloc ?_ _)); refine blk_put (cs := #[.string ((rd_T45 l0 x12_1).f0), .int .i8 0, .string (⟨#[]⟩ : ByteArray), .string (⟨#[]⟩ : ByteArray), .int .i64 0, .int .i64 0]) ?_ 1 _ rfl; (with_reducible repeat (first | refine blk_drewN ?_ _ | refine blk_drew ?_ | refine blk_alloc ?_ _)); refine blk_put (cs := #[.string (⟨#[]⟩ : ByteArray), .int .i8 0, .string (⟨#[]⟩ : ByteArray), .string (⟨#[]⟩ : ByteArray), .int .i64 0, .int .i64 0]) ?_ 0 _ rfl; (with_reducible repeat (first | refine blk_drewN ?_ _ | refine blk_drew ?_ | refine blk_alloc ?_ _)); exact BK249.out⟩, ⟨by repeat (first | (with_reducible first | exact HB.out | apply below_alloc | apply pw_below_drewN | apply below_drew1 | refine below_set ?_ GE249.out) | exact HB.out)⟩⟩
      case rest =>
       clear HC6
       try clear c1
       try clear c2
       try clear c2b0
       try clear p2
       try clear q2
       try clear hx2
       try clear c3
       try clear c3b0
       try clear c4
       try clear c4b0
       try clear c6
       try clear c7
       try clear c9
       try clear c10
       try clear c12
       try clear c12b0
       try clear c12b1
       try clear c13
       try clear c13b0
       try clear c17
       try clear c17b0
       try clear p24
       try clear q24
       try clear hx24
       try clear hcz14_0
       try clear hcz14_1
       try clear hcz14_2
       try clear hcz14_3
       try clear hcz14_4
       try clear hcz14_5
       try clear hcz16_0
       try clear hcz16_1
       try clear hcz16_2
       try clear hcz16_3
       try clear hcz16_4
       try clear hcz16_5
       try clear hcz18_0
       try clear hcz18_1
       try clear hcz18_2
       try clear hcz18_3
       try clear hcz18_4
       try clear hcz18_5
       try clear hcz20_0
       try clear hcz20_1
       try clear hcz20_2
       try clear hcz20_3
       try clear hcz20_4
       try clear hcz20_5
       try clear hcz22_0
       try clear hcz22_1
       try clear hcz22_2
       try clear hcz22_3
       try clear hcz22_4
       try clear hcz22_5
       try clear hcz24_0
       try clear hcz24_1
       try clear hcz24_2
       try clear hcz24_3
       try clear hcz24_4
       try clear hcz24_5
       try clear hcz25_0
       try clear hcz25_1
       try clear hcz25_2
       try clear hcz25_3
       try clear hcz25_4
       try clear hcz25_5
       try clear hcz27_0
       try clear hcz27_1
       try clear hcz27_2
       try clear hcz27_3
       try clear hcz27_4
       try clear hcz27_5
       try clear hcz8_0
       try clear hcz8_1
       try clear hcz8_2
       try clear hcz8_3
       try clear hcz8_4
       try clear hcz8_5
       try clear hfz14_0
       try clear hfz14_1
       try clear hfz14_2
       try clear hfz14_3
       try clear hfz14_4
       try clear hfz14_5
       try clear hfz16_0
       try clear hfz16_1
       try clear hfz16_2
       try clear hfz16_3
       try clear hfz16_4
       try clear hfz16_5
       try clear hfz18_0
       try clear hfz18_1
       try clear hfz18_2
       try clear hfz18_3
       try clear hfz18_4
       try clear hfz18_5
       try clear hfz20_0
       try clear hfz20_1
       try clear hfz20_2
       try clear hfz20_3
       try clear hfz20_4
       try clear hfz20_5
       try clear hfz22_0
       try clear hfz22_1
       try clear hfz22_2
       try clear hfz22_3
       try clear hfz22_4
       try clear hfz22_5
       try clear hfz24_0
       try clear hfz24_1
       try clear hfz24_2
       try clear hfz24_3
       try clear hfz24_4
       try clear hfz24_5
       try clear hfz25_0
       try clear hfz25_1
       try clear hfz25_2
       try clear hfz25_3
       try clear hfz25_4
       try clear hfz25_5
       try clear hfz27_0
       try clear hfz27_1
       try clear hfz27_2
       try clear hfz27_3
       try clear hfz27_4
       try clear hfz27_5
       try clear hfz8_0
       try clear hfz8_1
       try clear hfz8_2
       try clear hfz8_3
       try clear hfz8_4
       try clear hfz8_5
       try clear hx248_0
       try clear hx248_1
       try clear hx248_2
       try clear hx248_3
       try clear hx248_4
       try clear hx248_5
       try clear p248
       try clear q248
       obtain ⟨kq, x55_5, rfl, HA, HJ5, BK249, HB⟩ := hcut
       cases kq with
       | zero => exact absurd HA.out (by simp [impl_linesOk.j1])
       | succ kj5 =>
        have H := HA.out
        clear HA
        simp only [impl_linesOk.j1] at H
        by_cases c28 : x55_5 = true
        ·
         subst c28
         have H1 : (some false) = some r := by first | (rw [if_pos rfl] at H; exact H) | rfl
         clear H
         have H := H1
         clear H1
         obtain rfl := Option.some.inj H
         go_wp2
         go_ret
         exact ⟨by first | rfl | (simp [errW_none, errW_some] <;> rfl) | (simp [*, errW_none, errW_some] <;> rfl), by repeat (first | (with_reducible first | exact HB.out | apply below_alloc | apply pw_below_drewN | apply below_drew1 | refine below_set ?_ GE249.out) | exact HB.out)⟩
        ·
         replace c28 := Bool.eq_false_iff.mpr c28
         subst c28
         have H1 : (if t250 = true then (if t251 = true then (impl_linesOk.j2 kj5 l0 l0 (l0.length : Int) x12_1 false ((rd_T45 l0 x12_1).f0) ((rd_T45 l0 x12_1).f1) ((rd_T45 l0 x12_1).f2) ((rd_T45 l0 x12_1).f3) ((rd_T45 l0 x12_1).f4) ((rd_T45 l0 x12_1).f5)) else (impl_linesOk.j2 kj5 l0 l0 (l0.length : Int) x12_1 (((rd_T45 l0 x12_1).f3).toList != ([] : List UInt8)) ((rd_T45 l0 x12_1).f0) ((rd_T45 l0 x12_1).f1) ((rd_T45 l0 x12_1).f2) ((rd_T45 l0 x12_1).f3) ((rd_T45 l0 x12_1).f4) ((rd_T45 l0 x12_1).f5))) else (if ((rd_T45 l0 x12_1).f2).toList = ([] : List UInt8) then (if t251 = true then (impl_linesOk.j2 kj5 l0 l0 (l0.length : Int) x12_1 false ((rd_T45 l0 x12_1).f0) ((rd_T45 l0 x12_1).f1) ((rd_T45 l0 x12_1).f2) ((rd_T45 l0 x12_1).f3) ((rd_T45 l0 x12_1).f4) ((rd_T45 l0 x12_1).f5)) else (impl_linesOk.j2 kj5 l0 l0 (l0.length : Int) x12_1 (((rd_T45 l0 x12_1).f3).toList != ([] : List UInt8)) ((rd_T45 l0 x12_1).f0) ((rd_T45 l0 x12_1).f1) ((rd_T45 l0 x12_1).f2) ((rd_T45 l0 x12_1).f3) ((rd_T45 l0 x12_1).f4) ((rd_T45 l0 x12_1).f5))) else (impl_linesOk.j2 kj5 l0 l0 (l0.length : Int) x12_1 true ((rd_T45 l0 x12_1).f0) ((rd_T45 l0 x12_1).f1) ((rd_T45 l0 x12_1).f2) ((rd_T45 l0 x12_1).f3) ((rd_T45 l0 x12_1).f4) ((rd_T45 l0 x12_1).f5)))) = some r := by first | (rw [if_neg (show ¬ (false = true) by decide)] at H; exact H) | rfl
         clear H
         have H := H1
         clear H1
         have HC29 := Aside0.mk H
         clear H
         go_upto_region 7 with (fail)
         go_cut [71] (fun v71 wc => ∃ (kq : Nat) (x71_28 : Bool), v71 = .bool x71_28 ∧ Aside0 (impl_linesOk.j2 kq l0 l0 (l0.length : Int) x12_1 x71_28 ((rd_T45 l0 x12_1).f0) ((rd_T45 l0 x12_1).f1) ((rd_T45 l0 x12_1).f2) ((rd_T45 l0 x12_1).f3) ((rd_T45 l0 x12_1).f4) ((rd_T45 l0 x12_1).f5) = some r) ∧ Aside0 (kq ≤ kj5) ∧ Aside0 (wc.heap[gb249]? = some (.cells #[.string ((rd_T45 l0 x12_1).f0), .int .i8 ((rd_T45 l0 x12_1).f1), .string ((rd_T45 l0 x12_1).f2), .string ((rd_T45 l0 x12_1).f3), .int .i64 ((rd_T45 l0 x12_1).f4), .int .i64 ((rd_T45 l0 x12_1).f5)] 45 (0, 0))) ∧ Aside0 (Below w.heap.size w wc))
         case first =>
          have H := HC29.out
          clear HC29
          by_cases c30 : t250 = true
          ·
           subst c30
           have H1 : (if t251 = true then (impl_linesOk.j2 kj5 l0 l0 (l0.length : Int) x12_1 false ((rd_T45 l0 x12_1).f0) ((rd_T45 l0 x12_1).f1) ((rd_T45 l0 x12_1).f2) ((rd_T45 l0 x12_1).f3) ((rd_T45 l0 x12_1).f4) ((rd_T45 l0 x12_1).f5)) else (impl_linesOk.j2 kj5 l0 l0 (l0.length : Int) x12_1 (((rd_T45 l0 x12_1).f3).toList != ([] : List UInt8)) ((rd_T45 l0 x12_1).f0) ((rd_T45 l0 x12_1).f1) ((rd_T45 l0 x12_1).f2) ((rd_T45 l0 x12_1).f3) ((rd_T45 l0 x12_1).f4) ((rd_T45 l0 x12_1).f5))) = some r := by first | (rw [if_pos rfl] at H; exact H) | rfl
           clear H
           have H := H1
           clear H1
           by_cases c31 : t251 = true
           ·
            subst c31
            have H1 : (impl_linesOk.j2 kj5 l0 l0 (l0.length : Int) x12_1 false ((rd_T45 l0 x12_1).f0) ((rd_T45 l0 x12_1).f1) ((rd_T45 l0 x12_1).f2) ((rd_T45 l0 x12_1).f3) ((rd_T45 l0 x12_1).f4) ((rd_T45 l0 x12_1).f5)) = some r := by first | (rw [if_pos rfl] at H; exact H) | rfl
            clear H
            have H := H1
            clear H1
            have H' := Aside0.mk H
            clear H
            go_wp2
            go_meet
            case rel => exact ⟨_, (false), (by first | rfl | (simp; done) | (simp [*]; done) | (simp [isE_]; done)), H', ⟨by have := HK1.out; have := HJ5.out; first | omega | exact Nat.le_refl _⟩, ⟨by (with_reducible repeat (first | refine blk_drewN ?_ _ | refine blk_drew ?_ | refine blk_alloc ?_ _)); exact BK249.out⟩, ⟨by repeat (first | (with_reducible first | exact HB.out | apply below_alloc | apply pw_below_drewN | apply below_drew1 | refine below_set ?_ GE249.out) | exact HB.out)⟩⟩
           ·
            replace c31 := Bool.eq_false_iff.mpr c31
            subst c31
            have H1 : (impl_linesOk.j2 kj5 l0 l0 (l0.length : Int) x12_1 (((rd_T45 l0 x12_1).f3).toList != ([] : List UInt8)) ((rd_T45 l0 x12_1).f0) ((rd_T45 l0 x12_1).f1) ((rd_T45 l0 x12_1).f2) ((rd_T45 l0 x12_1).f3) ((rd_T45 l0 x12_1).f4) ((rd_T45 l0 x12_1).f5)) = some r := by first | (rw [if_neg (show ¬ (false = true) by decide)] at H; exact H) | rfl
            clear H
            have H := H1
            clear H1
            have H' := Aside0.mk H
            clear H
            have hcz32_0 : wc.cell? ⟨gb249, 0, none⟩ = some (.string ((rd_T45 l0 x12_1).f0)) := (blk_cell BK249.out 0).trans rfl
            have hcz32_1 : wc.cell? ⟨gb249, 1, none⟩ = some (.int .i8 ((rd_T45 l0 x12_1).f1)) := (blk_cell BK249.out 1).trans rfl
            have hcz32_2 : wc.cell? ⟨gb249, 2, none⟩ = some (.string ((rd_T45 l0 x12_1).f2)) := (blk_cell BK249.out 2).trans rfl
            have hcz32_3 : wc.cell? ⟨gb249, 3, none⟩ = some (.string ((rd_T45 l0 x12_1).f3)) := (blk_cell BK249.out 3).trans rfl
            have hcz32_4 : wc.cell? ⟨gb249, 4, none⟩ = some (.int .i64 ((rd_T45 l0 x12_1).f4)) := (blk_cell BK249.out 4).trans rfl
            have hcz32_5 : wc.cell? ⟨gb249, 5, none⟩ = some (.int .i64 ((rd_T45 l0 x12_1).f5)) := (blk_cell BK249.out 5).trans rfl
            have hfz32_0 := blk_frozen BK249.out 0
            have hfz32_1 := blk_frozen BK249.out 1
            have hfz32_2 := blk_frozen BK249.out 2
            have hfz32_3 := blk_frozen BK249.out 3
            have hfz32_4 := blk_frozen BK249.out 4
            have hfz32_5 := blk_frozen BK249.out 5
            go_wp2
            go_meet
            case rel => exact ⟨_, ((((rd_T45 l0 x12_1).f3).toList != ([] : List UInt8))), (by first | rfl | (simp; done) | (simp [*]; done) | (simp [isE_]; done)), H', ⟨by have := HK1.out; have := HJ5.out; first | omega | exact Nat.le_refl _⟩, ⟨by (with_reducible repeat (first | refine blk_drewN ?_ _ | refine blk_drew ?_ | refine blk_alloc ?_ _)); exact BK249.out⟩, ⟨by repeat (first | (with_reducible first | exact HB.out | apply below_alloc | apply pw_below_drewN | apply below_drew1 | refine below_set ?_ GE249.out) | exact HB.out)⟩⟩
          ·
           replace c30 := Bool.eq_false_iff.mpr c30
           subst c30
           have H1 : (if ((rd_T45 l0 x12_1).f2).toList = ([] : List UInt8) then (if t251 = true then (impl_linesOk.j2 kj5 l0 l0 (l0.length : Int) x12_1 false ((rd_T45 l0 x12_1).f0) ((rd_T45 l0 x12_1).f1) ((rd_T45 l0 x12_1).f2) ((rd_T45 l0 x12_1).f3) ((rd_T45 l0 x12_1).f4) ((rd_T45 l0 x12_1).f5)) else (impl_linesOk.j2 kj5 l0 l0 (l0.length : Int) x12_1 (((rd_T45 l0 x12_1).f3).toList != ([] : List UInt8)) ((rd_T45 l0 x12_1).f0) ((rd_T45 l0 x12_1).f1) ((rd_T45 l0 x12_1).f2) ((rd_T45 l0 x12_1).f3) ((rd_T45 l0 x12_1).f4) ((rd_T45 l0 x12_1).f5))) else (impl_linesOk.j2 kj5 l0 l0 (l0.length : Int) x12_1 true ((rd_T45 l0 x12_1).f0) ((rd_T45 l0 x12_1).f1) ((rd_T45 l0 x12_1).f2) ((rd_T45 l0 x12_1).f3) ((rd_T45 l0 x12_1).f4) ((rd_T45 l0 x12_1).f5))) = some r := by first | (rw [if_neg (show ¬ (false = true) by decide)] at H; exact H) | rfl
           clear H
           have H := H1
           clear H1
           by_cases c33 : ((rd_T45 l0 x12_1).f2).toList = ([] : List UInt8)
           ·
            rw [if_pos c33] at H
            have c33b0 : (((rd_T45 l0 x12_1).f2).toList == ([] : List UInt8)) = true := beq_iff_eq.mpr c33
            have c33b1 : (((rd_T45 l0 x12_1).f2).toList != ([] : List UInt8)) = false := bne_eq_false_iff_eq.mpr c33
            clear c33
            (first | rw [c33b0] | (simp only [i64_w, i32_w]; rw [c33b0]) | skip)
            by_cases c34 : t251 = true
            ·
             subst c34
             have H1 : (impl_linesOk.j2 kj5 l0 l0 (l0.length : Int) x12_1 false ((rd_T45 l0 x12_1).f0) ((rd_T45 l0 x12_1).f1) ((rd_T45 l0 x12_1).f2) ((rd_T45 l0 x12_1).f3) ((rd_T45 l0 x12_1).f4) ((rd_T45 l0 x12_1).f5)) = some r := by first | (rw [if_pos rfl] at H; exact H) | rfl
             clear H
             have H := H1
             clear H1
             have H' := Aside0.mk H
             clear H
             have hcz35_0 : wc.cell? ⟨gb249, 0, none⟩ = some (.string ((rd_T45 l0 x12_1).f0)) := (blk_cell BK249.out 0).trans rfl
             have hcz35_1 : wc.cell? ⟨gb249, 1, none⟩ = some (.int .i8 ((rd_T45 l0 x12_1).f1)) := (blk_cell BK249.out 1).trans rfl
             have hcz35_2 : wc.cell? ⟨gb249, 2, none⟩ = some (.string ((rd_T45 l0 x12_1).f2)) := (blk_cell BK249.out 2).trans rfl
             have hcz35_3 : wc.cell? ⟨gb249, 3, none⟩ = some (.string ((rd_T45 l0 x12_1).f3)) := (blk_cell BK249.out 3).trans rfl
             have hcz35_4 : wc.cell? ⟨gb249, 4, none⟩ = some (.int .i64 ((rd_T45 l0 x12_1).f4)) := (blk_cell BK249.out 4).trans rfl
             have hcz35_5 : wc.cell? ⟨gb249, 5, none⟩ = some (.int .i64 ((rd_T45 l0 x12_1).f5)) := (blk_cell BK249.out 5).trans rfl
             have hfz35_0 := blk_frozen BK249.out 0
             have hfz35_1 := blk_frozen BK249.out 1
             have hfz35_2 := blk_frozen BK249.out 2
             have hfz35_3 := blk_frozen BK249.out 3
             have hfz35_4 := blk_frozen BK249.out 4
             have hfz35_5 := blk_frozen BK249.out 5
             go_wp2
             go_meet
             case rel => exact ⟨_, (false), (by first | rfl | (simp; done) | (simp [*]; done) | (simp [isE_]; done)), H', ⟨by have := HK1.out; have := HJ5.out; first | omega | exact Nat.le_refl _⟩, ⟨by (with_reducible repeat (first | refine blk_drewN ?_ _ | refine blk_drew ?_ | refine blk_alloc ?_ _)); exact BK249.out⟩, ⟨by repeat (first | (with_reducible first | exact HB.out | apply below_alloc | apply pw_below_drewN | apply below_drew1 | refine below_set ?_ GE249.out) | exact HB.out)⟩⟩
            ·
             replace c34 := Bool.eq_false_iff.mpr c34
             subst c34
             have H1 : (impl_linesOk.j2 kj5 l0 l0 (l0.length : Int) x12_1 (((rd_T45 l0 x12_1).f3).toList != ([] : List UInt8)) ((rd_T45 l0 x12_1).f0) ((rd_T45 l0 x12_1).f1) ((rd_T45 l0 x12_1).f2) ((rd_T45 l0 x12_1).f3) ((rd_T45 l0 x12_1).f4) ((rd_T45 l0 x12_1).f5)) = some r := by first | (rw [if_neg (show ¬ (false = true) by decide)] at H; exact H) | rfl
             clear H
             have H := H1
             clear H1
             have H' := Aside0.mk H
             clear H
             have hcz36_0 : wc.cell? ⟨gb249, 0, none⟩ = some (.string ((rd_T45 l0 x12_1).f0)) := (blk_cell BK249.out 0).trans rfl
             have hcz36_1 : wc.cell? ⟨gb249, 1, none⟩ = some (.int .i8 ((rd_T45 l0 x12_1).f1)) := (blk_cell BK249.out 1).trans rfl
             have hcz36_2 : wc.cell? ⟨gb249, 2, none⟩ = some (.string ((rd_T45 l0 x12_1).f2)) := (blk_cell BK249.out 2).trans rfl
             have hcz36_3 : wc.cell? ⟨gb249, 3, none⟩ = some (.string ((rd_T45 l0 x12_1).f3)) := (blk_cell BK249.out 3).trans rfl
             have hcz36_4 : wc.cell? ⟨gb249, 4, none⟩ = some (.int .i64 ((rd_T45 l0 x12_1).f4)) := (blk_cell BK249.out 4).trans rfl
             have hcz36_5 : wc.cell? ⟨gb249, 5, none⟩ = some (.int .i64 ((rd_T45 l0 x12_1).f5)) := (blk_cell BK249.out 5).trans rfl
             have hfz36_0 := blk_frozen BK249.out 0
             have hfz36_1 := blk_frozen BK249.out 1
             have hfz36_2 := blk_frozen BK249.out 2
             have hfz36_3 := blk_frozen BK249.out 3
             have hfz36_4 := blk_frozen BK249.out 4
             have hfz36_5 := blk_frozen BK249.out 5
             go_wp2
             go_meet
             case rel => exact ⟨_, ((((rd_T45 l0 x12_1).f3).toList != ([] : List UInt8))), (by first | rfl | (simp; done) | (simp [*]; done) | (simp [isE_]; done)), H', ⟨by have := HK1.out; have := HJ5.out; first | omega | exact Nat.le_refl _⟩, ⟨by (with_reducible repeat (first | refine blk_drewN ?_ _ | refine blk_drew ?_ | refine blk_alloc ?_ _)); exact BK249.out⟩, ⟨by repeat (first | (with_reducible first | exact HB.out | apply below_alloc | apply pw_below_drewN | apply below_drew1 | refine below_set ?_ GE249.out) | exact HB.out)⟩⟩
           ·
            rw [if_neg c33] at H
            have c33b0 : (((rd_T45 l0 x12_1).f2).toList == ([] : List UInt8)) = false := beq_eq_false_iff_ne.mpr c33
            have c33b1 : (((rd_T45 l0 x12_1).f2).toList != ([] : List UInt8)) = true := bne_iff_ne.mpr c33
            (first | rw [c33b0] | (simp only [i64_w, i32_w]; rw [c33b0]) | skip)
            have H' := Aside0.mk H
            clear H
            have hcz37_0 : wc.cell? ⟨gb249, 0, none⟩ = some (.string ((rd_T45 l0 x12_1).f0)) := (blk_cell BK249.out 0).trans rfl
            have hcz37_1 : wc.cell? ⟨gb249, 1, none⟩ = some (.int .i8 ((rd_T45 l0 x12_1).f1)) := (blk_cell BK249.out 1).trans rfl
            have hcz37_2 : wc.cell? ⟨gb249, 2, none⟩ = some (.string ((rd_T45 l0 x12_1).f2)) := (blk_cell BK249.out 2).trans rfl
            have hcz37_3 : wc.cell? ⟨gb249, 3, none⟩ = some (.string ((rd_T45 l0 x12_1).f3)) := (blk_cell BK249.out 3).trans rfl
            have hcz37_4 : wc.cell? ⟨gb249, 4, none⟩ = some (.int .i64 ((rd_T45 l0 x12_1).f4)) := (blk_cell BK249.out 4).trans rfl
            have hcz37_5 : wc.cell? ⟨gb249, 5, none⟩ = some (.int .i64 ((rd_T45 l0 x12_1).f5)) := (blk_cell BK249.out 5).trans rfl
            have hfz37_0 := blk_frozen BK249.out 0
            have hfz37_1 := blk_frozen BK249.out 1
            have hfz37_2 := blk_frozen BK249.out 2
            have hfz37_3 := blk_frozen BK249.out 3
            have hfz37_4 := blk_frozen BK249.out 4
            have hfz37_5 := blk_frozen BK249.out 5
            go_wp2
            go_meet
            case rel => exact ⟨_, (true), (by first | rfl | (simp; done) | (simp [*]; done) | (simp [isE_]; done)), H', ⟨by have := HK1.out; have := HJ5.out; first | omega | exact Nat.le_refl _⟩, ⟨by (with_reducible repeat (first | refine blk_drewN ?_ _ | refine blk_drew ?_ | refine blk_alloc ?_ _)); exact BK249.out⟩, ⟨by repeat (first | (with_reducible first | exact HB.out | apply below_alloc | apply pw_below_drewN | apply below_drew1 | refine below_set ?_ GE249.out) | exact HB.out)⟩⟩
         case rest =>
          clear HC29
          try clear c1
          try clear c2
          try clear c2b0
          try clear p2
          try clear q2
          try clear hx2
          try clear c3
          try clear c3b0
          try clear c4
          try clear c4b0
          try clear c6
          try clear c7
          try clear c9
          try clear c10
          try clear c12
          try clear c12b0
          try clear c12b1
          try clear c13
          try clear c13b0
          try clear c17
          try clear c17b0
          try clear p24
          try clear q24
          try clear hx24
          try clear c28
          try clear c30
          try clear c31
          try clear c33
          try clear c33b0
          try clear c33b1
          try clear c34
          try clear hcz14_0
          try clear hcz14_1
          try clear hcz14_2
          try clear hcz14_3
          try clear hcz14_4
          try clear hcz14_5
          try clear hcz16_0
          try clear hcz16_1
          try clear hcz16_2
          try clear hcz16_3
          try clear hcz16_4
          try clear hcz16_5
          try clear hcz18_0
          try clear hcz18_1
          try clear hcz18_2
          try clear hcz18_3
          try clear hcz18_4
          try clear hcz18_5
          try clear hcz20_0
          try clear hcz20_1
          try clear hcz20_2
          try clear hcz20_3
          try clear hcz20_4
          try clear hcz20_5
          try clear hcz22_0
          try clear hcz22_1
          try clear hcz22_2
          try clear hcz22_3
          try clear hcz22_4
          try clear hcz22_5
          try clear hcz24_0
          try clear hcz24_1
          try clear hcz24_2
          try clear hcz24_3
          try clear hcz24_4
          try clear hcz24_5
          try clear hcz25_0
          try clear hcz25_1
          try clear hcz25_2
          try clear hcz25_3
          try clear hcz25_4
          try clear hcz25_5
          try clear hcz27_0
          try clear hcz27_1
          try clear hcz27_2
          try clear hcz27_3
          try clear hcz27_4
          try clear hcz27_5
          try clear hcz32_0
          try clear hcz32_1
          try clear hcz32_2
          try clear hcz32_3
          try clear hcz32_4
          try clear hcz32_5
          try clear hcz35_0
          try clear hcz35_1
          try clear hcz35_2
          try clear hcz35_3
          try clear hcz35_4
          try clear hcz35_5
          try clear hcz36_0
          try clear hcz36_1
          try clear hcz36_2
          try clear hcz36_3
          try clear hcz36_4
          try clear hcz36_5
          try clear hcz37_0
          try clear hcz37_1
          try clear hcz37_2
          try clear hcz37_3
          try clear hcz37_4
          try clear hcz37_5
          try clear hcz8_0
          try clear hcz8_1
          try clear hcz8_2
          try clear hcz8_3
          try clear hcz8_4
          try clear hcz8_5
          try clear hfz14_0
          try clear hfz14_1
          try clear hfz14_2
          try clear hfz14_3
          try clear hfz14_4
          try clear hfz14_5
          try clear hfz16_0
          try clear hfz16_1
          try clear hfz16_2
          try clear hfz16_3
          try clear hfz16_4
          try clear hfz16_5
          try clear hfz18_0
          try clear hfz18_1
          try clear hfz18_2
          try clear hfz18_3
          try clear hfz18_4
          try clear hfz18_5
          try clear hfz20_0
          try clear hfz20_1
          try clear hfz20_2
          try clear hfz20_3
          try clear hfz20_4
          try clear hfz20_5
          try clear hfz22_0
          try clear hfz22_1
          try clear hfz22_2
          try clear hfz22_3
          try clear hfz22_4
          try clear hfz22_5
          try clear hfz24_0
          try clear hfz24_1
          try clear hfz24_2
          try clear hfz24_3
          try clear hfz24_4
          try clear hfz24_5
          try clear hfz25_0
          try clear hfz25_1
          try clear hfz25_2
          try clear hfz25_3
          try clear hfz25_4
          try clear hfz25_5
          try clear hfz27_0
          try clear hfz27_1
          try clear hfz27_2
          try clear hfz27_3
          try clear hfz27_4
          try clear hfz27_5
          try clear hfz32_0
          try clear hfz32_1
          try clear hfz32_2
          try clear hfz32_3
          try clear hfz32_4
          try clear hfz32_5
          try clear hfz35_0
          try clear hfz35_1
          try clear hfz35_2
          try clear hfz35_3
          try clear hfz35_4
          try clear hfz35_5
          try clear hfz36_0
          try clear hfz36_1
          try clear hfz36_2
          try clear hfz36_3
          try clear hfz36_4
          try clear hfz36_5
          try clear hfz37_0
          try clear hfz37_1
          try clear hfz37_2
          try clear hfz37_3
          try clear hfz37_4
          try clear hfz37_5
          try clear hfz8_0
          try clear hfz8_1
          try clear hfz8_2
          try clear hfz8_3
          try clear hfz8_4
          try clear hfz8_5
          try clear hx248_0
          try clear hx248_1
          try clear hx248_2
          try clear hx248_3
          try clear hx248_4
          try clear hx248_5
          try clear p2
          try clear p24
          try clear p248
          try clear q2
          try clear q24
          try clear q248
          obtain ⟨kq, x71_28, rfl, HA, HJ28, BK249, HB⟩ := hcut
          cases kq with
          | zero => exact absurd HA.out (by simp [impl_linesOk.j2])
          | succ kj28 =>
           have H := HA.out
           clear HA
           simp only [impl_linesOk.j2] at H
           by_cases c38 : x71_28 = true
           ·
            subst c38
            have H1 : (some false) = some r := by first | (rw [if_pos rfl] at H; exact H) | rfl
            clear H
            have H := H1
            clear H1
            obtain rfl := Option.some.inj H
            go_wp2
            go_ret
            exact ⟨by first | rfl | (simp [errW_none, errW_some] <;> rfl) | (simp [*, errW_none, errW_some] <;> rfl), by repeat (first | (with_reducible first | exact HB.out | apply below_alloc | apply pw_below_drewN | apply below_drew1 | refine below_set ?_ GE249.out) | exact HB.out)⟩
           ·
            replace c38 := Bool.eq_false_iff.mpr c38
            subst c38
            have H1 : ((impl_Line_used.f kj28 [(⟨((rd_T45 l0 x12_1).f0), ((rd_T45 l0 x12_1).f1), ((rd_T45 l0 x12_1).f2), ((rd_T45 l0 x12_1).f3), ((rd_T45 l0 x12_1).f4), ((rd_T45 l0 x12_1).f5)⟩ : S45)]).bind fun t257 => (impl_linesOk.l1 kj28 l0 l0 (l0.length : Int) x12_1 t257 (t257.length : Int) 0)) = some r := by first | (rw [if_neg (show ¬ (false = true) by decide)] at H; exact H) | rfl
            clear H
            have H := H1
            clear H1
            replace H := Option.bind_eq_some_iff.mp H
            obtain ⟨t257, A390, H⟩ := H
            replace H : (impl_linesOk.l1 kj28 l0 l0 (l0.length : Int) x12_1 t257 (t257.length : Int) 0) = some r := H
            have A39 := Aside0.mk A390
            clear A390
            have H' := Aside0.mk H
            clear H
            go_wp2_with (first | ((with_reducible refine gate_callee (f := 106) rfl ?_); refine goesL_ (some 72) rfl rfl Try.func106 (by kernel_rfl) rfl #[.pointer (some ⟨gb249, 0, none⟩)] rfl (by (try simp only [List.map_toArray, List.map_cons, List.map_nil]); first | done | rfl | (simp only [List.length_drop, List.length_take]; rfl)) ?_; (with_reducible refine (impl_Line_used.calls kj28 _ ([(⟨((rd_T45 l0 x12_1).f0), ((rd_T45 l0 x12_1).f1), ((rd_T45 l0 x12_1).f2), ((rd_T45 l0 x12_1).f3), ((rd_T45 l0 x12_1).f4), ((rd_T45 l0 x12_1).f5)⟩ : S45)]).length [(⟨((rd_T45 l0 x12_1).f0), ((rd_T45 l0 x12_1).f1), ((rd_T45 l0 x12_1).f2), ((rd_T45 l0 x12_1).f3), ((rd_T45 l0 x12_1).f4), ((rd_T45 l0 x12_1).f5)⟩ : S45)] t257 _ ?side1 ?side2 A39.out).mono ?_); (case side1 => refine Kd.C_block k45 (g := gb249) (cs := #[.string ((rd_T45 l0 x12_1).f0), .int .i8 ((rd_T45 l0 x12_1).f1), .string ((rd_T45 l0 x12_1).f2), .string ((rd_T45 l0 x12_1).f3), .int .i64 ((rd_T45 l0 x12_1).f4), .int .i64 ((rd_T45 l0 x12_1).f5)]) (T := 45) (by (with_reducible repeat (first | refine blk_drewN ?_ _ | refine blk_drew ?_ | refine blk_alloc ?_ _)); exact BK249.out) (show Kd.K k45 _ (⟨((rd_T45 l0 x12_1).f0), ((rd_T45 l0 x12_1).f1), ((rd_T45 l0 x12_1).f2), ((rd_T45 l0 x12_1).f3), ((rd_T45 l0 x12_1).f4), ((rd_T45 l0 x12_1).f5)⟩ : S45) [.string ((rd_T45 l0 x12_1).f0), .int .i8 ((rd_T45 l0 x12_1).f1), .string ((rd_T45 l0 x12_1).f2), .string ((rd_T45 l0 x12_1).f3), .int .i64 ((rd_T45 l0 x12_1).f4), .int .i64 ((rd_T45 l0 x12_1).f5)] from k45_mk _ _) (by decide)); (case side2 => exact Nat.le_refl _); rintro e w40 ⟨v258, rfl, ho0, hb⟩; refine ⟨_, rfl, ?_⟩; have n0_ := Aside0.mk (Kd.R_lower ho0 (below_size (by repeat (first | (with_reducible first | exact HB.out | apply below_alloc | apply pw_below_drewN | apply below_drew1 | refine below_set ?_ GE249.out) | exact HB.out)))); have n1_ := Aside0.mk (blk_below (g := gb249) (o := .cells #[.string ((rd_T45 l0 x12_1).f0), .int .i8 ((rd_T45 l0 x12_1).f1), .string ((rd_T45 l0 x12_1).f2), .string ((rd_T45 l0 x12_1).f3), .int .i64 ((rd_T45 l0 x12_1).f4), .int .i64 ((rd_T45 l0 x12_1).f5)] 45 (0, 0)) (by (with_reducible repeat (first | refine blk_drewN ?_ _ | refine blk_drew ?_ | refine blk_alloc ?_ _)); exact BK249.out) hb); have n2_ := Aside0.mk (below_step (by repeat (first | (with_reducible first | exact HB.out | apply below_alloc | apply pw_below_drewN | apply below_drew1 | refine below_set ?_ GE249.out) | exact HB.out)) hb); clear BK249; clear HB; have HO259 := n0_; have BK249 := n1_; have HB := n2_; clear n0_ n1_ n2_; (try clear hb); (try clear hb2); (try clear hk); (try clear hi); (try clear ho0); obtain ⟨Ao41, co41, eo41⟩ := Kd.R_slice HO259.out; subst eo41))
            go_loopg [74] kj28 (fun kq v74 w' => ∃ (x74_4 : Int), v74 = .int .i64 x74_4 ∧ Aside0 (impl_linesOk.l1 kq l0 l0 (l0.length : Int) x12_1 t257 (t257.length : Int) x74_4 = some r) ∧ Aside0 (kq ≤ kj28) ∧ Aside0 (Kd.R Kd.string 9 w' w.heap.size (fun _ => True) (.slice Ao41 t257.length co41) t257) ∧ Aside0 (w'.heap[gb249]? = some (.cells #[.string ((rd_T45 l0 x12_1).f0), .int .i8 ((rd_T45 l0 x12_1).f1), .string ((rd_T45 l0 x12_1).f2), .string ((rd_T45 l0 x12_1).f3), .int .i64 ((rd_T45 l0 x12_1).f4), .int .i64 ((rd_T45 l0 x12_1).f5)] 45 (0, 0))) ∧ Aside0 (Below w.heap.size w w'))
            case atStart => exact ⟨(0), (by first | rfl | (simp; done) | (simp [*]; done) | (simp [isE_]; done)), H', ⟨Nat.le_refl _⟩, ⟨by (with_reducible repeat (first | apply Kd.R_alloc | apply Kd.R_drewN | apply Kd.R_drew)); exact HO259.out⟩, ⟨by (with_reducible repeat (first | refine blk_drewN ?_ _ | refine blk_drew ?_ | refine blk_alloc ?_ _)); exact BK249.out⟩, ⟨by repeat (first | (with_reducible first | exact HB.out | apply below_alloc | apply pw_below_drewN | apply below_drew1 | refine below_set ?_ GE249.out) | exact HB.out)⟩⟩
            case round =>
             clear H'
             try clear c1
             try clear c2
             try clear c2b0
             try clear p2
             try clear q2
             try clear hx2
             try clear c3
             try clear c3b0
             try clear c4
             try clear c4b0
             try clear c6
             try clear c7
             try clear c9
             try clear c10
             try clear c12
             try clear c12b0
             try clear c12b1
             try clear c13
             try clear c13b0
             try clear c17
             try clear c17b0
             try clear p24
             try clear q24
             try clear hx24
             try clear c28
             try clear c30
             try clear c31
             try clear c33
             try clear c33b0
             try clear c33b1
             try clear c34
             try clear c38
             try clear hcz14_0
             try clear hcz14_1
             try clear hcz14_2
             try clear hcz14_3
             try clear hcz14_4
             try clear hcz14_5
             try clear hcz16_0
             try clear hcz16_1
             try clear hcz16_2
             try clear hcz16_3
             try clear hcz16_4
             try clear hcz16_5
             try clear hcz18_0
             try clear hcz18_1
             try clear hcz18_2
             try clear hcz18_3
             try clear hcz18_4
             try clear hcz18_5
             try clear hcz20_0
             try clear hcz20_1
             try clear hcz20_2
             try clear hcz20_3
             try clear hcz20_4
             try clear hcz20_5
             try clear hcz22_0
             try clear hcz22_1
             try clear hcz22_2
             try clear hcz22_3
             try clear hcz22_4
             try clear hcz22_5
             try clear hcz24_0
             try clear hcz24_1
             try clear hcz24_2
             try clear hcz24_3
             try clear hcz24_4
             try clear hcz24_5
             try clear hcz25_0
             try clear hcz25_1
             try clear hcz25_2
             try clear hcz25_3
             try clear hcz25_4
             try clear hcz25_5
             try clear hcz27_0
             try clear hcz27_1
             try clear hcz27_2
             try clear hcz27_3
             try clear hcz27_4
             try clear hcz27_5
             try clear hcz32_0
             try clear hcz32_1
             try clear hcz32_2
             try clear hcz32_3
             try clear hcz32_4
             try clear hcz32_5
             try clear hcz35_0
             try clear hcz35_1
             try clear hcz35_2
             try clear hcz35_3
             try clear hcz35_4
             try clear hcz35_5
             try clear hcz36_0
             try clear hcz36_1
             try clear hcz36_2
             try clear hcz36_3
             try clear hcz36_4
             try clear hcz36_5
             try clear hcz37_0
             try clear hcz37_1
             try clear hcz37_2
             try clear hcz37_3
             try clear hcz37_4
             try clear hcz37_5
             try clear hcz8_0
             try clear hcz8_1
             try clear hcz8_2
             try clear hcz8_3
             try clear hcz8_4
             try clear hcz8_5
             try clear hfz14_0
             try clear hfz14_1
             try clear hfz14_2
             try clear hfz14_3
             try clear hfz14_4
             try clear hfz14_5
             try clear hfz16_0
             try clear hfz16_1
             try clear hfz16_2
             try clear hfz16_3
             try clear hfz16_4
             try clear hfz16_5
             try clear hfz18_0
             try clear hfz18_1
             try clear hfz18_2
             try clear hfz18_3
             try clear hfz18_4
             try clear hfz18_5
             try clear hfz20_0
             try clear hfz20_1
             try clear hfz20_2
             try clear hfz20_3
             try clear hfz20_4
             try clear hfz20_5
             try clear hfz22_0
             try clear hfz22_1
             try clear hfz22_2
             try clear hfz22_3
             try clear hfz22_4
             try clear hfz22_5
             try clear hfz24_0
             try clear hfz24_1
             try clear hfz24_2
             try clear hfz24_3
             try clear hfz24_4
             try clear hfz24_5
             try clear hfz25_0
             try clear hfz25_1
             try clear hfz25_2
             try clear hfz25_3
             try clear hfz25_4
             try clear hfz25_5
             try clear hfz27_0
             try clear hfz27_1
             try clear hfz27_2
             try clear hfz27_3
             try clear hfz27_4
             try clear hfz27_5
             try clear hfz32_0
             try clear hfz32_1
             try clear hfz32_2
             try clear hfz32_3
             try clear hfz32_4
             try clear hfz32_5
             try clear hfz35_0
             try clear hfz35_1
             try clear hfz35_2
             try clear hfz35_3
             try clear hfz35_4
             try clear hfz35_5
             try clear hfz36_0
             try clear hfz36_1
             try clear hfz36_2
             try clear hfz36_3
             try clear hfz36_4
             try clear hfz36_5
             try clear hfz37_0
             try clear hfz37_1
             try clear hfz37_2
             try clear hfz37_3
             try clear hfz37_4
             try clear hfz37_5
             try clear hfz8_0
             try clear hfz8_1
             try clear hfz8_2
             try clear hfz8_3
             try clear hfz8_4
             try clear hfz8_5
             try clear hx248_0
             try clear hx248_1
             try clear hx248_2
             try clear hx248_3
             try clear hx248_4
             try clear hx248_5
             try clear p2
             try clear p24
             try clear p248
             try clear q2
             try clear q24
             try clear q248
             obtain ⟨x74_4, rfl, HA, HK4, HO_72, BK249, HB⟩ := hrel
             cases gk with
             | zero => exact absurd HA.out (by simp [impl_linesOk.l1])
             | succ k4 =>
              have H := HA.out
              clear HA
              simp only [impl_linesOk.l1] at H
              by_cases c42 : x74_4 < (t257.length : Int)
              ·
               rw [if_pos c42] at H
               have c42b0 : decide (x74_4 < (t257.length : Int)) = true := decide_eq_true c42
               clear c42
               by_cases c43 : 0 ≤ x74_4
               ·
                rw [if_pos c43] at H
                have c43b0 : decide (0 ≤ x74_4) = true := decide_eq_true c43
                clear c43
                by_cases c44 : x74_4 < (t257.length : Int)
                ·
                 rw [if_pos c44] at H
                 have c44b0 : decide (x74_4 < (t257.length : Int)) = true := decide_eq_true c44
                 clear c44
                 replace H := Option.bind_eq_some_iff.mp H
                 obtain ⟨t261, A450, H⟩ := H
                 replace H : (if t261 < 0 then (some false) else (impl_linesOk.l1 k4 l0 l0 (l0.length : Int) x12_1 t257 (t257.length : Int) (wrap64 (x74_4 + 1)))) = some r := H
                 have A45 := Aside0.mk A450
                 clear A450
                 by_cases c46 : t261 < 0
                 ·
                  rw [if_pos c46] at H
                  have c46b0 : decide (t261 < 0) = true := decide_eq_true c46
                  clear c46
                  obtain rfl := Option.some.inj H
                  have p260 : 0 ≤ (x74_4 : Int) := of_decide_eq_true (by assumption)
                  have q260 : x74_4 < (t257.length : Int) := of_decide_eq_true (by assumption)
                  obtain ⟨ad260, e260, hx260_0⟩ := Kd.at_string (Kd.R_reads' HO_72.out).2.2 x74_4 p260 q260
                  cases e260
                  replace p260 := eq_true p260
                  replace q260 := eq_true q260
                  go_wp2_with (first | ((with_reducible refine gate_callee (f := 79) rfl ?_); refine goesL_ (some 80) rfl rfl Try.func79 (by kernel_rfl) rfl #[.slice (some ad248) l0.length c0, .string (rdOf ByteArray.empty t257 x74_4)] rfl (by (try simp only [List.map_toArray, List.map_cons, List.map_nil]); first | done | rfl | (simp only [List.length_drop, List.length_take]; rfl)) ?_; (with_reducible refine (impl_lineOf.calls _ _ l0 (rdOf ByteArray.empty t257 x74_4) t261 _ ?side1 ?side2 A45.out).mono ?_); (case side1 => repeat (first | exact (Kd.C_below HR0.out HB.out) | (with_reducible refine Kd.C_alloc ?_ _) | (with_reducible refine Kd.C_drewN ?_ _) | (with_reducible refine Kd.C_drew ?_))); (case side2 => exact HC0.out); rintro e w47 ⟨rfl, hb⟩; refine ⟨_, rfl, ?_⟩; have n0_ := Aside0.mk (Kd.R_below (by (with_reducible repeat (first | apply Kd.R_alloc | apply Kd.R_drewN | apply Kd.R_drew)); exact HO_72.out) hb); have n1_ := Aside0.mk (blk_below (g := gb249) (o := .cells #[.string ((rd_T45 l0 x12_1).f0), .int .i8 ((rd_T45 l0 x12_1).f1), .string ((rd_T45 l0 x12_1).f2), .string ((rd_T45 l0 x12_1).f3), .int .i64 ((rd_T45 l0 x12_1).f4), .int .i64 ((rd_T45 l0 x12_1).f5)] 45 (0, 0)) (by (with_reducible repeat (first | refine blk_drewN ?_ _ | refine blk_drew ?_ | refine blk_alloc ?_ _)); exact BK249.out) hb); have n2_ := Aside0.mk (below_step (by repeat (first | (with_reducible first | exact HB.out | apply below_alloc | apply pw_below_drewN | apply below_drew1 | refine below_set ?_ GE249.out) | exact HB.out)) hb); clear HO_72; clear BK249; clear HB; have HO_72 := n0_; have BK249 := n1_; have HB := n2_; clear n0_ n1_ n2_; (try clear hb); (try clear hb2); (try clear hk); (try clear hi)))
                  go_ret
                  exact ⟨by first | rfl | (simp [errW_none, errW_some] <;> rfl) | (simp [*, errW_none, errW_some] <;> rfl), by repeat (first | (with_reducible first | exact HB.out | apply below_alloc | apply pw_below_drewN | apply below_drew1 | refine below_set ?_ GE249.out) | exact HB.out)⟩
                 ·
                  rw [if_neg c46] at H
                  have c46b0 : decide (t261 < 0) = false := decide_eq_false c46
                  clear c46
                  have H' := Aside0.mk H
                  clear H
                  have p260 : 0 ≤ (x74_4 : Int) := of_decide_eq_true (by assumption)
                  have q260 : x74_4 < (t257.length : Int) := of_decide_eq_true (by assumption)
                  obtain ⟨ad260, e260, hx260_0⟩ := Kd.at_string (Kd.R_reads' HO_72.out).2.2 x74_4 p260 q260
                  cases e260
                  replace p260 := eq_true p260
                  replace q260 := eq_true q260
                  go_wp2_with (first | ((with_reducible refine gate_callee (f := 79) rfl ?_); refine goesL_ (some 80) rfl rfl Try.func79 (by kernel_rfl) rfl #[.slice (some ad248) l0.length c0, .string (rdOf ByteArray.empty t257 x74_4)] rfl (by (try simp only [List.map_toArray, List.map_cons, List.map_nil]); first | done | rfl | (simp only [List.length_drop, List.length_take]; rfl)) ?_; (with_reducible refine (impl_lineOf.calls _ _ l0 (rdOf ByteArray.empty t257 x74_4) t261 _ ?side1 ?side2 A45.out).mono ?_); (case side1 => repeat (first | exact (Kd.C_below HR0.out HB.out) | (with_reducible refine Kd.C_alloc ?_ _) | (with_reducible refine Kd.C_drewN ?_ _) | (with_reducible refine Kd.C_drew ?_))); (case side2 => exact HC0.out); rintro e w48 ⟨rfl, hb⟩; refine ⟨_, rfl, ?_⟩; have n0_ := Aside0.mk (Kd.R_below (by (with_reducible repeat (first | apply Kd.R_alloc | apply Kd.R_drewN | apply Kd.R_drew)); exact HO_72.out) hb); have n1_ := Aside0.mk (blk_below (g := gb249) (o := .cells #[.string ((rd_T45 l0 x12_1).f0), .int .i8 ((rd_T45 l0 x12_1).f1), .string ((rd_T45 l0 x12_1).f2), .string ((rd_T45 l0 x12_1).f3), .int .i64 ((rd_T45 l0 x12_1).f4), .int .i64 ((rd_T45 l0 x12_1).f5)] 45 (0, 0)) (by (with_reducible repeat (first | refine blk_drewN ?_ _ | refine blk_drew ?_ | refine blk_alloc ?_ _)); exact BK249.out) hb); have n2_ := Aside0.mk (below_step (by repeat (first | (with_reducible first | exact HB.out | apply below_alloc | apply pw_below_drewN | apply below_drew1 | refine below_set ?_ GE249.out) | exact HB.out)) hb); clear HO_72; clear BK249; clear HB; have HO_72 := n0_; have BK249 := n1_; have HB := n2_; clear n0_ n1_ n2_; (try clear hb); (try clear hb2); (try clear hk); (try clear hi)))
                  go_roundg k4
                  case measure => have := HK1.out; have := HJ5.out; have := HJ28.out; have := HK4.out; omega
                  case rel => exact ⟨(wrap64 (x74_4 + 1)), (by first | rfl | (simp; done) | (simp [*]; done) | (simp [isE_]; done)), H', ⟨by have := HK1.out; have := HJ5.out; have := HJ28.out; have := HK4.out; omega⟩, ⟨by (with_reducible repeat (first | apply Kd.R_alloc | apply Kd.R_drewN | apply Kd.R_drew)); exact HO_72.out⟩, ⟨by (with_reducible repeat (first | refine blk_drewN ?_ _ | refine blk_drew ?_ | refine blk_alloc ?_ _)); exact BK249.out⟩, ⟨by repeat (first | (with_reducible first | exact HB.out | apply below_alloc | apply pw_below_drewN | apply below_drew1 | refine below_set ?_ GE249.out) | exact HB.out)⟩⟩
                ·
                 rw [if_neg c44] at H
                 exact absurd H (by simp)
               ·
                rw [if_neg c43] at H
                exact absurd H (by simp)
              ·
               rw [if_neg c42] at H
               have c42b0 : decide (x74_4 < (t257.length : Int)) = false := decide_eq_false c42
               clear c42
               have H' := Aside0.mk H
               clear H
               go_wp2
               go_roundg k4
               case measure => have := HK1.out; have := HJ5.out; have := HJ28.out; have := HK4.out; omega
               case rel => exact ⟨(wrap64 (x12_1 + 1)), (by first | rfl | (simp; done) | (simp [*]; done) | (simp [isE_]; done)), H', ⟨by have := HK1.out; have := HJ5.out; have := HJ28.out; have := HK4.out; omega⟩, ⟨by repeat (first | (with_reducible first | exact HB.out | apply below_alloc | apply pw_below_drewN | apply below_drew1 | refine below_set ?_ GE249.out) | exact HB.out)⟩⟩
     ·
      rw [if_neg c4] at H
      exact absurd H (by simp)
    ·
     rw [if_neg c3] at H
     exact absurd H (by simp)
   ·
    rw [if_neg c2] at H
    have c2b0 : decide (x12_1 < (l0.length : Int)) = false := decide_eq_false c2
    clear c2
    obtain rfl := Option.some.inj H
    go_wp2
    go_ret
    exact ⟨by first | rfl | (simp [errW_none, errW_some] <;> rfl) | (simp [*, errW_none, errW_some] <;> rfl), by repeat (first | (with_reducible first | exact HB.out | apply below_alloc | apply pw_below_drewN | apply below_drew1) | exact HB.out)⟩
end Go.Proofs.Ytenhgmddpkiliaa.PB

import Derived.Test.YtenhgmddpkiliaaPBx0
namespace Go.Proofs.Ytenhgmddpkiliaa.PB
open Go.RowKit Go.Proofs.YtenhgmddpkiliaaW.PrintWords Go.Proofs.YtenhgmddpkiliaaW.PrintLast Go.Proofs.YtenhgmddpkiliaaW.PrintMore Go.Proofs.YtenhgmddpkiliaaRP
attribute [local go_sem] max2_int min2_int max_two min_two max_three min_three max_four min_four Go.Proofs.YtenhgmddpkiliaaRP.max_eight Go.Proofs.YtenhgmddpkiliaaRP.tmod_len   -- for this text's walks alone
set_option linter.unusedVariables false
set_option linter.unusedSimpArgs false
theorem eqA116 (d : Nat) (w : World) (x0 y0 : Int) (x1 y1 : Int) (x2 y2 : Int) (x3 y3 : Int) (x4 y4 : Int) (x5 y5 : Int) :
  (Op.equalIn (d + 2) 116 (.agg #[.int .u32 x0, .int .u32 x1, .int .u32 x2, .int .u32 x3, .int .u32 x4, .int .u32 x5]) (.agg #[.int .u32 y0, .int .u32 y1, .int .u32 y2, .int .u32 y3, .int .u32 y4, .int .u32 y5])).run Try.prog w = .ok (x0 == y0 && (x1 == y1 && (x2 == y2 && (x3 == y3 && (x4 == y4 && (x5 == y5)))))) w := by
 unfold Op.equalIn
 simp [Try.underlying116]
 have hr : List.range' 0 6 = [0, 1, 2, 3, 4, 5] := rfl
 rw [hr]
 have hx0 : ∀ w' : World, (part 115 #[.int .u32 x0, .int .u32 x1, .int .u32 x2, .int .u32 x3, .int .u32 x4, .int .u32 x5] 0).run Try.prog w' = .ok (.int .u32 x0) w' := by intro w'; go_simp
 have hy0 : ∀ w' : World, (part 115 #[.int .u32 y0, .int .u32 y1, .int .u32 y2, .int .u32 y3, .int .u32 y4, .int .u32 y5] 0).run Try.prog w' = .ok (.int .u32 y0) w' := by intro w'; go_simp
 have e0 : ∀ w' : World, (Op.equalIn (d + 1) 115 (.int .u32 x0) (.int .u32 y0)).run Try.prog w' = .ok (x0 == y0) w' := by intro w'; go_simp
 generalize (x0 == y0) = b0 at e0 ⊢
 have hx1 : ∀ w' : World, (part 115 #[.int .u32 x0, .int .u32 x1, .int .u32 x2, .int .u32 x3, .int .u32 x4, .int .u32 x5] 1).run Try.prog w' = .ok (.int .u32 x1) w' := by intro w'; go_simp
 have hy1 : ∀ w' : World, (part 115 #[.int .u32 y0, .int .u32 y1, .int .u32 y2, .int .u32 y3, .int .u32 y4, .int .u32 y5] 1).run Try.prog w' = .ok (.int .u32 y1) w' := by intro w'; go_simp
 have e1 : ∀ w' : World, (Op.equalIn (d + 1) 115 (.int .u32 x1) (.int .u32 y1)).run Try.prog w' = .ok (x1 == y1) w' := by intro w'; go_simp
 generalize (x1 == y1) = b1 at e1 ⊢
 have hx2 : ∀ w' : World, (part 115 #[.int .u32 x0, .int .u32 x1, .int .u32 x2, .int .u32 x3, .int .u32 x4, .int .u32 x5] 2).run Try.prog w' = .ok (.int .u32 x2) w' := by intro w'; go_simp
 have hy2 : ∀ w' : World, (part 115 #[.int .u32 y0, .int .u32 y1, .int .u32 y2, .int .u32 y3, .int .u32 y4, .int .u32 y5] 2).run Try.prog w' = .ok (.int .u32 y2) w' := by intro w'; go_simp
 have e2 : ∀ w' : World, (Op.equalIn (d + 1) 115 (.int .u32 x2) (.int .u32 y2)).run Try.prog w' = .ok (x2 == y2) w' := by intro w'; go_simp
 generalize (x2 == y2) = b2 at e2 ⊢
 have hx3 : ∀ w' : World, (part 115 #[.int .u32 x0, .int .u32 x1, .int .u32 x2, .int .u32 x3, .int .u32 x4, .int .u32 x5] 3).run Try.prog w' = .ok (.int .u32 x3) w' := by intro w'; go_simp
 have hy3 : ∀ w' : World, (part 115 #[.int .u32 y0, .int .u32 y1, .int .u32 y2, .int .u32 y3, .int .u32 y4, .int .u32 y5] 3).run Try.prog w' = .ok (.int .u32 y3) w' := by intro w'; go_simp
 have e3 : ∀ w' : World, (Op.equalIn (d + 1) 115 (.int .u32 x3) (.int .u32 y3)).run Try.prog w' = .ok (x3 == y3) w' := by intro w'; go_simp
 generalize (x3 == y3) = b3 at e3 ⊢
 have hx4 : ∀ w' : World, (part 115 #[.int .u32 x0, .int .u32 x1, .int .u32 x2, .int .u32 x3, .int .u32 x4, .int .u32 x5] 4).run Try.prog w' = .ok (.int .u32 x4) w' := by intro w'; go_simp
 have hy4 : ∀ w' : World, (part 115 #[.int .u32 y0, .int .u32 y1, .int .u32 y2, .int .u32 y3, .int .u32 y4, .int .u32 y5] 4).run Try.prog w' = .ok (.int .u32 y4) w' := by intro w'; go_simp
 have e4 : ∀ w' : World, (Op.equalIn (d + 1) 115 (.int .u32 x4) (.int .u32 y4)).run Try.prog w' = .ok (x4 == y4) w' := by intro w'; go_simp
 generalize (x4 == y4) = b4 at e4 ⊢
 have hx5 : ∀ w' : World, (part 115 #[.int .u32 x0, .int .u32 x1, .int .u32 x2, .int .u32 x3, .int .u32 x4, .int .u32 x5] 5).run Try.prog w' = .ok (.int .u32 x5) w' := by intro w'; go_simp
 have hy5 : ∀ w' : World, (part 115 #[.int .u32 y0, .int .u32 y1, .int .u32 y2, .int .u32 y3, .int .u32 y4, .int .u32 y5] 5).run Try.prog w' = .ok (.int .u32 y5) w' := by intro w'; go_simp
 have e5 : ∀ w' : World, (Op.equalIn (d + 1) 115 (.int .u32 x5) (.int .u32 y5)).run Try.prog w' = .ok (x5 == y5) w' := by intro w'; go_simp
 generalize (x5 == y5) = b5 at e5 ⊢
 simp only [List.forIn_cons, List.forIn_nil, Sem.run_bind]
 cases b0
 ·
  simp [hx0, hy0, e0, hx1, hy1, e1, hx2, hy2, e2, hx3, hy3, e3, hx4, hy4, e4, hx5, hy5, e5]
 cases b1
 ·
  simp [hx0, hy0, e0, hx1, hy1, e1, hx2, hy2, e2, hx3, hy3, e3, hx4, hy4, e4, hx5, hy5, e5]
 cases b2
 ·
  simp [hx0, hy0, e0, hx1, hy1, e1, hx2, hy2, e2, hx3, hy3, e3, hx4, hy4, e4, hx5, hy5, e5]
 cases b3
 ·
  simp [hx0, hy0, e0, hx1, hy1, e1, hx2, hy2, e2, hx3, hy3, e3, hx4, hy4, e4, hx5, hy5, e5]
 cases b4
 ·
  simp [hx0, hy0, e0, hx1, hy1, e1, hx2, hy2, e2, hx3, hy3, e3, hx4, hy4, e4, hx5, hy5, e5]
 cases b5 <;> simp [hx0, hy0, e0, hx1, hy1, e1, hx2, hy2, e2, hx3, hy3, e3, hx4, hy4, e4, hx5, hy5, e5]
theorem z1_1_ {P : Prop} (h : P := by repeat (first | (with_reducible first | exact HB.out | apply below_alloc | apply pw_below_drewN | apply below_drew1) | exact HB.out)) : P := h
theorem z1_2_ {P : Prop} (h : P := by repeat (first | (with_reducible first | exact HB.out | apply below_alloc | apply pw_below_drewN | apply below_drew1 | refine below_set ?_ GE118.out) | exact HB.out)) : P := h
theorem z1_3_ {P : Prop} (h : P := by (with_reducible repeat (first | refine blk_drewN ?_ _ | refine blk_drew ?_ | refine blk_alloc ?_ _)); exact BK118.out) : P := h
theorem z1_4_ {P : Prop} (h : P := by first | rfl | (simp [errW_none, errW_some] <;> rfl) | (simp [*, errW_none, errW_some] <;> rfl)) : P := h
theorem z1_5_ {P : Prop} (h : P := by repeat (first | (with_reducible first | exact HB.out | apply below_alloc | apply pw_below_drewN | apply below_drew1 | refine below_set ?_ GE118.out | refine below_set ?_ GE119.out) | exact HB.out)) : P := h
theorem z1_6_ {P : Prop} (h : P := by first | rfl | (simp; done) | (simp [*]; done) | (simp [isE_]; done)) : P := h
theorem z1_7_ {P : Prop} (h : P := by (with_reducible repeat (first | refine blk_drewN ?_ _ | refine blk_drew ?_ | refine blk_alloc ?_ _)); exact BK104.out) : P := h
theorem z1_8_ {P : Prop} (h : P := by (try simp only [List.map_toArray, List.map_cons, List.map_nil]); first | done | rfl | (simp only [List.length_drop, List.length_take]; rfl)) : P := h
theorem z1_9_ {P : Prop} (h : P := by repeat (first | (with_reducible first | exact HB.out | apply below_alloc | apply pw_below_drewN | apply below_drew1 | refine below_set ?_ GE101.out) | exact HB.out)) : P := h
theorem z1_10_ {P : Prop} (h : P := by repeat (first | (with_reducible first | exact HB.out | apply below_alloc | apply pw_below_drewN | apply below_drew1 | refine below_set ?_ GE104.out | refine below_set ?_ GE105.out) | exact HB.out)) : P := h
theorem z1_11_ {P : Prop} (h : P := by repeat (first | (with_reducible first | exact HB.out | apply below_alloc | apply pw_below_drewN | apply below_drew1 | refine below_set ?_ GE104.out) | exact HB.out)) : P := h
theorem z1_12_ {P : Prop} (h : P := by (with_reducible repeat (first | apply Kd.R_alloc | apply Kd.R_drewN | apply Kd.R_drew)); exact HO_3.out) : P := h
theorem z1_13_ {P : Prop} (h : P := by (with_reducible repeat (first | refine blk_drewN ?_ _ | refine blk_drew ?_ | refine blk_alloc ?_ _)); exact BK105.out) : P := h
/-! ### laws_szLine: function 29 -/
def laws_szLine.f (a0_0 : ByteArray) (a0_1 : Int) (a0_2 : ByteArray) (a0_3 : ByteArray) (a0_4 : Int) (a0_5 : Int) (a1 : Int) : Option (Int) := if (wrap64 (a1 - (a0_0.size : Int))) < 0 then (some (-1)) else (if (wrap64 ((wrap64 (a1 - (a0_0.size : Int))) - (a0_2.size : Int))) < 0 then (some (-1)) else (if (wrap64 ((wrap64 ((wrap64 (a1 - (a0_0.size : Int))) - (a0_2.size : Int))) - (a0_3.size : Int))) < 0 then (some (-1)) else (some (wrap64 ((wrap64 ((wrap64 (a1 - (a0_0.size : Int))) - (a0_2.size : Int))) - (a0_3.size : Int))))))
set_option maxHeartbeats 8000000 in
set_option maxRecDepth 100000 in
theorem laws_szLine.calls (a0_0 : ByteArray) (a0_1 : Int) (a0_2 : ByteArray) (a0_3 : ByteArray) (a0_4 : Int) (a0_5 : Int) (a1 : Int) (r : Int) (w : World) (h : laws_szLine.f a0_0 a0_1 a0_2 a0_3 a0_4 a0_5 a1 = some r) :
  Calls Try.prog 29 #[.agg #[.string a0_0, .int .i8 a0_1, .string a0_2, .string a0_3, .int .i64 a0_4, .int .i64 a0_5], .int .i64 a1] w fun e w' => e = .returned (.int .i64 r) ∧ Below w.heap.size w w' := by
 have hu42 := Try.underlying42
 have HB := A_ (Below.refl w.heap.size w)
 have H : (if (wrap64 (a1 - (a0_0.size : Int))) < 0 then (some (-1)) else (if (wrap64 ((wrap64 (a1 - (a0_0.size : Int))) - (a0_2.size : Int))) < 0 then (some (-1)) else (if (wrap64 ((wrap64 ((wrap64 (a1 - (a0_0.size : Int))) - (a0_2.size : Int))) - (a0_3.size : Int))) < 0 then (some (-1)) else (some (wrap64 ((wrap64 ((wrap64 (a1 - (a0_0.size : Int))) - (a0_2.size : Int))) - (a0_3.size : Int))))))) = some r := h
 clear h
 by_cases c3 : (wrap64 (a1 - (a0_0.size : Int))) < 0
 ·
  rw [if_pos c3] at H
  have c3b0 := decide_eq_true c3
  clear c3
  obtain rfl := Option.some.inj H
  go_enter Try.func29, Try.ntmps29
  go_wp2_with (first | ((with_reducible refine gate_dst (N := 2) rfl ?_); refine box_event ?hg (N := 2) ?hd (cs := #[.string a0_0, .int .i8 a0_1, .string a0_2, .string a0_3, .int .i64 a0_4, .int .i64 a0_5]) (t := 42) ?hr ?_; (case hd => rfl); (case hg => rfl); (case hr => first | (go_simp; done) | (go_simp; rfl)); intro gb101 hg w4 hbox hb; have _ := A_ (below_step z1_1_ hb); have _ := A_ (hbox); have _ := A_ ((by rw [hg]; exact (below_size z1_1_) : w.heap.size ≤ gb101)); have _ := A_ ((by rw [hg]; exact (below_size z1_1_) : w.heap.size ≤ gb101)); clear HB; rename_i HB BK101 GW101 GE101; clear hb hbox hg; obtain ⟨hcz5_0, hcz5_1, hcz5_2, hcz5_3, hcz5_4, hcz5_5⟩ := bc6 BK101.out; obtain ⟨hfz5_0, hfz5_1, hfz5_2, hfz5_3, hfz5_4, hfz5_5⟩ := bf6 BK101.out))
  go_ret
  exact ⟨z1_4_, z1_9_⟩
 ·
  rw [if_neg c3] at H
  have c3b0 := decide_eq_false c3
  clear c3
  by_cases c6 : (wrap64 ((wrap64 (a1 - (a0_0.size : Int))) - (a0_2.size : Int))) < 0
  ·
   rw [if_pos c6] at H
   have c6b0 := decide_eq_true c6
   clear c6
   obtain rfl := Option.some.inj H
   go_enter Try.func29, Try.ntmps29
   go_wp2_with (first | ((with_reducible refine gate_dst (N := 2) rfl ?_); refine box_event ?hg (N := 2) ?hd (cs := #[.string a0_0, .int .i8 a0_1, .string a0_2, .string a0_3, .int .i64 a0_4, .int .i64 a0_5]) (t := 42) ?hr ?_; (case hd => rfl); (case hg => rfl); (case hr => first | (go_simp; done) | (go_simp; rfl)); intro gb101 hg w7 hbox hb; have _ := A_ (below_step z1_1_ hb); have _ := A_ (hbox); have _ := A_ ((by rw [hg]; exact (below_size z1_1_) : w.heap.size ≤ gb101)); have _ := A_ ((by rw [hg]; exact (below_size z1_1_) : w.heap.size ≤ gb101)); clear HB; rename_i HB BK101 GW101 GE101; clear hb hbox hg; obtain ⟨hcz8_0, hcz8_1, hcz8_2, hcz8_3, hcz8_4, hcz8_5⟩ := bc6 BK101.out; obtain ⟨hfz8_0, hfz8_1, hfz8_2, hfz8_3, hfz8_4, hfz8_5⟩ := bf6 BK101.out))
   go_ret
   exact ⟨z1_4_, z1_9_⟩
  ·
   rw [if_neg c6] at H
   have c6b0 := decide_eq_false c6
   clear c6
   by_cases c9 : (wrap64 ((wrap64 ((wrap64 (a1 - (a0_0.size : Int))) - (a0_2.size : Int))) - (a0_3.size : Int))) < 0
   ·
    rw [if_pos c9] at H
    have c9b0 := decide_eq_true c9
    clear c9
    obtain rfl := Option.some.inj H
    go_enter Try.func29, Try.ntmps29
    go_wp2_with (first | ((with_reducible refine gate_dst (N := 2) rfl ?_); refine box_event ?hg (N := 2) ?hd (cs := #[.string a0_0, .int .i8 a0_1, .string a0_2, .string a0_3, .int .i64 a0_4, .int .i64 a0_5]) (t := 42) ?hr ?_; (case hd => rfl); (case hg => rfl); (case hr => first | (go_simp; done) | (go_simp; rfl)); intro gb101 hg w10 hbox hb; have _ := A_ (below_step z1_1_ hb); have _ := A_ (hbox); have _ := A_ ((by rw [hg]; exact (below_size z1_1_) : w.heap.size ≤ gb101)); have _ := A_ ((by rw [hg]; exact (below_size z1_1_) : w.heap.size ≤ gb101)); clear HB; rename_i HB BK101 GW101 GE101; clear hb hbox hg; obtain ⟨hcz11_0, hcz11_1, hcz11_2, hcz11_3, hcz11_4, hcz11_5⟩ := bc6 BK101.out; obtain ⟨hfz11_0, hfz11_1, hfz11_2, hfz11_3, hfz11_4, hfz11_5⟩ := bf6 BK101.out))
    go_ret
    exact ⟨z1_4_, z1_9_⟩
   ·
    rw [if_neg c9] at H
    have c9b0 := decide_eq_false c9
    clear c9
    obtain rfl := Option.some.inj H
    go_enter Try.func29, Try.ntmps29
    go_wp2_with (first | ((with_reducible refine gate_dst (N := 2) rfl ?_); refine box_event ?hg (N := 2) ?hd (cs := #[.string a0_0, .int .i8 a0_1, .string a0_2, .string a0_3, .int .i64 a0_4, .int .i64 a0_5]) (t := 42) ?hr ?_; (case hd => rfl); (case hg => rfl); (case hr => first | (go_simp; done) | (go_simp; rfl)); intro gb101 hg w12 hbox hb; have _ := A_ (below_step z1_1_ hb); have _ := A_ (hbox); have _ := A_ ((by rw [hg]; exact (below_size z1_1_) : w.heap.size ≤ gb101)); have _ := A_ ((by rw [hg]; exact (below_size z1_1_) : w.heap.size ≤ gb101)); clear HB; rename_i HB BK101 GW101 GE101; clear hb hbox hg; obtain ⟨hcz13_0, hcz13_1, hcz13_2, hcz13_3, hcz13_4, hcz13_5⟩ := bc6 BK101.out; obtain ⟨hfz13_0, hfz13_1, hfz13_2, hfz13_3, hfz13_4, hfz13_5⟩ := bf6 BK101.out))
    go_ret
    exact ⟨z1_4_, z1_9_⟩
/-! ### laws_szLineS: function 14 -/
def laws_szLineS.l0 : Nat → List (S42) → Int → Int → Option (Int)
 | 0, _, _, _ => none
 | k + 1, x0, x1, x5 => if x5 < (x0.length : Int) then (if 0 ≤ x5 then ((laws_szLine.f ((rd_T42 x0 x5).f0) ((rd_T42 x0 x5).f1) ((rd_T42 x0 x5).f2) ((rd_T42 x0 x5).f3) ((rd_T42 x0 x5).f4) ((rd_T42 x0 x5).f5) x1).bind fun t103 => (if t103 < 0 then (some (-1)) else (laws_szLineS.l0 k x0 t103 (wrap64 (x5 + 1))))) else (none)) else (some x1)
def laws_szLineS.f (k : Nat) (l0 : List (S42)) (a1 : Int) : Option (Int) := if (wrap64 (a1 - (l0.length : Int))) < 0 then (some (-1)) else (laws_szLineS.l0 k l0 (wrap64 (a1 - (l0.length : Int))) 0)
theorem laws_szLineS.mono_l : ∀ k, (∀ y0 y1 y2, LeO (laws_szLineS.l0 k y0 y1 y2) (laws_szLineS.l0 (k + 1) y0 y1 y2))
 | 0 => fun _ _ _ r h => by simp [laws_szLineS.l0] at h
 | k + 1 => by
  have ih0 := laws_szLineS.mono_l k
  ·
   intro y0 y1 y2
   unfold laws_szLineS.l0
   repeat' first
   | (with_reducible exact ih0 _ _ _)
   | (with_reducible exact LeO.refl _)
   | (with_reducible exact LeO.none _)
   | (with_reducible refine LeO.ite ?_ ?_)
   | (with_reducible refine LeO.bind ?_ (fun _ => ?_))
   | exact ih0 _ _ _
   | exact LeO.none _
   | refine LeO.ite ?_ ?_
   | refine LeO.bind ?_ (fun _ => ?_)
theorem laws_szLineS.mono : ∀ a0 a1 k, LeO (laws_szLineS.f k a0 a1) (laws_szLineS.f (k + 1) a0 a1) := by
 intro a0 a1 k
 have ih0 := laws_szLineS.mono_l k
 unfold laws_szLineS.f
 repeat' first
   | (with_reducible exact ih0 _ _ _)
   | (with_reducible exact LeO.refl _)
   | (with_reducible exact LeO.none _)
   | (with_reducible refine LeO.ite ?_ ?_)
   | (with_reducible refine LeO.bind ?_ (fun _ => ?_))
   | exact ih0 _ _ _
   | exact LeO.none _
   | refine LeO.ite ?_ ?_
   | refine LeO.bind ?_ (fun _ => ?_)
set_option maxHeartbeats 8000000 in
set_option maxRecDepth 100000 in
theorem laws_szLineS.calls (k : Nat) (A0 : Option Addr) (c0 : Nat) (l0 : List (S42)) (a1 : Int) (r : Int) (w : World) (hr0 : Kd.C k42 w A0 l0.length l0) (hc0 : l0.length ≤ c0) (h : laws_szLineS.f k l0 a1 = some r) :
  Calls Try.prog 14 #[.slice A0 l0.length c0, .int .i64 a1] w fun e w' => e = .returned (.int .i64 r) ∧ Below w.heap.size w w' := by
 have hu42 := Try.underlying42
 have HR0 := A_ hr0
 have HC0 := A_ hc0
 clear hr0 hc0
 have HB := A_ (Below.refl w.heap.size w)
 have H : (if (wrap64 (a1 - (l0.length : Int))) < 0 then (some (-1)) else (laws_szLineS.l0 k l0 (wrap64 (a1 - (l0.length : Int))) 0)) = some r := h
 clear h
 by_cases c3 : (wrap64 (a1 - (l0.length : Int))) < 0
 ·
  rw [if_pos c3] at H
  have c3b0 := decide_eq_true c3
  clear c3
  obtain rfl := Option.some.inj H
  go_enter Try.func14, Try.ntmps14
  go_wp2
  go_ret
  exact ⟨z1_4_, z1_1_⟩
 ·
  rw [if_neg c3] at H
  have c3b0 := decide_eq_false c3
  clear c3
  have H' := A_ H
  clear H
  go_enter Try.func14, Try.ntmps14
  go_wp2
  go_loopg [1, 5] k (fun kq v1 v5 w' => ∃ (x1_1 : Int) (x5_1 : Int), v1 = .int .i64 x1_1 ∧ v5 = .int .i64 x5_1 ∧ Aside0 (laws_szLineS.l0 kq l0 x1_1 x5_1 = some r) ∧ Aside0 (kq ≤ k) ∧ Aside0 (Below w.heap.size w w'))
  case atStart => exact ⟨(wrap64 (a1 - (l0.length : Int))), (0), z1_6_, z1_6_, H', ⟨Nat.le_refl _⟩, ⟨z1_1_⟩⟩
  case round =>
   clear H'
   try clear c1
   try clear p2
   try clear c3
   try clear c3b0
   obtain ⟨x1_1, x5_1, rfl, rfl, HA, HK1, HB⟩ := hrel
   cases gk with
   | zero => exact absurd HA.out (by simp [laws_szLineS.l0])
   | succ k1 =>
    have H := HA.out
    clear HA
    simp only [laws_szLineS.l0] at H
    by_cases c4 : x5_1 < (l0.length : Int)
    ·
     rw [if_pos c4] at H
     have c4b0 := decide_eq_true c4
     clear c4
     by_cases c5 : 0 ≤ x5_1
     ·
      rw [if_pos c5] at H
      have c5b0 := decide_eq_true c5
      clear c5
      replace H := Option.bind_eq_some_iff.mp H
      obtain ⟨t103, A60, H⟩ := H
      try dsimp only at H
      have A6 := A_ A60
      clear A60
      by_cases c7 : t103 < 0
      ·
       rw [if_pos c7] at H
       have c7b0 := decide_eq_true c7
       clear c7
       obtain rfl := Option.some.inj H
       have p102 : 0 ≤ (x5_1 : Int) := of_decide_eq_true (by assumption)
       have q102 : x5_1 < (l0.length : Int) := of_decide_eq_true (by assumption)
       obtain ⟨ad102, e102, hx102_0, hx102_1, hx102_2, hx102_3, hx102_4, hx102_5⟩ := at_T42 HR0.out x5_1 p102 q102
       cases e102
       replace hx102_0 := cel HB.out hx102_0
       replace hx102_1 := cel HB.out hx102_1
       replace hx102_2 := cel HB.out hx102_2
       replace hx102_3 := cel HB.out hx102_3
       replace hx102_4 := cel HB.out hx102_4
       replace hx102_5 := cel HB.out hx102_5
       replace p102 := eq_true p102
       replace q102 := eq_true q102
       go_wp2_with (first | ((with_reducible refine gate_callee (f := 29) rfl ?_); refine goesL_ (some 23) rfl rfl Try.func29 (by kernel_rfl) rfl #[.agg #[.string ((rd_T42 l0 x5_1).f0), .int .i8 ((rd_T42 l0 x5_1).f1), .string ((rd_T42 l0 x5_1).f2), .string ((rd_T42 l0 x5_1).f3), .int .i64 ((rd_T42 l0 x5_1).f4), .int .i64 ((rd_T42 l0 x5_1).f5)], .int .i64 x1_1] rfl z1_8_ ?_; (with_reducible refine (laws_szLine.calls ((rd_T42 l0 x5_1).f0) ((rd_T42 l0 x5_1).f1) ((rd_T42 l0 x5_1).f2) ((rd_T42 l0 x5_1).f3) ((rd_T42 l0 x5_1).f4) ((rd_T42 l0 x5_1).f5) x1_1 t103 _ A6.out).mono ?_); rintro e w8 ⟨rfl, hb⟩; refine ⟨_, rfl, ?_⟩; have _ := A_ (below_step z1_1_ hb); clear HB; rename_i HB; (try clear hb)))
       go_ret
       exact ⟨z1_4_, z1_1_⟩
      ·
       rw [if_neg c7] at H
       have c7b0 := decide_eq_false c7
       clear c7
       have H' := A_ H
       clear H
       have p102 : 0 ≤ (x5_1 : Int) := of_decide_eq_true (by assumption)
       have q102 : x5_1 < (l0.length : Int) := of_decide_eq_true (by assumption)
       obtain ⟨ad102, e102, hx102_0, hx102_1, hx102_2, hx102_3, hx102_4, hx102_5⟩ := at_T42 HR0.out x5_1 p102 q102
       cases e102
       replace hx102_0 := cel HB.out hx102_0
       replace hx102_1 := cel HB.out hx102_1
       replace hx102_2 := cel HB.out hx102_2
       replace hx102_3 := cel HB.out hx102_3
       replace hx102_4 := cel HB.out hx102_4
       replace hx102_5 := cel HB.out hx102_5
       replace p102 := eq_true p102
       replace q102 := eq_true q102
       go_wp2_with (first | ((with_reducible refine gate_callee (f := 29) rfl ?_); refine goesL_ (some 23) rfl rfl Try.func29 (by kernel_rfl) rfl #[.agg #[.string ((rd_T42 l0 x5_1).f0), .int .i8 ((rd_T42 l0 x5_1).f1), .string ((rd_T42 l0 x5_1).f2), .string ((rd_T42 l0 x5_1).f3), .int .i64 ((rd_T42 l0 x5_1).f4), .int .i64 ((rd_T42 l0 x5_1).f5)], .int .i64 x1_1] rfl z1_8_ ?_; (with_reducible refine (laws_szLine.calls ((rd_T42 l0 x5_1).f0) ((rd_T42 l0 x5_1).f1) ((rd_T42 l0 x5_1).f2) ((rd_T42 l0 x5_1).f3) ((rd_T42 l0 x5_1).f4) ((rd_T42 l0 x5_1).f5) x1_1 t103 _ A6.out).mono ?_); rintro e w9 ⟨rfl, hb⟩; refine ⟨_, rfl, ?_⟩; have _ := A_ (below_step z1_1_ hb); clear HB; rename_i HB; (try clear hb)))
       go_roundg k1
       case measure => have := HK1.out; omega
       case rel => exact ⟨(t103), (wrap64 (x5_1 + 1)), z1_6_, z1_6_, H', ⟨(by have := HK1.out; omega)⟩, ⟨z1_1_⟩⟩
     ·
      rw [if_neg c5] at H
      exact absurd H (by simp)
    ·
     rw [if_neg c4] at H
     have c4b0 := decide_eq_false c4
     clear c4
     obtain rfl := Option.some.inj H
     go_wp2
     go_ret
     exact ⟨z1_4_, z1_1_⟩
/-! ### laws_toLine: function 31 -/
def laws_toLine.f (a0_0 : ByteArray) (a0_1 : Int) (a0_2 : ByteArray) (a0_3 : ByteArray) (a0_4 : Int) (a0_5 : Int) : Option (ByteArray × Int × ByteArray × ByteArray × Int × Int) := some (a0_0, a0_1, a0_2, a0_3, a0_4, a0_5)
set_option maxHeartbeats 8000000 in
set_option maxRecDepth 100000 in
theorem laws_toLine.calls (a0_0 : ByteArray) (a0_1 : Int) (a0_2 : ByteArray) (a0_3 : ByteArray) (a0_4 : Int) (a0_5 : Int) (r1 : ByteArray) (r2 : Int) (r3 : ByteArray) (r4 : ByteArray) (r5 : Int) (r6 : Int) (w : World) (h : laws_toLine.f a0_0 a0_1 a0_2 a0_3 a0_4 a0_5 = some (r1, r2, r3, r4, r5, r6)) :
  Calls Try.prog 31 #[.agg #[.string a0_0, .int .i8 a0_1, .string a0_2, .string a0_3, .int .i64 a0_4, .int .i64 a0_5]] w fun e w' => e = .returned (.agg #[.string r1, .int .i8 r2, .string r3, .string r4, .int .i64 r5, .int .i64 r6]) ∧ Below w.heap.size w w' := by
 have hu42 := Try.underlying42
 have hu45 := Try.underlying45
 have HB := A_ (Below.refl w.heap.size w)
 have H : (some (a0_0, a0_1, a0_2, a0_3, a0_4, a0_5)) = some (r1, r2, r3, r4, r5, r6) := h
 clear h
 simp only [Option.some.injEq, Prod.mk.injEq] at H
 obtain ⟨rfl, rfl, rfl, rfl, rfl, rfl⟩ := H
 go_enter Try.func31, Try.ntmps31
 go_wp2_with (first | ((with_reducible refine gate_dst (N := 1) rfl ?_); refine box_event ?hg (N := 1) ?hd (cs := #[.string a0_0, .int .i8 a0_1, .string a0_2, .string a0_3, .int .i64 a0_4, .int .i64 a0_5]) (t := 42) ?hr ?_; (case hd => rfl); (case hg => rfl); (case hr => first | (go_simp; done) | (go_simp; rfl)); intro gb104 hg w2 hbox hb; have _ := A_ (below_step z1_1_ hb); have _ := A_ (hbox); have _ := A_ ((by rw [hg]; exact (below_size z1_1_) : w.heap.size ≤ gb104)); have _ := A_ ((by rw [hg]; exact (below_size z1_1_) : w.heap.size ≤ gb104)); clear HB; rename_i HB BK104 GW104 GE104; clear hb hbox hg) | ((with_reducible refine gate_dst (N := 2) rfl ?_); refine box_event ?hg (N := 2) ?hd (cs := #[.string (⟨#[]⟩ : ByteArray), .int .i8 0, .string (⟨#[]⟩ : ByteArray), .string (⟨#[]⟩ : ByteArray), .int .i64 0, .int .i64 0]) (t := 45) ?hr ?_; (case hd => rfl); (case hg => rfl); (case hr => first | (go_simp; done) | (go_simp; rfl)); intro gb105 hg w3 hbox hb; have _ := A_ (blk_below (g := gb104) (o := .cells #[.string a0_0, .int .i8 a0_1, .string a0_2, .string a0_3, .int .i64 a0_4, .int .i64 a0_5] 42 (0, 0)) z1_7_ hb); have _ := A_ (below_step z1_11_ hb); have _ := A_ (hbox); have _ := A_ ((by rw [hg]; exact (below_size z1_11_) : w.heap.size ≤ gb105)); have _ := A_ ((by rw [hg]; exact (below_size z1_11_) : w.heap.size ≤ gb105)); have _ := A_ ((by rw [hg]; exact Nat.ne_of_lt (blk_lt (g := gb104) (o := .cells #[.string a0_0, .int .i8 a0_1, .string a0_2, .string a0_3, .int .i64 a0_4, .int .i64 a0_5] 42 (0, 0)) z1_7_) : gb104 ≠ gb105)); have _ := A_ ((by rw [hg]; exact Nat.ne_of_gt (blk_lt (g := gb104) (o := .cells #[.string a0_0, .int .i8 a0_1, .string a0_2, .string a0_3, .int .i64 a0_4, .int .i64 a0_5] 42 (0, 0)) z1_7_) : gb105 ≠ gb104)); clear BK104 HB; rename_i BK104 HB BK105 GW105 GE105 NB104_105 NB105_104; clear hb hbox hg) | ((with_reducible refine gate_dst (N := 3) rfl ?_); refine box_event ?hg (N := 3) ?hd (cs := #[.string (⟨#[]⟩ : ByteArray), .int .i8 0, .string (⟨#[]⟩ : ByteArray), .string (⟨#[]⟩ : ByteArray), .int .i64 0, .int .i64 0]) (t := 45) ?hr ?_; (case hd => rfl); (case hg => rfl); (case hr => first | (go_simp; done) | (go_simp; rfl)); intro gb106 hg w4 hbox hb; have _ := A_ (blk_below (g := gb104) (o := .cells #[.string a0_0, .int .i8 a0_1, .string a0_2, .string a0_3, .int .i64 a0_4, .int .i64 a0_5] 42 (0, 0)) z1_7_ hb); have _ := A_ (blk_below (g := gb105) (o := .cells #[.string (⟨#[]⟩ : ByteArray), .int .i8 0, .string (⟨#[]⟩ : ByteArray), .string (⟨#[]⟩ : ByteArray), .int .i64 0, .int .i64 0] 45 (0, 0)) z1_13_ hb); have _ := A_ (below_step z1_10_ hb); have _ := A_ (hbox); have _ := A_ ((by rw [hg]; exact (below_size z1_10_) : w.heap.size ≤ gb106)); have _ := A_ ((by rw [hg]; exact (below_size z1_10_) : w.heap.size ≤ gb106)); have _ := A_ ((by rw [hg]; exact Nat.ne_of_lt (blk_lt (g := gb104) (o := .cells #[.string a0_0, .int .i8 a0_1, .string a0_2, .string a0_3, .int .i64 a0_4, .int .i64 a0_5] 42 (0, 0)) z1_7_) : gb104 ≠ gb106)); have _ := A_ ((by rw [hg]; exact Nat.ne_of_gt (blk_lt (g := gb104) (o := .cells #[.string a0_0, .int .i8 a0_1, .string a0_2, .string a0_3, .int .i64 a0_4, .int .i64 a0_5] 42 (0, 0)) z1_7_) : gb106 ≠ gb104)); have _ := A_ ((by rw [hg]; exact Nat.ne_of_lt (blk_lt (g := gb105) (o := .cells #[.string (⟨#[]⟩ : ByteArray), .int .i8 0, .string (⟨#[]⟩ : ByteArray), .string (⟨#[]⟩ : ByteArray), .int .i64 0, .int .i64 0] 45 (0, 0)) z1_13_) : gb105 ≠ gb106)); have _ := A_ ((by rw [hg]; exact Nat.ne_of_gt (blk_lt (g := gb105) (o := .cells #[.string (⟨#[]⟩ : ByteArray), .int .i8 0, .string (⟨#[]⟩ : ByteArray), .string (⟨#[]⟩ : ByteArray), .int .i64 0, .int .i64 0] 45 (0, 0)) z1_13_) : gb106 ≠ gb105)); clear BK104 BK105 HB; rename_i BK104 BK105 HB BK106 GW106 GE106 NB104_106 NB106_104 NB105_106 NB106_105; clear hb hbox hg; have hnb5 := NB104_105.out; have hnc5 := NB105_104.out; have hnb6 := NB104_106.out; have hnc6 := NB106_104.out; obtain ⟨hcz7_0, hcz7_1, hcz7_2, hcz7_3, hcz7_4, hcz7_5⟩ := bc6 BK104.out; obtain ⟨hfz7_0, hfz7_1, hfz7_2, hfz7_3, hfz7_4, hfz7_5⟩ := bf6 BK104.out; have hnb8 := NB106_105.out; have hnc8 := NB105_106.out; obtain ⟨hcz9_0, hcz9_1, hcz9_2, hcz9_3, hcz9_4, hcz9_5⟩ := bc6 BK106.out; obtain ⟨hfz9_0, hfz9_1, hfz9_2, hfz9_3, hfz9_4, hfz9_5⟩ := bf6 BK106.out; obtain ⟨hcz10_0, hcz10_1, hcz10_2, hcz10_3, hcz10_4, hcz10_5⟩ := bc6 BK105.out; obtain ⟨hfz10_0, hfz10_1, hfz10_2, hfz10_3, hfz10_4, hfz10_5⟩ := bf6 BK105.out))
 refine bodyPost_ret (results_cell_row rfl _ _ gb105 45 #[.string a0_0, .int .i8 a0_1, .string a0_2, .string a0_3, .int .i64 a0_4, .int .i64 a0_5] (0, 0) _ rfl (by (with_reducible repeat (first | refine blk_drewN ?_ _ | refine blk_drew ?_ | refine blk_alloc ?_ _)); refine blk_put (cs := #[.string a0_0, .int .i8 a0_1, .string a0_2, .string a0_3, .int .i64 a0_4, .int .i64 0]) ?_ 5 _ rfl; (with_reducible repeat (first | refine blk_drewN ?_ _ | refine blk_drew ?_ | refine blk_alloc ?_ _)); refine blk_put (cs := #[.string a0_0, .int .i8 a0_1, .string a0_2, .string a0_3, .int .i64 0, .int .i64 0]) ?_ 4 _ rfl; (with_reducible repeat (first | refine blk_drewN ?_ _ | refine blk_drew ?_ | refine blk_alloc ?_ _)); refine blk_put (cs := #[.string a0_0, .int .i8 a0_1, .string a0_2, .string (⟨#[]⟩ : ByteArray), .int .i64 0, .int .i64 0]) ?_ 3 _ rfl; (with_reducible repeat (first | refine blk_drewN ?_ _ | refine blk_drew ?_ | refine blk_alloc ?_ _)); refine blk_put (cs := #[.string a0_0, .int .i8 a0_1, .string (⟨#[]⟩ : ByteArray), .string (⟨#[]⟩ : ByteArray), .int .i64 0, .int .i64 0]) ?_ 2 _ rfl; (with_reducible repeat (first | refine blk_drewN ?_ _ | refine blk_drew ?_ | refine blk_alloc ?_ _)); refine blk_put (cs := #[.string a0_0, .int .i8 0, .string (⟨#[]⟩ : ByteArray), .string (⟨#[]⟩ : ByteArray), .int .i64 0, .int .i64 0]) ?_ 1 _ rfl; (with_reducible repeat (first | refine blk_drewN ?_ _ | refine blk_drew ?_ | refine blk_alloc ?_ _)); refine blk_put (cs := #[.string (⟨#[]⟩ : ByteArray), .int .i8 0, .string (⟨#[]⟩ : ByteArray), .string (⟨#[]⟩ : ByteArray), .int .i64 0, .int .i64 0]) ?_ 0 _ rfl; (with_reducible repeat (first | refine blk_drewN ?_ _ | refine blk_drew ?_ | refine blk_alloc ?_ _)); refine blk_far ?_ NB105_106.out _; (with_reducible repeat (first | refine blk_drewN ?_ _ | refine blk_drew ?_ | refine blk_alloc ?_ _)); refine blk_far ?_ NB105_106.out _; (with_reducible repeat (first | refine blk_drewN ?_ _ | refine blk_drew ?_ | refine blk_alloc ?_ _)); refine blk_far ?_ NB105_106.out _; (with_reducible repeat (first | refine blk_drewN ?_ _ | refine blk_drew ?_ | refine blk_alloc ?_ _)); refine blk_far ?_ NB105_106.out _; (with_reducible repeat (first | refine blk_drewN ?_ _ | refine blk_drew ?_ | refine blk_alloc ?_ _)); refine blk_far ?_ NB105_106.out _; (with_reducible repeat (first | refine blk_drewN ?_ _ | refine blk_drew ?_ | refine blk_alloc ?_ _)); refine blk_far ?_ NB105_106.out _; (with_reducible repeat (first | refine blk_drewN ?_ _ | refine blk_drew ?_ | refine blk_alloc ?_ _)); exact BK105.out) Try.underlying45 rfl (by kernel_rfl)) rfl ?_
 exact ⟨z1_4_, (by repeat (first | (with_reducible first | exact HB.out | apply below_alloc | apply pw_below_drewN | apply below_drew1 | refine below_set ?_ GE104.out | refine below_set ?_ GE105.out | refine below_set ?_ GE106.out) | exact HB.out))⟩
/-! ### laws_toLineS: function 16 -/
def laws_toLineS.l0 : Nat → List (S42) → List (S45) → Int → Option ((List (S45)))
 | 0, _, _, _ => none
 | k + 1, x0, x3, x4 => if x4 < (x0.length : Int) then (if 0 ≤ x4 then ((laws_toLine.f ((rd_T42 x0 x4).f0) ((rd_T42 x0 x4).f1) ((rd_T42 x0 x4).f2) ((rd_T42 x0 x4).f3) ((rd_T42 x0 x4).f4) ((rd_T42 x0 x4).f5)).bind fun bt111 => (if x4 < (x3.length : Int) then (laws_toLineS.l0 k x0 (x3.set (x4 : Int).toNat (⟨bt111.1, bt111.2.1, bt111.2.2.1, bt111.2.2.2.1, bt111.2.2.2.2.1, bt111.2.2.2.2.2⟩ : S45)) (wrap64 (x4 + 1))) else (none))) else (none)) else (some x3)
def laws_toLineS.f (k : Nat) (l0 : List (S42)) : Option ((List (S45))) := if 0 ≤ (l0.length : Int) then (if ((l0.length : Int) : Int).toNat ≤ 3909374676536 then (laws_toLineS.l0 k l0 (List.replicate ((l0.length : Int) : Int).toNat z45) 0) else (none)) else (none)
theorem laws_toLineS.mono_l : ∀ k, (∀ y0 y1 y2, LeO (laws_toLineS.l0 k y0 y1 y2) (laws_toLineS.l0 (k + 1) y0 y1 y2))
 | 0 => fun _ _ _ r h => by simp [laws_toLineS.l0] at h
 | k + 1 => by
  have ih0 := laws_toLineS.mono_l k
  ·
   intro y0 y1 y2
   unfold laws_toLineS.l0
   repeat' first
   | (with_reducible exact ih0 _ _ _)
   | (with_reducible exact LeO.refl _)
   | (with_reducible exact LeO.none _)
   | (with_reducible refine LeO.ite ?_ ?_)
   | (with_reducible refine LeO.bind ?_ (fun _ => ?_))
   | exact ih0 _ _ _
   | exact LeO.none _
   | refine LeO.ite ?_ ?_
   | refine LeO.bind ?_ (fun _ => ?_)
theorem laws_toLineS.mono : ∀ a0 k, LeO (laws_toLineS.f k a0) (laws_toLineS.f (k + 1) a0) := by
 intro a0 k
 have ih0 := laws_toLineS.mono_l k
 unfold laws_toLineS.f
 repeat' first
   | (with_reducible exact ih0 _ _ _)
   | (with_reducible exact LeO.refl _)
   | (with_reducible exact LeO.none _)
   | (with_reducible refine LeO.ite ?_ ?_)
   | (with_reducible refine LeO.bind ?_ (fun _ => ?_))
   | exact ih0 _ _ _
   | exact LeO.none _
   | refine LeO.ite ?_ ?_
   | refine LeO.bind ?_ (fun _ => ?_)
set_option maxHeartbeats 8000000 in
set_option maxRecDepth 100000 in
theorem laws_toLineS.calls (k : Nat) (A0 : Option Addr) (c0 : Nat) (l0 : List (S42)) (r : List (S45)) (w : World) (hr0 : Kd.C k42 w A0 l0.length l0) (hc0 : l0.length ≤ c0) (h : laws_toLineS.f k l0 = some r) :
  Calls Try.prog 16 #[.slice A0 l0.length c0] w fun e w' => ∃ v0_ : Value, e = .returned (v0_) ∧ Kd.R k45 45 w' w.heap.size (fun _ => True) v0_ r ∧ Below w.heap.size w w' := by
 have hu42 := Try.underlying42
 have hu45 := Try.underlying45
 have HR0 := A_ hr0
 have HC0 := A_ hc0
 clear hr0 hc0
 have HB := A_ (Below.refl w.heap.size w)
 have H : (if 0 ≤ (l0.length : Int) then (if ((l0.length : Int) : Int).toNat ≤ 3909374676536 then (laws_toLineS.l0 k l0 (List.replicate ((l0.length : Int) : Int).toNat z45) 0) else (none)) else (none)) = some r := h
 clear h
 by_cases c2 : 0 ≤ (l0.length : Int)
 ·
  rw [if_pos c2] at H
  have c2b0 := eq_true c2
  have c2b1 := decide_eq_true c2
  clear c2
  by_cases c3 : ((l0.length : Int) : Int).toNat ≤ 3909374676536
  ·
   rw [if_pos c3] at H
   have c3b0 := eq_true c3
   have c3b1 := decide_eq_true c3
   clear c3
   obtain ⟨y107, hy107⟩ : ∃ y_ : List (S45), y_ = (List.replicate ((l0.length : Int) : Int).toNat z45) := ⟨_, rfl⟩
   replace H : (laws_toLineS.l0 k l0 y107 0) = some r := by first | (rw [hy107]; with_reducible exact H) | (have H2_ := (Option.bind_some _ _).symm.trans H; rw [hy107]; with_reducible exact H2_) | (have H2_ := (Option.bind_some _ _).symm.trans H; with_reducible exact H2_) | with_reducible exact H | (rw [hy107]; exact H) | exact H
   have Ny107 := A_ hy107
   clear hy107
   have H' := A_ H
   clear H
   go_enter Try.func16, Try.ntmps16
   go_wp2_with (first | ((with_reducible refine gate_dst (N := 7) rfl ?_); refine Kd.R_make k45 _ 45 rfl (N := 7) rfl 25 _ _ rfl (l0.length : Int) rfl rfl Try.underlying25 (.agg #[(.string ⟨#[]⟩), (.int .i8 0), (.string ⟨#[]⟩), (.string ⟨#[]⟩), (.int .i64 0), (.int .i64 0)]) 72 info45 rfl (by decide) (by omega) z45 (ok := fun _ => True) (okp := fun _ => True) (k45_mkM _ _ _ z45 ) (fun _ hk => hk) trivial (of_decide_eq_true (by assumption)) (Nat.le_trans (Nat.mul_le_mul_right _ (of_decide_eq_true (by assumption) : (l0.length : Int).toNat ≤ 3909374676536)) (by omega)) (Below.refl _ _) (Nat.le_refl _) ?_; intro v108 w4 ho5 hb hg_ hnew_; clear hg_ hnew_; (first | rw [← Ny107.out] at ho5 | (simp only [Int.reduceToNat] at ho5; rw [← Ny107.out] at ho5)); have _ := A_ (Kd.R_lower ho5 (below_size z1_1_)); have _ := A_ (below_step z1_1_ hb); clear HB; rename_i HO109 HB; clear hb ho5))
   go_loopg [4] k (fun kq v4 w' => ∃ (x3_1 : List (S45)) (x4_1 : Int), v4 = .int .i64 x4_1 ∧ Aside0 (laws_toLineS.l0 kq l0 x3_1 x4_1 = some r) ∧ Aside0 (kq ≤ k) ∧ Aside0 (Kd.R k45 45 w' w.heap.size (fun _ => True) v108 x3_1) ∧ Aside0 (Below w.heap.size w w'))
   case atStart => exact ⟨(y107), (0), z1_6_, H', ⟨Nat.le_refl _⟩, ⟨(by (with_reducible repeat (first | apply Kd.R_alloc | apply Kd.R_drewN | apply Kd.R_drew)); exact HO109.out)⟩, ⟨z1_1_⟩⟩
   case round =>
    clear H'
    try clear c1
    try clear c2
    try clear c2b0
    try clear c2b1
    try clear p2
    try clear c3
    try clear c3b0
    try clear c3b1
    obtain ⟨x3_1, x4_1, rfl, HA, HK1, HO_3, HB⟩ := hrel
    cases gk with
    | zero => exact absurd HA.out (by simp [laws_toLineS.l0])
    | succ k1 =>
     have H := HA.out
     clear HA
     simp only [laws_toLineS.l0] at H
     by_cases c6 : x4_1 < (l0.length : Int)
     ·
      rw [if_pos c6] at H
      have c6b0 := decide_eq_true c6
      clear c6
      by_cases c7 : 0 ≤ x4_1
      ·
       rw [if_pos c7] at H
       have c7b0 := decide_eq_true c7
       clear c7
       replace H := Option.bind_eq_some_iff.mp H
       obtain ⟨⟨t111, t112, t113, t114, t115, t116⟩, A80, H⟩ := H
       try dsimp only at H
       have A8 := A_ A80
       clear A80
       by_cases c9 : x4_1 < (x3_1.length : Int)
       ·
        rw [if_pos c9] at H
        have c9b0 := decide_eq_true c9
        clear c9
        obtain ⟨y117, hy117⟩ : ∃ y_ : List (S45), y_ = (x3_1.set (x4_1 : Int).toNat (⟨t111, t112, t113, t114, t115, t116⟩ : S45)) := ⟨_, rfl⟩
        replace H : (laws_toLineS.l0 k1 l0 y117 (wrap64 (x4_1 + 1))) = some r := by first | (rw [hy117]; with_reducible exact H) | (have H2_ := (Option.bind_some _ _).symm.trans H; rw [hy117]; with_reducible exact H2_) | (have H2_ := (Option.bind_some _ _).symm.trans H; with_reducible exact H2_) | with_reducible exact H | (rw [hy117]; exact H) | exact H
        have Ny117 := A_ hy117
        clear hy117
        have H' := A_ H
        clear H
        have p110 : 0 ≤ (x4_1 : Int) := of_decide_eq_true (by assumption)
        have q110 : x4_1 < (l0.length : Int) := of_decide_eq_true (by assumption)
        obtain ⟨ad110, e110, hx110_0, hx110_1, hx110_2, hx110_3, hx110_4, hx110_5⟩ := at_T42 HR0.out x4_1 p110 q110
        cases e110
        replace hx110_0 := cel HB.out hx110_0
        replace hx110_1 := cel HB.out hx110_1
        replace hx110_2 := cel HB.out hx110_2
        replace hx110_3 := cel HB.out hx110_3
        replace hx110_4 := cel HB.out hx110_4
        replace hx110_5 := cel HB.out hx110_5
        replace p110 := eq_true p110
        replace q110 := eq_true q110
        go_wp2_with (first | ((with_reducible refine gate_callee (f := 31) rfl ?_); refine goesL_ (some 20) rfl rfl Try.func31 (by kernel_rfl) rfl #[.agg #[.string ((rd_T42 l0 x4_1).f0), .int .i8 ((rd_T42 l0 x4_1).f1), .string ((rd_T42 l0 x4_1).f2), .string ((rd_T42 l0 x4_1).f3), .int .i64 ((rd_T42 l0 x4_1).f4), .int .i64 ((rd_T42 l0 x4_1).f5)]] rfl z1_8_ ?_; (with_reducible refine (laws_toLine.calls ((rd_T42 l0 x4_1).f0) ((rd_T42 l0 x4_1).f1) ((rd_T42 l0 x4_1).f2) ((rd_T42 l0 x4_1).f3) ((rd_T42 l0 x4_1).f4) ((rd_T42 l0 x4_1).f5) t111 t112 t113 t114 t115 t116 _ A8.out).mono ?_); rintro e w11 ⟨rfl, hb⟩; refine ⟨_, rfl, ?_⟩; have _ := A_ (Kd.R_below z1_12_ hb); have _ := A_ (below_step z1_1_ hb); clear HO_3 HB; rename_i HO_3 HB; (try clear hb); have p10 : 0 ≤ (x4_1 : Int) := of_decide_eq_true (by assumption); have q10 : (x4_1 : Int) < ((x3_1.length : Int) : Int) := of_decide_eq_true (by assumption); obtain ⟨go10, co10, eo10, gb10, gl10, cl10, HG10⟩ := Kd.R_form HO_3.out (by omega); (first | cases eo10 | (injection eo10 with ea_ en_ ec_; (first | subst ea_ | (injection ea_ with ea_; subst ea_)); subst ec_; clear en_)); have GB10 := A_ gb10; have GG10 := A_ HG10; clear gb10 gl10 HG10; obtain ⟨ce10, hcl10, hM10, hcc10, hfr10⟩ := Kd.R_elem HO_3.out z45 (x4_1 : Int) p10 q10; obtain rfl := k45_openM hM10; have hx10_0 : w11.cell? ⟨go10, (x4_1 : Int).toNat * 6, none⟩ = some (.string ((rd_T45 x3_1 x4_1).f0)) := hcc10 0 _ rfl; have hx10_1 : w11.cell? ⟨go10, (x4_1 : Int).toNat * 6 + 1, none⟩ = some (.int .i8 ((rd_T45 x3_1 x4_1).f1)) := hcc10 1 _ rfl; have hx10_2 : w11.cell? ⟨go10, (x4_1 : Int).toNat * 6 + 2, none⟩ = some (.string ((rd_T45 x3_1 x4_1).f2)) := hcc10 2 _ rfl; have hx10_3 : w11.cell? ⟨go10, (x4_1 : Int).toNat * 6 + 3, none⟩ = some (.string ((rd_T45 x3_1 x4_1).f3)) := hcc10 3 _ rfl; have hx10_4 : w11.cell? ⟨go10, (x4_1 : Int).toNat * 6 + 4, none⟩ = some (.int .i64 ((rd_T45 x3_1 x4_1).f4)) := hcc10 4 _ rfl; have hx10_5 : w11.cell? ⟨go10, (x4_1 : Int).toNat * 6 + 5, none⟩ = some (.int .i64 ((rd_T45 x3_1 x4_1).f5)) := hcc10 5 _ rfl; have hf10_0 : w11.frozen? ⟨go10, (x4_1 : Int).toNat * 6, none⟩ = false := hfr10 0; have hf10_1 : w11.frozen? ⟨go10, (x4_1 : Int).toNat * 6 + 1, none⟩ = false := hfr10 1; have hf10_2 : w11.frozen? ⟨go10, (x4_1 : Int).toNat * 6 + 2, none⟩ = false := hfr10 2; have hf10_3 : w11.frozen? ⟨go10, (x4_1 : Int).toNat * 6 + 3, none⟩ = false := hfr10 3; have hf10_4 : w11.frozen? ⟨go10, (x4_1 : Int).toNat * 6 + 4, none⟩ = false := hfr10 4; have hf10_5 : w11.frozen? ⟨go10, (x4_1 : Int).toNat * 6 + 5, none⟩ = false := hfr10 5; clear hcl10 hcc10 hfr10 hM10; replace p10 := eq_true p10; replace q10 := eq_true q10; have HX12 := A_ (show Kd.R k45 45 w11 w.heap.size (fun _ => True) (.slice (some ⟨go10, 0, none⟩) x3_1.length co10) x3_1 from z1_12_); obtain ⟨ce12, hcl12, hM12, hcc12, hfr12⟩ := Kd.R_elem HX12.out z45 (x4_1 : Int) (of_decide_eq_true (by assumption)) (by have h_ : (x4_1 : Int) < ((x3_1.length : Int) : Int) := of_decide_eq_true (by assumption); first | exact h_ | (have e_ := (Kd.R_reads' HO_3.out).1; omega) | simpa using h_); obtain rfl := k45_openM hM12; have HP12 := Kd.R_seg HX12.out (x4_1 : Int) (of_decide_eq_true (by assumption)) (by have h_ : (x4_1 : Int) < ((x3_1.length : Int) : Int) := of_decide_eq_true (by assumption); first | exact h_ | (have e_ := (Kd.R_reads' HO_3.out).1; omega) | simpa using h_) (seg := [.string t111, .int .i8 t112, .string t113, .string t114, .int .i64 t115, .int .i64 t116]) (j := 0) hcl12 hcc12 (show 6 ≤ 6 from by decide) (x' := (⟨t111, t112, t113, t114, t115, t116⟩ : S45)) (k45_mkM _ _ _ (⟨t111, t112, t113, t114, t115, t116⟩ : S45) ) (fun _ hk => hk); have hx12_0 := hcc12 0 _ rfl; (try simp only [show (k45).sz = 6 from rfl, Nat.mul_one, Nat.add_zero] at hx12_0); have hf12_0 := hfr12 0; (try simp only [show (k45).sz = 6 from rfl, Nat.mul_one, Nat.add_zero] at hf12_0); have hx12_1 := hcc12 1 _ rfl; (try simp only [show (k45).sz = 6 from rfl, Nat.mul_one, Nat.add_zero] at hx12_1); have hf12_1 := hfr12 1; (try simp only [show (k45).sz = 6 from rfl, Nat.mul_one, Nat.add_zero] at hf12_1); have hx12_2 := hcc12 2 _ rfl; (try simp only [show (k45).sz = 6 from rfl, Nat.mul_one, Nat.add_zero] at hx12_2); have hf12_2 := hfr12 2; (try simp only [show (k45).sz = 6 from rfl, Nat.mul_one, Nat.add_zero] at hf12_2); have hx12_3 := hcc12 3 _ rfl; (try simp only [show (k45).sz = 6 from rfl, Nat.mul_one, Nat.add_zero] at hx12_3); have hf12_3 := hfr12 3; (try simp only [show (k45).sz = 6 from rfl, Nat.mul_one, Nat.add_zero] at hf12_3); have hx12_4 := hcc12 4 _ rfl; (try simp only [show (k45).sz = 6 from rfl, Nat.mul_one, Nat.add_zero] at hx12_4); have hf12_4 := hfr12 4; (try simp only [show (k45).sz = 6 from rfl, Nat.mul_one, Nat.add_zero] at hf12_4); have hx12_5 := hcc12 5 _ rfl; (try simp only [show (k45).sz = 6 from rfl, Nat.mul_one, Nat.add_zero] at hx12_5); have hf12_5 := hfr12 5; (try simp only [show (k45).sz = 6 from rfl, Nat.mul_one, Nat.add_zero] at hf12_5); clear hcl12 hcc12 hfr12 hM12) | ((with_reducible refine gate_store (t := 45) (p := 21) rfl ?_); refine store_event (t := 45) (p := 21) (v := ?vo_w13) (w1 := ((((((w11.setCell ⟨go10, (x4_1 : Int).toNat * 6, none⟩ (.string t111)).setCell ⟨go10, (x4_1 : Int).toNat * 6 + 1, none⟩ (.int .i8 t112)).setCell ⟨go10, (x4_1 : Int).toNat * 6 + 2, none⟩ (.string t113)).setCell ⟨go10, (x4_1 : Int).toNat * 6 + 3, none⟩ (.string t114)).setCell ⟨go10, (x4_1 : Int).toNat * 6 + 4, none⟩ (.int .i64 t115)).setCell ⟨go10, (x4_1 : Int).toNat * 6 + 5, none⟩ (.int .i64 t116))) ?hg ?ho ?hn ?hr ?_; (case ho => rfl); (case hg => rfl); (case hn => rfl); (case hr => first | (go_simp; done) | (go_simp; rfl)); intro w13 hw; have hg : w11.grownBy w13 (some go10) := (by rw [hw]; exact HP12.2); have hp_ : Kd.R k45 45 w13 w.heap.size (fun _ => True) (.slice (some ⟨go10, 0, none⟩) x3_1.length co10) y117 := (by rw [hw, Ny117.out]; exact HP12.1); clear HP12; have _ := A_ (hp_); have _ := A_ ((by rw [hw]; exact below_set (below_set (below_set (below_set (below_set (below_set (HB.out) GB10.out) GB10.out) GB10.out) GB10.out) GB10.out) GB10.out : Below w.heap.size w w13)); clear HO_3 HB; rename_i HO_3 HB; clear hg hw hp_))
        go_roundg k1
        case measure => have := HK1.out; omega
        case rel => exact ⟨(y117), (wrap64 (x4_1 + 1)), z1_6_, H', ⟨(by have := HK1.out; omega)⟩, ⟨z1_12_⟩, ⟨z1_1_⟩⟩
       ·
        rw [if_neg c9] at H
        exact absurd H (by simp)
      ·
       rw [if_neg c7] at H
       exact absurd H (by simp)
     ·
      rw [if_neg c6] at H
      have c6b0 := decide_eq_false c6
      clear c6
      obtain rfl := Option.some.inj H
      go_wp2
      go_ret
      exact ⟨_, z1_4_, z1_12_, z1_1_⟩
  ·
   rw [if_neg c3] at H
   exact absurd H (by simp)
 ·
  rw [if_neg c2] at H
  exact absurd H (by simp)
/-! ### laws_eqLine: function 63 -/
def laws_eqLine.f (a0_0 : ByteArray) (a0_1 : Int) (a0_2 : ByteArray) (a0_3 : ByteArray) (a0_4 : Int) (a0_5 : Int) (a1_0 : ByteArray) (a1_1 : Int) (a1_2 : ByteArray) (a1_3 : ByteArray) (a1_4 : Int) (a1_5 : Int) : Option (Bool) := if a0_0.toList = a1_0.toList then (if a0_1 = a1_1 then (if a0_2.toList = a1_2.toList then (if a0_3.toList = a1_3.toList then (if a0_4 = a1_4 then (if a0_5 = a1_5 then (some true) else (some false)) else (some false)) else (some false)) else (some false)) else (some false)) else (some false)
set_option maxHeartbeats 8000000 in
set_option maxRecDepth 100000 in
theorem laws_eqLine.calls (a0_0 : ByteArray) (a0_1 : Int) (a0_2 : ByteArray) (a0_3 : ByteArray) (a0_4 : Int) (a0_5 : Int) (a1_0 : ByteArray) (a1_1 : Int) (a1_2 : ByteArray) (a1_3 : ByteArray) (a1_4 : Int) (a1_5 : Int) (r : Bool) (w : World) (h : laws_eqLine.f a0_0 a0_1 a0_2 a0_3 a0_4 a0_5 a1_0 a1_1 a1_2 a1_3 a1_4 a1_5 = some r) :
  Calls Try.prog 63 #[.agg #[.string a0_0, .int .i8 a0_1, .string a0_2, .string a0_3, .int .i64 a0_4, .int .i64 a0_5], .agg #[.string a1_0, .int .i8 a1_1, .string a1_2, .string a1_3, .int .i64 a1_4, .int .i64 a1_5]] w fun e w' => e = .returned (.bool r) ∧ Below w.heap.size w w' := by
 have hu45 := Try.underlying45
 have HB := A_ (Below.refl w.heap.size w)
 have H : (if a0_0.toList = a1_0.toList then (if a0_1 = a1_1 then (if a0_2.toList = a1_2.toList then (if a0_3.toList = a1_3.toList then (if a0_4 = a1_4 then (if a0_5 = a1_5 then (some true) else (some false)) else (some false)) else (some false)) else (some false)) else (some false)) else (some false)) = some r := h
 clear h
 by_cases c3 : a0_0.toList = a1_0.toList
 ·
  rw [if_pos c3] at H
  have c3b0 := beq_iff_eq.mpr c3
  have c3b1 := bne_eq_false_iff_eq.mpr c3
  clear c3
  by_cases c4 : a0_1 = a1_1
  ·
   rw [if_pos c4] at H
   have c4b0 := beq_iff_eq.mpr c4
   have c4b1 := bne_eq_false_iff_eq.mpr c4
   clear c4
   by_cases c5 : a0_2.toList = a1_2.toList
   ·
    rw [if_pos c5] at H
    have c5b0 := beq_iff_eq.mpr c5
    have c5b1 := bne_eq_false_iff_eq.mpr c5
    clear c5
    by_cases c6 : a0_3.toList = a1_3.toList
    ·
     rw [if_pos c6] at H
     have c6b0 := beq_iff_eq.mpr c6
     have c6b1 := bne_eq_false_iff_eq.mpr c6
     clear c6
     by_cases c7 : a0_4 = a1_4
     ·
      rw [if_pos c7] at H
      have c7b0 := beq_iff_eq.mpr c7
      have c7b1 := bne_eq_false_iff_eq.mpr c7
      clear c7
      by_cases c8 : a0_5 = a1_5
      ·
       rw [if_pos c8] at H
       have c8b0 := beq_iff_eq.mpr c8
       have c8b1 := bne_eq_false_iff_eq.mpr c8
       clear c8
       obtain rfl := Option.some.inj H
       go_enter Try.func63, Try.ntmps63
       go_wp2_with (first | ((with_reducible refine gate_dst (N := 2) rfl ?_); refine box_event ?hg (N := 2) ?hd (cs := #[.string a0_0, .int .i8 a0_1, .string a0_2, .string a0_3, .int .i64 a0_4, .int .i64 a0_5]) (t := 45) ?hr ?_; (case hd => rfl); (case hg => rfl); (case hr => first | (go_simp; done) | (go_simp; rfl)); intro gb118 hg w9 hbox hb; have _ := A_ (below_step z1_1_ hb); have _ := A_ (hbox); have _ := A_ ((by rw [hg]; exact (below_size z1_1_) : w.heap.size ≤ gb118)); have _ := A_ ((by rw [hg]; exact (below_size z1_1_) : w.heap.size ≤ gb118)); clear HB; rename_i HB BK118 GW118 GE118; clear hb hbox hg) | ((with_reducible refine gate_dst (N := 3) rfl ?_); refine box_event ?hg (N := 3) ?hd (cs := #[.string a1_0, .int .i8 a1_1, .string a1_2, .string a1_3, .int .i64 a1_4, .int .i64 a1_5]) (t := 45) ?hr ?_; (case hd => rfl); (case hg => rfl); (case hr => first | (go_simp; done) | (go_simp; rfl)); intro gb119 hg w10 hbox hb; have _ := A_ (blk_below (g := gb118) (o := .cells #[.string a0_0, .int .i8 a0_1, .string a0_2, .string a0_3, .int .i64 a0_4, .int .i64 a0_5] 45 (0, 0)) z1_3_ hb); have _ := A_ (below_step z1_2_ hb); have _ := A_ (hbox); have _ := A_ ((by rw [hg]; exact (below_size z1_2_) : w.heap.size ≤ gb119)); have _ := A_ ((by rw [hg]; exact (below_size z1_2_) : w.heap.size ≤ gb119)); have _ := A_ ((by rw [hg]; exact Nat.ne_of_lt (blk_lt (g := gb118) (o := .cells #[.string a0_0, .int .i8 a0_1, .string a0_2, .string a0_3, .int .i64 a0_4, .int .i64 a0_5] 45 (0, 0)) z1_3_) : gb118 ≠ gb119)); have _ := A_ ((by rw [hg]; exact Nat.ne_of_gt (blk_lt (g := gb118) (o := .cells #[.string a0_0, .int .i8 a0_1, .string a0_2, .string a0_3, .int .i64 a0_4, .int .i64 a0_5] 45 (0, 0)) z1_3_) : gb119 ≠ gb118)); clear BK118 HB; rename_i BK118 HB BK119 GW119 GE119 NB118_119 NB119_118; clear hb hbox hg; have hnb11 := NB118_119.out; have hnc11 := NB119_118.out; obtain ⟨hcz12_0, hcz12_1, hcz12_2, hcz12_3, hcz12_4, hcz12_5⟩ := bc6 BK118.out; obtain ⟨hfz12_0, hfz12_1, hfz12_2, hfz12_3, hfz12_4, hfz12_5⟩ := bf6 BK118.out; obtain ⟨hcz13_0, hcz13_1, hcz13_2, hcz13_3, hcz13_4, hcz13_5⟩ := bc6 BK119.out; obtain ⟨hfz13_0, hfz13_1, hfz13_2, hfz13_3, hfz13_4, hfz13_5⟩ := bf6 BK119.out))
       go_ret
       exact ⟨z1_4_, z1_5_⟩
      ·
       rw [if_neg c8] at H
       have c8b0 : (a0_5 == a1_5) = false := beq_eq_false_iff_ne.mpr c8
       have c8b1 : (a0_5 != a1_5) = true := bne_iff_ne.mpr c8
       obtain rfl := Option.some.inj H
       go_enter Try.func63, Try.ntmps63
       go_wp2_with (first | ((with_reducible refine gate_dst (N := 2) rfl ?_); refine box_event ?hg (N := 2) ?hd (cs := #[.string a0_0, .int .i8 a0_1, .string a0_2, .string a0_3, .int .i64 a0_4, .int .i64 a0_5]) (t := 45) ?hr ?_; (case hd => rfl); (case hg => rfl); (case hr => first | (go_simp; done) | (go_simp; rfl)); intro gb118 hg w14 hbox hb; have _ := A_ (below_step z1_1_ hb); have _ := A_ (hbox); have _ := A_ ((by rw [hg]; exact (below_size z1_1_) : w.heap.size ≤ gb118)); have _ := A_ ((by rw [hg]; exact (below_size z1_1_) : w.heap.size ≤ gb118)); clear HB; rename_i HB BK118 GW118 GE118; clear hb hbox hg) | ((with_reducible refine gate_dst (N := 3) rfl ?_); refine box_event ?hg (N := 3) ?hd (cs := #[.string a1_0, .int .i8 a1_1, .string a1_2, .string a1_3, .int .i64 a1_4, .int .i64 a1_5]) (t := 45) ?hr ?_; (case hd => rfl); (case hg => rfl); (case hr => first | (go_simp; done) | (go_simp; rfl)); intro gb119 hg w15 hbox hb; have _ := A_ (blk_below (g := gb118) (o := .cells #[.string a0_0, .int .i8 a0_1, .string a0_2, .string a0_3, .int .i64 a0_4, .int .i64 a0_5] 45 (0, 0)) z1_3_ hb); have _ := A_ (below_step z1_2_ hb); have _ := A_ (hbox); have _ := A_ ((by rw [hg]; exact (below_size z1_2_) : w.heap.size ≤ gb119)); have _ := A_ ((by rw [hg]; exact (below_size z1_2_) : w.heap.size ≤ gb119)); have _ := A_ ((by rw [hg]; exact Nat.ne_of_lt (blk_lt (g := gb118) (o := .cells #[.string a0_0, .int .i8 a0_1, .string a0_2, .string a0_3, .int .i64 a0_4, .int .i64 a0_5] 45 (0, 0)) z1_3_) : gb118 ≠ gb119)); have _ := A_ ((by rw [hg]; exact Nat.ne_of_gt (blk_lt (g := gb118) (o := .cells #[.string a0_0, .int .i8 a0_1, .string a0_2, .string a0_3, .int .i64 a0_4, .int .i64 a0_5] 45 (0, 0)) z1_3_) : gb119 ≠ gb118)); clear BK118 HB; rename_i BK118 HB BK119 GW119 GE119 NB118_119 NB119_118; clear hb hbox hg; have hnb16 := NB118_119.out; have hnc16 := NB119_118.out; obtain ⟨hcz17_0, hcz17_1, hcz17_2, hcz17_3, hcz17_4, hcz17_5⟩ := bc6 BK118.out; obtain ⟨hfz17_0, hfz17_1, hfz17_2, hfz17_3, hfz17_4, hfz17_5⟩ := bf6 BK118.out; obtain ⟨hcz18_0, hcz18_1, hcz18_2, hcz18_3, hcz18_4, hcz18_5⟩ := bc6 BK119.out; obtain ⟨hfz18_0, hfz18_1, hfz18_2, hfz18_3, hfz18_4, hfz18_5⟩ := bf6 BK119.out))
       go_ret
       exact ⟨z1_4_, z1_5_⟩
     ·
      rw [if_neg c7] at H
      have c7b0 : (a0_4 == a1_4) = false := beq_eq_false_iff_ne.mpr c7
      have c7b1 : (a0_4 != a1_4) = true := bne_iff_ne.mpr c7
      obtain rfl := Option.some.inj H
      go_enter Try.func63, Try.ntmps63
      go_wp2_with (first | ((with_reducible refine gate_dst (N := 2) rfl ?_); refine box_event ?hg (N := 2) ?hd (cs := #[.string a0_0, .int .i8 a0_1, .string a0_2, .string a0_3, .int .i64 a0_4, .int .i64 a0_5]) (t := 45) ?hr ?_; (case hd => rfl); (case hg => rfl); (case hr => first | (go_simp; done) | (go_simp; rfl)); intro gb118 hg w19 hbox hb; have _ := A_ (below_step z1_1_ hb); have _ := A_ (hbox); have _ := A_ ((by rw [hg]; exact (below_size z1_1_) : w.heap.size ≤ gb118)); have _ := A_ ((by rw [hg]; exact (below_size z1_1_) : w.heap.size ≤ gb118)); clear HB; rename_i HB BK118 GW118 GE118; clear hb hbox hg) | ((with_reducible refine gate_dst (N := 3) rfl ?_); refine box_event ?hg (N := 3) ?hd (cs := #[.string a1_0, .int .i8 a1_1, .string a1_2, .string a1_3, .int .i64 a1_4, .int .i64 a1_5]) (t := 45) ?hr ?_; (case hd => rfl); (case hg => rfl); (case hr => first | (go_simp; done) | (go_simp; rfl)); intro gb119 hg w20 hbox hb; have _ := A_ (blk_below (g := gb118) (o := .cells #[.string a0_0, .int .i8 a0_1, .string a0_2, .string a0_3, .int .i64 a0_4, .int .i64 a0_5] 45 (0, 0)) z1_3_ hb); have _ := A_ (below_step z1_2_ hb); have _ := A_ (hbox); have _ := A_ ((by rw [hg]; exact (below_size z1_2_) : w.heap.size ≤ gb119)); have _ := A_ ((by rw [hg]; exact (below_size z1_2_) : w.heap.size ≤ gb119)); have _ := A_ ((by rw [hg]; exact Nat.ne_of_lt (blk_lt (g := gb118) (o := .cells #[.string a0_0, .int .i8 a0_1, .string a0_2, .string a0_3, .int .i64 a0_4, .int .i64 a0_5] 45 (0, 0)) z1_3_) : gb118 ≠ gb119)); have _ := A_ ((by rw [hg]; exact Nat.ne_of_gt (blk_lt (g := gb118) (o := .cells #[.string a0_0, .int .i8 a0_1, .string a0_2, .string a0_3, .int .i64 a0_4, .int .i64 a0_5] 45 (0, 0)) z1_3_) : gb119 ≠ gb118)); clear BK118 HB; rename_i BK118 HB BK119 GW119 GE119 NB118_119 NB119_118; clear hb hbox hg; have hnb21 := NB118_119.out; have hnc21 := NB119_118.out; obtain ⟨hcz22_0, hcz22_1, hcz22_2, hcz22_3, hcz22_4, hcz22_5⟩ := bc6 BK118.out; obtain ⟨hfz22_0, hfz22_1, hfz22_2, hfz22_3, hfz22_4, hfz22_5⟩ := bf6 BK118.out; obtain ⟨hcz23_0, hcz23_1, hcz23_2, hcz23_3, hcz23_4, hcz23_5⟩ := bc6 BK119.out; obtain ⟨hfz23_0, hfz23_1, hfz23_2, hfz23_3, hfz23_4, hfz23_5⟩ := bf6 BK119.out))
      go_ret
      exact ⟨z1_4_, z1_5_⟩
    ·
     rw [if_neg c6] at H
     have c6b0 : (a0_3.toList == a1_3.toList) = false := beq_eq_false_iff_ne.mpr c6
     have c6b1 : (a0_3.toList != a1_3.toList) = true := bne_iff_ne.mpr c6
     obtain rfl := Option.some.inj H
     go_enter Try.func63, Try.ntmps63
     go_wp2_with (first | ((with_reducible refine gate_dst (N := 2) rfl ?_); refine box_event ?hg (N := 2) ?hd (cs := #[.string a0_0, .int .i8 a0_1, .string a0_2, .string a0_3, .int .i64 a0_4, .int .i64 a0_5]) (t := 45) ?hr ?_; (case hd => rfl); (case hg => rfl); (case hr => first | (go_simp; done) | (go_simp; rfl)); intro gb118 hg w24 hbox hb; have _ := A_ (below_step z1_1_ hb); have _ := A_ (hbox); have _ := A_ ((by rw [hg]; exact (below_size z1_1_) : w.heap.size ≤ gb118)); have _ := A_ ((by rw [hg]; exact (below_size z1_1_) : w.heap.size ≤ gb118)); clear HB; rename_i HB BK118 GW118 GE118; clear hb hbox hg) | ((with_reducible refine gate_dst (N := 3) rfl ?_); refine box_event ?hg (N := 3) ?hd (cs := #[.string a1_0, .int .i8 a1_1, .string a1_2, .string a1_3, .int .i64 a1_4, .int .i64 a1_5]) (t := 45) ?hr ?_; (case hd => rfl); (case hg => rfl); (case hr => first | (go_simp; done) | (go_simp; rfl)); intro gb119 hg w25 hbox hb; have _ := A_ (blk_below (g := gb118) (o := .cells #[.string a0_0, .int .i8 a0_1, .string a0_2, .string a0_3, .int .i64 a0_4, .int .i64 a0_5] 45 (0, 0)) z1_3_ hb); have _ := A_ (below_step z1_2_ hb); have _ := A_ (hbox); have _ := A_ ((by rw [hg]; exact (below_size z1_2_) : w.heap.size ≤ gb119)); have _ := A_ ((by rw [hg]; exact (below_size z1_2_) : w.heap.size ≤ gb119)); have _ := A_ ((by rw [hg]; exact Nat.ne_of_lt (blk_lt (g := gb118) (o := .cells #[.string a0_0, .int .i8 a0_1, .string a0_2, .string a0_3, .int .i64 a0_4, .int .i64 a0_5] 45 (0, 0)) z1_3_) : gb118 ≠ gb119)); have _ := A_ ((by rw [hg]; exact Nat.ne_of_gt (blk_lt (g := gb118) (o := .cells #[.string a0_0, .int .i8 a0_1, .string a0_2, .string a0_3, .int .i64 a0_4, .int .i64 a0_5] 45 (0, 0)) z1_3_) : gb119 ≠ gb118)); clear BK118 HB; rename_i BK118 HB BK119 GW119 GE119 NB118_119 NB119_118; clear hb hbox hg; have hnb26 := NB118_119.out; have hnc26 := NB119_118.out; obtain ⟨hcz27_0, hcz27_1, hcz27_2, hcz27_3, hcz27_4, hcz27_5⟩ := bc6 BK118.out; obtain ⟨hfz27_0, hfz27_1, hfz27_2, hfz27_3, hfz27_4, hfz27_5⟩ := bf6 BK118.out; obtain ⟨hcz28_0, hcz28_1, hcz28_2, hcz28_3, hcz28_4, hcz28_5⟩ := bc6 BK119.out; obtain ⟨hfz28_0, hfz28_1, hfz28_2, hfz28_3, hfz28_4, hfz28_5⟩ := bf6 BK119.out))
     go_ret
     exact ⟨z1_4_, z1_5_⟩
   ·
    rw [if_neg c5] at H
    have c5b0 : (a0_2.toList == a1_2.toList) = false := beq_eq_false_iff_ne.mpr c5
    have c5b1 : (a0_2.toList != a1_2.toList) = true := bne_iff_ne.mpr c5
    obtain rfl := Option.some.inj H
    go_enter Try.func63, Try.ntmps63
    go_wp2_with (first | ((with_reducible refine gate_dst (N := 2) rfl ?_); refine box_event ?hg (N := 2) ?hd (cs := #[.string a0_0, .int .i8 a0_1, .string a0_2, .string a0_3, .int .i64 a0_4, .int .i64 a0_5]) (t := 45) ?hr ?_; (case hd => rfl); (case hg => rfl); (case hr => first | (go_simp; done) | (go_simp; rfl)); intro gb118 hg w29 hbox hb; have _ := A_ (below_step z1_1_ hb); have _ := A_ (hbox); have _ := A_ ((by rw [hg]; exact (below_size z1_1_) : w.heap.size ≤ gb118)); have _ := A_ ((by rw [hg]; exact (below_size z1_1_) : w.heap.size ≤ gb118)); clear HB; rename_i HB BK118 GW118 GE118; clear hb hbox hg) | ((with_reducible refine gate_dst (N := 3) rfl ?_); refine box_event ?hg (N := 3) ?hd (cs := #[.string a1_0, .int .i8 a1_1, .string a1_2, .string a1_3, .int .i64 a1_4, .int .i64 a1_5]) (t := 45) ?hr ?_; (case hd => rfl); (case hg => rfl); (case hr => first | (go_simp; done) | (go_simp; rfl)); intro gb119 hg w30 hbox hb; have _ := A_ (blk_below (g := gb118) (o := .cells #[.string a0_0, .int .i8 a0_1, .string a0_2, .string a0_3, .int .i64 a0_4, .int .i64 a0_5] 45 (0, 0)) z1_3_ hb); have _ := A_ (below_step z1_2_ hb); have _ := A_ (hbox); have _ := A_ ((by rw [hg]; exact (below_size z1_2_) : w.heap.size ≤ gb119)); have _ := A_ ((by rw [hg]; exact (below_size z1_2_) : w.heap.size ≤ gb119)); have _ := A_ ((by rw [hg]; exact Nat.ne_of_lt (blk_lt (g := gb118) (o := .cells #[.string a0_0, .int .i8 a0_1, .string a0_2, .string a0_3, .int .i64 a0_4, .int .i64 a0_5] 45 (0, 0)) z1_3_) : gb118 ≠ gb119)); have _ := A_ ((by rw [hg]; exact Nat.ne_of_gt (blk_lt (g := gb118) (o := .cells #[.string a0_0, .int .i8 a0_1, .string a0_2, .string a0_3, .int .i64 a0_4, .int .i64 a0_5] 45 (0, 0)) z1_3_) : gb119 ≠ gb118)); clear BK118 HB; rename_i BK118 HB BK119 GW119 GE119 NB118_119 NB119_118; clear hb hbox hg; have hnb31 := NB118_119.out; have hnc31 := NB119_118.out; obtain ⟨hcz32_0, hcz32_1, hcz32_2, hcz32_3, hcz32_4, hcz32_5⟩ := bc6 BK118.out; obtain ⟨hfz32_0, hfz32_1, hfz32_2, hfz32_3, hfz32_4, hfz32_5⟩ := bf6 BK118.out; obtain ⟨hcz33_0, hcz33_1, hcz33_2, hcz33_3, hcz33_4, hcz33_5⟩ := bc6 BK119.out; obtain ⟨hfz33_0, hfz33_1, hfz33_2, hfz33_3, hfz33_4, hfz33_5⟩ := bf6 BK119.out))
    go_ret
    exact ⟨z1_4_, z1_5_⟩
  ·
   rw [if_neg c4] at H
   have c4b0 : (a0_1 == a1_1) = false := beq_eq_false_iff_ne.mpr c4
   have c4b1 : (a0_1 != a1_1) = true := bne_iff_ne.mpr c4
   obtain rfl := Option.some.inj H
   go_enter Try.func63, Try.ntmps63
   go_wp2_with (first | ((with_reducible refine gate_dst (N := 2) rfl ?_); refine box_event ?hg (N := 2) ?hd (cs := #[.string a0_0, .int .i8 a0_1, .string a0_2, .string a0_3, .int .i64 a0_4, .int .i64 a0_5]) (t := 45) ?hr ?_; (case hd => rfl); (case hg => rfl); (case hr => first | (go_simp; done) | (go_simp; rfl)); intro gb118 hg w34 hbox hb; have _ := A_ (below_step z1_1_ hb); have _ := A_ (hbox); have _ := A_ ((by rw [hg]; exact (below_size z1_1_) : w.heap.size ≤ gb118)); have _ := A_ ((by rw [hg]; exact (below_size z1_1_) : w.heap.size ≤ gb118)); clear HB; rename_i HB BK118 GW118 GE118; clear hb hbox hg) | ((with_reducible refine gate_dst (N := 3) rfl ?_); refine box_event ?hg (N := 3) ?hd (cs := #[.string a1_0, .int .i8 a1_1, .string a1_2, .string a1_3, .int .i64 a1_4, .int .i64 a1_5]) (t := 45) ?hr ?_; (case hd => rfl); (case hg => rfl); (case hr => first | (go_simp; done) | (go_simp; rfl)); intro gb119 hg w35 hbox hb; have _ := A_ (blk_below (g := gb118) (o := .cells #[.string a0_0, .int .i8 a0_1, .string a0_2, .string a0_3, .int .i64 a0_4, .int .i64 a0_5] 45 (0, 0)) z1_3_ hb); have _ := A_ (below_step z1_2_ hb); have _ := A_ (hbox); have _ := A_ ((by rw [hg]; exact (below_size z1_2_) : w.heap.size ≤ gb119)); have _ := A_ ((by rw [hg]; exact (below_size z1_2_) : w.heap.size ≤ gb119)); have _ := A_ ((by rw [hg]; exact Nat.ne_of_lt (blk_lt (g := gb118) (o := .cells #[.string a0_0, .int .i8 a0_1, .string a0_2, .string a0_3, .int .i64 a0_4, .int .i64 a0_5] 45 (0, 0)) z1_3_) : gb118 ≠ gb119)); have _ := A_ ((by rw [hg]; exact Nat.ne_of_gt (blk_lt (g := gb118) (o := .cells #[.string a0_0, .int .i8 a0_1, .string a0_2, .string a0_3, .int .i64 a0_4, .int .i64 a0_5] 45 (0, 0)) z1_3_) : gb119 ≠ gb118)); clear BK118 HB; rename_i BK118 HB BK119 GW119 GE119 NB118_119 NB119_118; clear hb hbox hg; have hnb36 := NB118_119.out; have hnc36 := NB119_118.out; obtain ⟨hcz37_0, hcz37_1, hcz37_2, hcz37_3, hcz37_4, hcz37_5⟩ := bc6 BK118.out; obtain ⟨hfz37_0, hfz37_1, hfz37_2, hfz37_3, hfz37_4, hfz37_5⟩ := bf6 BK118.out; obtain ⟨hcz38_0, hcz38_1, hcz38_2, hcz38_3, hcz38_4, hcz38_5⟩ := bc6 BK119.out; obtain ⟨hfz38_0, hfz38_1, hfz38_2, hfz38_3, hfz38_4, hfz38_5⟩ := bf6 BK119.out))
   go_ret
   exact ⟨z1_4_, z1_5_⟩
 ·
  rw [if_neg c3] at H
  have c3b0 : (a0_0.toList == a1_0.toList) = false := beq_eq_false_iff_ne.mpr c3
  have c3b1 : (a0_0.toList != a1_0.toList) = true := bne_iff_ne.mpr c3
  obtain rfl := Option.some.inj H
  go_enter Try.func63, Try.ntmps63
  go_wp2_with (first | ((with_reducible refine gate_dst (N := 2) rfl ?_); refine box_event ?hg (N := 2) ?hd (cs := #[.string a0_0, .int .i8 a0_1, .string a0_2, .string a0_3, .int .i64 a0_4, .int .i64 a0_5]) (t := 45) ?hr ?_; (case hd => rfl); (case hg => rfl); (case hr => first | (go_simp; done) | (go_simp; rfl)); intro gb118 hg w39 hbox hb; have _ := A_ (below_step z1_1_ hb); have _ := A_ (hbox); have _ := A_ ((by rw [hg]; exact (below_size z1_1_) : w.heap.size ≤ gb118)); have _ := A_ ((by rw [hg]; exact (below_size z1_1_) : w.heap.size ≤ gb118)); clear HB; rename_i HB BK118 GW118 GE118; clear hb hbox hg) | ((with_reducible refine gate_dst (N := 3) rfl ?_); refine box_event ?hg (N := 3) ?hd (cs := #[.string a1_0, .int .i8 a1_1, .string a1_2, .string a1_3, .int .i64 a1_4, .int .i64 a1_5]) (t := 45) ?hr ?_; (case hd => rfl); (case hg => rfl); (case hr => first | (go_simp; done) | (go_simp; rfl)); intro gb119 hg w40 hbox hb; have _ := A_ (blk_below (g := gb118) (o := .cells #[.string a0_0, .int .i8 a0_1, .string a0_2, .string a0_3, .int .i64 a0_4, .int .i64 a0_5] 45 (0, 0)) z1_3_ hb); have _ := A_ (below_step z1_2_ hb); have _ := A_ (hbox); have _ := A_ ((by rw [hg]; exact (below_size z1_2_) : w.heap.size ≤ gb119)); have _ := A_ ((by rw [hg]; exact (below_size z1_2_) : w.heap.size ≤ gb119)); have _ := A_ ((by rw [hg]; exact Nat.ne_of_lt (blk_lt (g := gb118) (o := .cells #[.string a0_0, .int .i8 a0_1, .string a0_2, .string a0_3, .int .i64 a0_4, .int .i64 a0_5] 45 (0, 0)) z1_3_) : gb118 ≠ gb119)); have _ := A_ ((by rw [hg]; exact Nat.ne_of_gt (blk_lt (g := gb118) (o := .cells #[.string a0_0, .int .i8 a0_1, .string a0_2, .string a0_3, .int .i64 a0_4, .int .i64 a0_5] 45 (0, 0)) z1_3_) : gb119 ≠ gb118)); clear BK118 HB; rename_i BK118 HB BK119 GW119 GE119 NB118_119 NB119_118; clear hb hbox hg; have hnb41 := NB118_119.out; have hnc41 := NB119_118.out; obtain ⟨hcz42_0, hcz42_1, hcz42_2, hcz42_3, hcz42_4, hcz42_5⟩ := bc6 BK118.out; obtain ⟨hfz42_0, hfz42_1, hfz42_2, hfz42_3, hfz42_4, hfz42_5⟩ := bf6 BK118.out; obtain ⟨hcz43_0, hcz43_1, hcz43_2, hcz43_3, hcz43_4, hcz43_5⟩ := bc6 BK119.out; obtain ⟨hfz43_0, hfz43_1, hfz43_2, hfz43_3, hfz43_4, hfz43_5⟩ := bf6 BK119.out))
  go_ret
  exact ⟨z1_4_, z1_5_⟩
/-! ### laws_eqLineS: function 18 -/
def laws_eqLineS.l0 : Nat → List (S45) → List (S45) → Int → Option (Bool)
 | 0, _, _, _ => none
 | k + 1, x0, x1, x5 => if x5 < (x0.length : Int) then (if 0 ≤ x5 then (if x5 < (x1.length : Int) then ((laws_eqLine.f ((rd_T45 x0 x5).f0) ((rd_T45 x0 x5).f1) ((rd_T45 x0 x5).f2) ((rd_T45 x0 x5).f3) ((rd_T45 x0 x5).f4) ((rd_T45 x0 x5).f5) ((rd_T45 x1 x5).f0) ((rd_T45 x1 x5).f1) ((rd_T45 x1 x5).f2) ((rd_T45 x1 x5).f3) ((rd_T45 x1 x5).f4) ((rd_T45 x1 x5).f5)).bind fun t122 => (if t122 = true then (laws_eqLineS.l0 k x0 x1 (wrap64 (x5 + 1))) else (some false))) else (none)) else (none)) else (some true)
def laws_eqLineS.f (k : Nat) (l0 : List (S45)) (l1 : List (S45)) : Option (Bool) := if (l0.length : Int) = (l1.length : Int) then (laws_eqLineS.l0 k l0 l1 0) else (some false)
theorem laws_eqLineS.mono_l : ∀ k, (∀ y0 y1 y2, LeO (laws_eqLineS.l0 k y0 y1 y2) (laws_eqLineS.l0 (k + 1) y0 y1 y2))
 | 0 => fun _ _ _ r h => by simp [laws_eqLineS.l0] at h
 | k + 1 => by
  have ih0 := laws_eqLineS.mono_l k
  ·
   intro y0 y1 y2
   unfold laws_eqLineS.l0
   repeat' first
   | (with_reducible exact ih0 _ _ _)
   | (with_reducible exact LeO.refl _)
   | (with_reducible exact LeO.none _)
   | (with_reducible refine LeO.ite ?_ ?_)
   | (with_reducible refine LeO.bind ?_ (fun _ => ?_))
   | exact ih0 _ _ _
   | exact LeO.none _
   | refine LeO.ite ?_ ?_
   | refine LeO.bind ?_ (fun _ => ?_)
theorem laws_eqLineS.mono : ∀ a0 a1 k, LeO (laws_eqLineS.f k a0 a1) (laws_eqLineS.f (k + 1) a0 a1) := by
 intro a0 a1 k
 have ih0 := laws_eqLineS.mono_l k
 unfold laws_eqLineS.f
 repeat' first
   | (with_reducible exact ih0 _ _ _)
   | (with_reducible exact LeO.refl _)
   | (with_reducible exact LeO.none _)
   | (with_reducible refine LeO.ite ?_ ?_)
   | (with_reducible refine LeO.bind ?_ (fun _ => ?_))
   | exact ih0 _ _ _
   | exact LeO.none _
   | refine LeO.ite ?_ ?_
   | refine LeO.bind ?_ (fun _ => ?_)
def laws_eqLineS.T6 : Bool × List (List Nat × List Nat) := (true, [([], []), ([], []), ([0, 1], [0, 1]), ([2], [2]), ([], []), ([], []), ([4, 5], [4, 5]), ([6], [6]), ([3, 7], [3, 7]), ([8], [8])])
def laws_eqLineS.B6 : List Nat := [0, 0, 3, 7, 0, 0, 48, 112, 255, 511]
theorem laws_eqLineS.tab6 : rtab .any (opsOf Try.f18 6) = laws_eqLineS.T6 := by kernel_rfl
theorem laws_eqLineS.bits6 : waitsOk laws_eqLineS.T6.2 laws_eqLineS.B6 = true := by kernel_rfl
set_option maxHeartbeats 8000000 in
set_option maxRecDepth 100000 in
theorem laws_eqLineS.calls (k : Nat) (A0 : Option Addr) (c0 : Nat) (l0 : List (S45)) (A1 : Option Addr) (c1 : Nat) (l1 : List (S45)) (r : Bool) (w : World) (hr0 : Kd.C k45 w A0 l0.length l0) (hc0 : l0.length ≤ c0) (hr1 : Kd.C k45 w A1 l1.length l1) (hc1 : l1.length ≤ c1) (h : laws_eqLineS.f k l0 l1 = some r) :
  Calls Try.prog 18 #[.slice A0 l0.length c0, .slice A1 l1.length c1] w fun e w' => e = .returned (.bool r) ∧ Below w.heap.size w w' := by
 have hu45 := Try.underlying45
 have HR0 := A_ hr0
 have HC0 := A_ hc0
 clear hr0 hc0
 have HR1 := A_ hr1
 have HC1 := A_ hc1
 clear hr1 hc1
 have HB := A_ (Below.refl w.heap.size w)
 have H : (if (l0.length : Int) = (l1.length : Int) then (laws_eqLineS.l0 k l0 l1 0) else (some false)) = some r := h
 clear h
 by_cases c3 : (l0.length : Int) = (l1.length : Int)
 ·
  rw [if_pos c3] at H
  have c3b0 := beq_iff_eq.mpr c3
  have c3b1 := bne_eq_false_iff_eq.mpr c3
  have c3b2 : (l0.length == l1.length) = true := by first | simpa using c3 | (simp at c3 ⊢; omega)
  clear c3
  have H' := A_ H
  clear H
  go_enter Try.func18, Try.ntmps18
  go_wp2
  go_loopg [5] k (fun kq v5 w' => ∃ (x5_1 : Int), v5 = .int .i64 x5_1 ∧ Aside0 (laws_eqLineS.l0 kq l0 l1 x5_1 = some r) ∧ Aside0 (kq ≤ k) ∧ Aside0 (Below w.heap.size w w'))
  case atStart => exact ⟨(0), z1_6_, H', ⟨Nat.le_refl _⟩, ⟨z1_1_⟩⟩
  case round =>
   clear H'
   try clear c1
   try clear p2
   try clear c3
   try clear c3b0
   try clear c3b1
   try clear c3b2
   obtain ⟨x5_1, rfl, HA, HK1, HB⟩ := hrel
   cases gk with
   | zero => exact absurd HA.out (by simp [laws_eqLineS.l0])
   | succ k1 =>
    have H := HA.out
    clear HA
    simp only [laws_eqLineS.l0] at H
    by_cases c4 : x5_1 < (l0.length : Int)
    ·
     rw [if_pos c4] at H
     have c4b0 := decide_eq_true c4
     clear c4
     by_cases c5 : 0 ≤ x5_1
     ·
      rw [if_pos c5] at H
      have c5b0 := decide_eq_true c5
      clear c5
      by_cases c6 : x5_1 < (l1.length : Int)
      ·
       rw [if_pos c6] at H
       have c6b0 := decide_eq_true c6
       clear c6
       replace H := Option.bind_eq_some_iff.mp H
       obtain ⟨t122, A70, H⟩ := H
       try dsimp only at H
       have A7 := A_ A70
       clear A70
       by_cases c8 : t122 = true
       ·
        subst c8
        have H1 := H; rw [if_pos rfl] at H1
        clear H
        have H := H1
        clear H1
        have H' := A_ H
        clear H
        try go_wp2
        have _ := A_ (below_drew1 HB.out)
        clear HB
        rename_i HB
        have p120 : 0 ≤ (x5_1 : Int) := of_decide_eq_true (by assumption)
        have q120 : x5_1 < (l0.length : Int) := of_decide_eq_true (by assumption)
        obtain ⟨ad120, e120, hx120_0, hx120_1, hx120_2, hx120_3, hx120_4, hx120_5⟩ := at_T45 HR0.out x5_1 p120 q120
        have hw120_5 := hx120_5
        have hw120_4 := hx120_4
        have hw120_3 := hx120_3
        have hw120_2 := hx120_2
        have hw120_1 := hx120_1
        have hw120_0 := hx120_0
        cases e120
        replace hx120_0 := cel HB.out hx120_0
        replace hx120_1 := cel HB.out hx120_1
        replace hx120_2 := cel HB.out hx120_2
        replace hx120_3 := cel HB.out hx120_3
        replace hx120_4 := cel HB.out hx120_4
        replace hx120_5 := cel HB.out hx120_5
        replace p120 := eq_true p120
        replace q120 := eq_true q120
        have p121 : 0 ≤ (x5_1 : Int) := of_decide_eq_true (by assumption)
        have q121 : x5_1 < (l1.length : Int) := of_decide_eq_true (by assumption)
        obtain ⟨ad121, e121, hx121_0, hx121_1, hx121_2, hx121_3, hx121_4, hx121_5⟩ := at_T45 HR1.out x5_1 p121 q121
        have hw121_5 := hx121_5
        have hw121_4 := hx121_4
        have hw121_3 := hx121_3
        have hw121_2 := hx121_2
        have hw121_1 := hx121_1
        have hw121_0 := hx121_0
        cases e121
        replace hx121_0 := cel HB.out hx121_0
        replace hx121_1 := cel HB.out hx121_1
        replace hx121_2 := cel HB.out hx121_2
        replace hx121_3 := cel HB.out hx121_3
        replace hx121_4 := cel HB.out hx121_4
        replace hx121_5 := cel HB.out hx121_5
        replace p121 := eq_true p121
        replace q121 := eq_true q121
        refine start_ (n := 10) (S := fun w' => w'.cell? (ad120.add ((x5_1).toNat * 6)) = some (.string ((rd_T45 l0 x5_1).f0)) ∧ w'.cell? ⟨(ad120.add ((x5_1).toNat * 6)).block, (ad120.add ((x5_1).toNat * 6)).off + 1, none⟩ = some (.int .i8 ((rd_T45 l0 x5_1).f1)) ∧ w'.cell? ⟨(ad120.add ((x5_1).toNat * 6)).block, (ad120.add ((x5_1).toNat * 6)).off + 2, none⟩ = some (.string ((rd_T45 l0 x5_1).f2)) ∧ w'.cell? ⟨(ad120.add ((x5_1).toNat * 6)).block, (ad120.add ((x5_1).toNat * 6)).off + 3, none⟩ = some (.string ((rd_T45 l0 x5_1).f3)) ∧ w'.cell? ⟨(ad120.add ((x5_1).toNat * 6)).block, (ad120.add ((x5_1).toNat * 6)).off + 4, none⟩ = some (.int .i64 ((rd_T45 l0 x5_1).f4)) ∧ w'.cell? ⟨(ad120.add ((x5_1).toNat * 6)).block, (ad120.add ((x5_1).toNat * 6)).off + 5, none⟩ = some (.int .i64 ((rd_T45 l0 x5_1).f5)) ∧ w'.cell? (ad121.add ((x5_1).toNat * 6)) = some (.string ((rd_T45 l1 x5_1).f0)) ∧ w'.cell? ⟨(ad121.add ((x5_1).toNat * 6)).block, (ad121.add ((x5_1).toNat * 6)).off + 1, none⟩ = some (.int .i8 ((rd_T45 l1 x5_1).f1)) ∧ w'.cell? ⟨(ad121.add ((x5_1).toNat * 6)).block, (ad121.add ((x5_1).toNat * 6)).off + 2, none⟩ = some (.string ((rd_T45 l1 x5_1).f2)) ∧ w'.cell? ⟨(ad121.add ((x5_1).toNat * 6)).block, (ad121.add ((x5_1).toNat * 6)).off + 3, none⟩ = some (.string ((rd_T45 l1 x5_1).f3)) ∧ w'.cell? ⟨(ad121.add ((x5_1).toNat * 6)).block, (ad121.add ((x5_1).toNat * 6)).off + 4, none⟩ = some (.int .i64 ((rd_T45 l1 x5_1).f4)) ∧ w'.cell? ⟨(ad121.add ((x5_1).toNat * 6)).block, (ad121.add ((x5_1).toNat * 6)).off + 5, none⟩ = some (.int .i64 ((rd_T45 l1 x5_1).f5))) (ds := []) #[false, false, false, false, false, false, false, false, false, false] (by kernel_rfl) rfl rfl ⟨(cel HB.out hw120_0), (cel HB.out hw120_1), (cel HB.out hw120_2), (cel HB.out hw120_3), (cel HB.out hw120_4), (cel HB.out hw120_5), (cel HB.out hw121_0), (cel HB.out hw121_1), (cel HB.out hw121_2), (cel HB.out hw121_3), (cel HB.out hw121_4), (cel HB.out hw121_5)⟩ (fun hHeld => ?_); refine with_tabW laws_eqLineS.tab6 laws_eqLineS.bits6 (fun HT_ HW_ => ?_)
        generalize wr.drew = w9 at HB hx120_0 hx120_1 hx120_2 hx120_3 hx120_4 hx120_5 hx121_0 hx121_1 hx121_2 hx121_3 hx121_4 hx121_5 hHeld ⊢
        refine pure_ (i := 0) (N := some 17) (v := ?_) (a' := ?_) #[true, false, false, false, false, false, false, false, false, false] rfl rfl (any_of HT_.out (by kernel_rfl)) (fun _ _ _ h => h) (Or.inl ⟨by rfl, ?_⟩) ?_ ?_
        rotate_left
        ·
         intro w'
         go_simp
         with_reducible rfl
        rotate_left
        ·
         simp only [Act.put, sA_, sB_, sC_, i64_w, i32_w]
         rfl
        refine pure_ (i := 1) (N := some 18) (v := ?_) (a' := ?_) #[true, true, false, false, false, false, false, false, false, false] rfl rfl (any_of HT_.out (by kernel_rfl)) (fun _ _ _ h => h) (Or.inl ⟨by rfl, ?_⟩) ?_ ?_
        rotate_left
        ·
         intro w'
         go_simp
         with_reducible rfl
        rotate_left
        ·
         simp only [Act.put, sA_, sB_, sC_, i64_w, i32_w]
         rfl
        refine pure_ (i := 2) (N := some 19) (v := ?_) (a' := ?_) #[true, true, true, false, false, false, false, false, false, false] rfl rfl (any_of HT_.out (by kernel_rfl)) (fun _ _ _ h => h) (Or.inl ⟨by rfl, ?_⟩) ?_ ?_
        rotate_left
        ·
         intro w'
         go_simp
         with_reducible rfl
        rotate_left
        ·
         simp only [Act.put, sA_, sB_, sC_, i64_w, i32_w]
         rfl
        refine pure_ (i := 4) (N := some 21) (v := ?_) (a' := ?_) #[true, true, true, false, true, false, false, false, false, false] rfl rfl (any_of HT_.out (by kernel_rfl)) (fun _ _ _ h => h) (Or.inl ⟨by rfl, ?_⟩) ?_ ?_
        rotate_left
        ·
         intro w'
         go_simp
         with_reducible rfl
        rotate_left
        ·
         simp only [Act.put, sA_, sB_, sC_, i64_w, i32_w]
         rfl
        refine pure_ (i := 5) (N := some 22) (v := ?_) (a' := ?_) #[true, true, true, false, true, true, false, false, false, false] rfl rfl (any_of HT_.out (by kernel_rfl)) (fun _ _ _ h => h) (Or.inl ⟨by rfl, ?_⟩) ?_ ?_
        rotate_left
        ·
         intro w'
         go_simp
         with_reducible rfl
        rotate_left
        ·
         simp only [Act.put, sA_, sB_, sC_, i64_w, i32_w]
         rfl
        refine pure_ (i := 6) (N := some 23) (v := ?_) (a' := ?_) #[true, true, true, false, true, true, true, false, false, false] rfl rfl (any_of HT_.out (by kernel_rfl)) (fun _ _ _ h => h) (Or.inl ⟨by rfl, ?_⟩) ?_ ?_
        rotate_left
        ·
         intro w'
         go_simp
         with_reducible rfl
        rotate_left
        ·
         simp only [Act.put, sA_, sB_, sC_, i64_w, i32_w]
         rfl
        refine take_ (i := 3) (N := some 20) (v := ?_) (a' := ?_) #[true, true, true, true, true, true, true, false, false, false] rfl rfl (take_ofW HT_.out HW_.out (by kernel_rfl)) (fun _ _ _ h => h) (Or.inl ⟨by rfl, ?_⟩) hHeld ?_ ?_
        rotate_left
        ·
         rintro w' ⟨s0, s1, s2, s3, s4, s5, s6, s7, s8, s9, s10, s11⟩
         go_simp
         with_reducible rfl
        rotate_left
        ·
         simp only [Act.put, sA_, sB_, sC_, i64_w, i32_w]
         rfl
        refine take_ (i := 7) (N := some 24) (v := ?_) (a' := ?_) #[true, true, true, true, true, true, true, true, false, false] rfl rfl (take_ofW HT_.out HW_.out (by kernel_rfl)) (fun _ _ _ h => h) (Or.inl ⟨by rfl, ?_⟩) hHeld ?_ ?_
        rotate_left
        ·
         rintro w' ⟨s0, s1, s2, s3, s4, s5, s6, s7, s8, s9, s10, s11⟩
         go_simp
         with_reducible rfl
        rotate_left
        ·
         simp only [Act.put, sA_, sB_, sC_, i64_w, i32_w]
         rfl
        refine one_ (i := 8) (N := some 25) #[true, true, true, true, true, true, true, true, true, false] rfl rfl (one_of HT_.out (by kernel_rfl)) (by decide) (fun K hK => ?_)
        refine goes_ Try.func63 (by kernel_rfl) rfl #[.agg #[.string ((rd_T45 l0 x5_1).f0), .int .i8 ((rd_T45 l0 x5_1).f1), .string ((rd_T45 l0 x5_1).f2), .string ((rd_T45 l0 x5_1).f3), .int .i64 ((rd_T45 l0 x5_1).f4), .int .i64 ((rd_T45 l0 x5_1).f5)], .agg #[.string ((rd_T45 l1 x5_1).f0), .int .i8 ((rd_T45 l1 x5_1).f1), .string ((rd_T45 l1 x5_1).f2), .string ((rd_T45 l1 x5_1).f3), .int .i64 ((rd_T45 l1 x5_1).f4), .int .i64 ((rd_T45 l1 x5_1).f5)]] (by rfl) rfl rfl z1_8_ ?_
        with_reducible refine (laws_eqLine.calls ((rd_T45 l0 x5_1).f0) ((rd_T45 l0 x5_1).f1) ((rd_T45 l0 x5_1).f2) ((rd_T45 l0 x5_1).f3) ((rd_T45 l0 x5_1).f4) ((rd_T45 l0 x5_1).f5) ((rd_T45 l1 x5_1).f0) ((rd_T45 l1 x5_1).f1) ((rd_T45 l1 x5_1).f2) ((rd_T45 l1 x5_1).f3) ((rd_T45 l1 x5_1).f4) ((rd_T45 l1 x5_1).f5) true _ A7.out).mono ?_
        rintro e w10 ⟨rfl, hb⟩
        refine ⟨_, rfl, ?_⟩
        have _ := A_ (below_step z1_1_ hb)
        clear HB
        rename_i HB
        (try clear hb)
        (try clear hb2)
        (try clear hk)
        (try clear hi)
        refine hK.out _ _ ⟨(cel HB.out hw120_0), (cel HB.out hw120_1), (cel HB.out hw120_2), (cel HB.out hw120_3), (cel HB.out hw120_4), (cel HB.out hw120_5), (cel HB.out hw121_0), (cel HB.out hw121_1), (cel HB.out hw121_2), (cel HB.out hw121_3), (cel HB.out hw121_4), (cel HB.out hw121_5)⟩ (fun hHeld => ?_)
        clear hK K
        refine norm_ (a' := ?_) ?_ ?_
        rotate_left
        ·
         show Act.put _ (some 25) _ = _
         simp only [Act.put, sA_, sB_, sC_, i64_w, i32_w]
         rfl
        refine pure_ (i := 9) (N := some 26) (v := ?_) (a' := ?_) #[true, true, true, true, true, true, true, true, true, true] rfl rfl (any_of HT_.out (by kernel_rfl)) (fun _ _ _ h => h) (Or.inl ⟨by rfl, ?_⟩) ?_ ?_
        rotate_left
        ·
         intro w'
         go_simp
         with_reducible rfl
        rotate_left
        ·
         simp only [Act.put, sA_, sB_, sC_, i64_w, i32_w]
         rfl
        refine done_ (done_of HT_.out (by kernel_rfl)) ?_
        try go_wp2
        go_roundg k1
        case measure => have := HK1.out; omega
        case rel => exact ⟨(wrap64 (x5_1 + 1)), z1_6_, H', ⟨(by have := HK1.out; omega)⟩, ⟨z1_1_⟩⟩
       ·
        replace c8 := Bool.eq_false_iff.mpr c8
        subst c8
        have H1 := H; rw [if_neg (show ¬ (false = true) by decide)] at H1
        clear H
        have H := H1
        clear H1
        obtain rfl := Option.some.inj H
        try go_wp2
        have _ := A_ (below_drew1 HB.out)
        clear HB
        rename_i HB
        have p120 : 0 ≤ (x5_1 : Int) := of_decide_eq_true (by assumption)
        have q120 : x5_1 < (l0.length : Int) := of_decide_eq_true (by assumption)
        obtain ⟨ad120, e120, hx120_0, hx120_1, hx120_2, hx120_3, hx120_4, hx120_5⟩ := at_T45 HR0.out x5_1 p120 q120
        have hw120_5 := hx120_5
        have hw120_4 := hx120_4
        have hw120_3 := hx120_3
        have hw120_2 := hx120_2
        have hw120_1 := hx120_1
        have hw120_0 := hx120_0
        cases e120
        replace hx120_0 := cel HB.out hx120_0
        replace hx120_1 := cel HB.out hx120_1
        replace hx120_2 := cel HB.out hx120_2
        replace hx120_3 := cel HB.out hx120_3
        replace hx120_4 := cel HB.out hx120_4
        replace hx120_5 := cel HB.out hx120_5
        replace p120 := eq_true p120
        replace q120 := eq_true q120
        have p121 : 0 ≤ (x5_1 : Int) := of_decide_eq_true (by assumption)
        have q121 : x5_1 < (l1.length : Int) := of_decide_eq_true (by assumption)
        obtain ⟨ad121, e121, hx121_0, hx121_1, hx121_2, hx121_3, hx121_4, hx121_5⟩ := at_T45 HR1.out x5_1 p121 q121
        have hw121_5 := hx121_5
        have hw121_4 := hx121_4
        have hw121_3 := hx121_3
        have hw121_2 := hx121_2
        have hw121_1 := hx121_1
        have hw121_0 := hx121_0
        cases e121
        replace hx121_0 := cel HB.out hx121_0
        replace hx121_1 := cel HB.out hx121_1
        replace hx121_2 := cel HB.out hx121_2
        replace hx121_3 := cel HB.out hx121_3
        replace hx121_4 := cel HB.out hx121_4
        replace hx121_5 := cel HB.out hx121_5
        replace p121 := eq_true p121
        replace q121 := eq_true q121
        refine start_ (n := 10) (S := fun w' => w'.cell? (ad120.add ((x5_1).toNat * 6)) = some (.string ((rd_T45 l0 x5_1).f0)) ∧ w'.cell? ⟨(ad120.add ((x5_1).toNat * 6)).block, (ad120.add ((x5_1).toNat * 6)).off + 1, none⟩ = some (.int .i8 ((rd_T45 l0 x5_1).f1)) ∧ w'.cell? ⟨(ad120.add ((x5_1).toNat * 6)).block, (ad120.add ((x5_1).toNat * 6)).off + 2, none⟩ = some (.string ((rd_T45 l0 x5_1).f2)) ∧ w'.cell? ⟨(ad120.add ((x5_1).toNat * 6)).block, (ad120.add ((x5_1).toNat * 6)).off + 3, none⟩ = some (.string ((rd_T45 l0 x5_1).f3)) ∧ w'.cell? ⟨(ad120.add ((x5_1).toNat * 6)).block, (ad120.add ((x5_1).toNat * 6)).off + 4, none⟩ = some (.int .i64 ((rd_T45 l0 x5_1).f4)) ∧ w'.cell? ⟨(ad120.add ((x5_1).toNat * 6)).block, (ad120.add ((x5_1).toNat * 6)).off + 5, none⟩ = some (.int .i64 ((rd_T45 l0 x5_1).f5)) ∧ w'.cell? (ad121.add ((x5_1).toNat * 6)) = some (.string ((rd_T45 l1 x5_1).f0)) ∧ w'.cell? ⟨(ad121.add ((x5_1).toNat * 6)).block, (ad121.add ((x5_1).toNat * 6)).off + 1, none⟩ = some (.int .i8 ((rd_T45 l1 x5_1).f1)) ∧ w'.cell? ⟨(ad121.add ((x5_1).toNat * 6)).block, (ad121.add ((x5_1).toNat * 6)).off + 2, none⟩ = some (.string ((rd_T45 l1 x5_1).f2)) ∧ w'.cell? ⟨(ad121.add ((x5_1).toNat * 6)).block, (ad121.add ((x5_1).toNat * 6)).off + 3, none⟩ = some (.string ((rd_T45 l1 x5_1).f3)) ∧ w'.cell? ⟨(ad121.add ((x5_1).toNat * 6)).block, (ad121.add ((x5_1).toNat * 6)).off + 4, none⟩ = some (.int .i64 ((rd_T45 l1 x5_1).f4)) ∧ w'.cell? ⟨(ad121.add ((x5_1).toNat * 6)).block, (ad121.add ((x5_1).toNat * 6)).off + 5, none⟩ = some (.int .i64 ((rd_T45 l1 x5_1).f5))) (ds := []) #[false, false, false, false, false, false, false, false, false, false] (by kernel_rfl) rfl rfl ⟨(cel HB.out hw120_0), (cel HB.out hw120_1), (cel HB.out hw120_2), (cel HB.out hw120_3), (cel HB.out hw120_4), (cel HB.out hw120_5), (cel HB.out hw121_0), (cel HB.out hw121_1), (cel HB.out hw121_2), (cel HB.out hw121_3), (cel HB.out hw121_4), (cel HB.out hw121_5)⟩ (fun hHeld => ?_); refine with_tabW laws_eqLineS.tab6 laws_eqLineS.bits6 (fun HT_ HW_ => ?_)
        generalize wr.drew = w11 at HB hx120_0 hx120_1 hx120_2 hx120_3 hx120_4 hx120_5 hx121_0 hx121_1 hx121_2 hx121_3 hx121_4 hx121_5 hHeld ⊢
        refine pure_ (i := 0) (N := some 17) (v := ?_) (a' := ?_) #[true, false, false, false, false, false, false, false, false, false] rfl rfl (any_of HT_.out (by kernel_rfl)) (fun _ _ _ h => h) (Or.inl ⟨by rfl, ?_⟩) ?_ ?_
        rotate_left
        ·
         intro w'
         go_simp
         with_reducible rfl
        rotate_left
        ·
         simp only [Act.put, sA_, sB_, sC_, i64_w, i32_w]
         rfl
        refine pure_ (i := 1) (N := some 18) (v := ?_) (a' := ?_) #[true, true, false, false, false, false, false, false, false, false] rfl rfl (any_of HT_.out (by kernel_rfl)) (fun _ _ _ h => h) (Or.inl ⟨by rfl, ?_⟩) ?_ ?_
        rotate_left
        ·
         intro w'
         go_simp
         with_reducible rfl
        rotate_left
        ·
         simp only [Act.put, sA_, sB_, sC_, i64_w, i32_w]
         rfl
        refine pure_ (i := 2) (N := some 19) (v := ?_) (a' := ?_) #[true, true, true, false, false, false, false, false, false, false] rfl rfl (any_of HT_.out (by kernel_rfl)) (fun _ _ _ h => h) (Or.inl ⟨by rfl, ?_⟩) ?_ ?_
        rotate_left
        ·
         intro w'
         go_simp
         with_reducible rfl
        rotate_left
        ·
         simp only [Act.put, sA_, sB_, sC_, i64_w, i32_w]
         rfl
        refine pure_ (i := 4) (N := some 21) (v := ?_) (a' := ?_) #[true, true, true, false, true, false, false, false, false, false] rfl rfl (any_of HT_.out (by kernel_rfl)) (fun _ _ _ h => h) (Or.inl ⟨by rfl, ?_⟩) ?_ ?_
        rotate_left
        ·
         intro w'
         go_simp
         with_reducible rfl
        rotate_left
        ·
         simp only [Act.put, sA_, sB_, sC_, i64_w, i32_w]
         rfl
        refine pure_ (i := 5) (N := some 22) (v := ?_) (a' := ?_) #[true, true, true, false, true, true, false, false, false, false] rfl rfl (any_of HT_.out (by kernel_rfl)) (fun _ _ _ h => h) (Or.inl ⟨by rfl, ?_⟩) ?_ ?_
        rotate_left
        ·
         intro w'
         go_simp
         with_reducible rfl
        rotate_left
        ·
         simp only [Act.put, sA_, sB_, sC_, i64_w, i32_w]
         rfl
        refine pure_ (i := 6) (N := some 23) (v := ?_) (a' := ?_) #[true, true, true, false, true, true, true, false, false, false] rfl rfl (any_of HT_.out (by kernel_rfl)) (fun _ _ _ h => h) (Or.inl ⟨by rfl, ?_⟩) ?_ ?_
        rotate_left
        ·
         intro w'
         go_simp
         with_reducible rfl
        rotate_left
        ·
         simp only [Act.put, sA_, sB_, sC_, i64_w, i32_w]
         rfl
        refine take_ (i := 3) (N := some 20) (v := ?_) (a' := ?_) #[true, true, true, true, true, true, true, false, false, false] rfl rfl (take_ofW HT_.out HW_.out (by kernel_rfl)) (fun _ _ _ h => h) (Or.inl ⟨by rfl, ?_⟩) hHeld ?_ ?_
        rotate_left
        ·
         rintro w' ⟨s0, s1, s2, s3, s4, s5, s6, s7, s8, s9, s10, s11⟩
         go_simp
         with_reducible rfl
        rotate_left
        ·
         simp only [Act.put, sA_, sB_, sC_, i64_w, i32_w]
         rfl
        refine take_ (i := 7) (N := some 24) (v := ?_) (a' := ?_) #[true, true, true, true, true, true, true, true, false, false] rfl rfl (take_ofW HT_.out HW_.out (by kernel_rfl)) (fun _ _ _ h => h) (Or.inl ⟨by rfl, ?_⟩) hHeld ?_ ?_
        rotate_left
        ·
         rintro w' ⟨s0, s1, s2, s3, s4, s5, s6, s7, s8, s9, s10, s11⟩
         go_simp
         with_reducible rfl
        rotate_left
        ·
         simp only [Act.put, sA_, sB_, sC_, i64_w, i32_w]
         rfl
        refine one_ (i := 8) (N := some 25) #[true, true, true, true, true, true, true, true, true, false] rfl rfl (one_of HT_.out (by kernel_rfl)) (by decide) (fun K hK => ?_)
        refine goes_ Try.func63 (by kernel_rfl) rfl #[.agg #[.string ((rd_T45 l0 x5_1).f0), .int .i8 ((rd_T45 l0 x5_1).f1), .string ((rd_T45 l0 x5_1).f2), .string ((rd_T45 l0 x5_1).f3), .int .i64 ((rd_T45 l0 x5_1).f4), .int .i64 ((rd_T45 l0 x5_1).f5)], .agg #[.string ((rd_T45 l1 x5_1).f0), .int .i8 ((rd_T45 l1 x5_1).f1), .string ((rd_T45 l1 x5_1).f2), .string ((rd_T45 l1 x5_1).f3), .int .i64 ((rd_T45 l1 x5_1).f4), .int .i64 ((rd_T45 l1 x5_1).f5)]] (by rfl) rfl rfl z1_8_ ?_
        with_reducible refine (laws_eqLine.calls ((rd_T45 l0 x5_1).f0) ((rd_T45 l0 x5_1).f1) ((rd_T45 l0 x5_1).f2) ((rd_T45 l0 x5_1).f3) ((rd_T45 l0 x5_1).f4) ((rd_T45 l0 x5_1).f5) ((rd_T45 l1 x5_1).f0) ((rd_T45 l1 x5_1).f1) ((rd_T45 l1 x5_1).f2) ((rd_T45 l1 x5_1).f3) ((rd_T45 l1 x5_1).f4) ((rd_T45 l1 x5_1).f5) false _ A7.out).mono ?_
        rintro e w12 ⟨rfl, hb⟩
        refine ⟨_, rfl, ?_⟩
        have _ := A_ (below_step z1_1_ hb)
        clear HB
        rename_i HB
        (try clear hb)
        (try clear hb2)
        (try clear hk)
        (try clear hi)
        refine hK.out _ _ ⟨(cel HB.out hw120_0), (cel HB.out hw120_1), (cel HB.out hw120_2), (cel HB.out hw120_3), (cel HB.out hw120_4), (cel HB.out hw120_5), (cel HB.out hw121_0), (cel HB.out hw121_1), (cel HB.out hw121_2), (cel HB.out hw121_3), (cel HB.out hw121_4), (cel HB.out hw121_5)⟩ (fun hHeld => ?_)
        clear hK K
        refine norm_ (a' := ?_) ?_ ?_
        rotate_left
        ·
         show Act.put _ (some 25) _ = _
         simp only [Act.put, sA_, sB_, sC_, i64_w, i32_w]
         rfl
        refine pure_ (i := 9) (N := some 26) (v := ?_) (a' := ?_) #[true, true, true, true, true, true, true, true, true, true] rfl rfl (any_of HT_.out (by kernel_rfl)) (fun _ _ _ h => h) (Or.inl ⟨by rfl, ?_⟩) ?_ ?_
        rotate_left
        ·
         intro w'
         go_simp
         with_reducible rfl
        rotate_left
        ·
         simp only [Act.put, sA_, sB_, sC_, i64_w, i32_w]
         rfl
        refine done_ (done_of HT_.out (by kernel_rfl)) ?_
        try go_wp2
        go_ret
        exact ⟨z1_4_, z1_1_⟩
      ·
       rw [if_neg c6] at H
       exact absurd H (by simp)
     ·
      rw [if_neg c5] at H
      exact absurd H (by simp)
    ·
     rw [if_neg c4] at H
     have c4b0 := decide_eq_false c4
     clear c4
     obtain rfl := Option.some.inj H
     go_wp2
     go_ret
     exact ⟨z1_4_, z1_1_⟩
 ·
  rw [if_neg c3] at H
  have c3b0 : ((l0.length : Int) == (l1.length : Int)) = false := beq_eq_false_iff_ne.mpr c3
  have c3b1 : ((l0.length : Int) != (l1.length : Int)) = true := bne_iff_ne.mpr c3
  have c3b2 : (l0.length == l1.length) = false := by first | simpa using c3 | (simp at c3 ⊢; omega)
  obtain rfl := Option.some.inj H
  go_enter Try.func18, Try.ntmps18
  go_wp2
  go_ret
  exact ⟨z1_4_, z1_1_⟩
/-! ### laws_markText: function 76 -/
def laws_markText.l0 : Nat → Int → ByteArray → Option (ByteArray)
 | 0, _, _ => none
 | k + 1, x0, x3 => if x0 > 0 then ((some (([(wrap64 (48 + (Int.tmod x0 10))) % 256] : List Int) : List Int)).bind fun y123 => (if (strOfNums y123).size + x3.size ≤ 9223372036854775807 then (laws_markText.l0 k (wrap64 (Int.tdiv x0 10)) ((strOfNums y123) ++ x3)) else (none))) else (if 1 + x3.size ≤ 9223372036854775807 then (some ((⟨#[109]⟩ : ByteArray) ++ x3)) else (none))
def laws_markText.f (k : Nat) (a0 : Int) : Option (ByteArray) := if a0 ≤ 0 then (some (⟨#[109, 48]⟩ : ByteArray)) else (laws_markText.l0 k a0 (⟨#[]⟩ : ByteArray))
theorem laws_markText.mono_l : ∀ k, (∀ y0 y1, LeO (laws_markText.l0 k y0 y1) (laws_markText.l0 (k + 1) y0 y1))
 | 0 => fun _ _ r h => by simp [laws_markText.l0] at h
 | k + 1 => by
  have ih0 := laws_markText.mono_l k
  ·
   intro y0 y1
   unfold laws_markText.l0
   repeat' first
   | (with_reducible exact ih0 _ _)
   | (with_reducible exact LeO.refl _)
   | (with_reducible exact LeO.none _)
   | (with_reducible refine LeO.ite ?_ ?_)
   | (with_reducible refine LeO.bind ?_ (fun _ => ?_))
   | exact ih0 _ _
   | exact LeO.none _
   | refine LeO.ite ?_ ?_
   | refine LeO.bind ?_ (fun _ => ?_)
theorem laws_markText.mono : ∀ a0 k, LeO (laws_markText.f k a0) (laws_markText.f (k + 1) a0) := by
 intro a0 k
 have ih0 := laws_markText.mono_l k
 unfold laws_markText.f
 repeat' first
   | (with_reducible exact ih0 _ _)
   | (with_reducible exact LeO.refl _)
   | (with_reducible exact LeO.none _)
   | (with_reducible refine LeO.ite ?_ ?_)
   | (with_reducible refine LeO.bind ?_ (fun _ => ?_))
   | exact ih0 _ _
   | exact LeO.none _
   | refine LeO.ite ?_ ?_
   | refine LeO.bind ?_ (fun _ => ?_)
set_option maxHeartbeats 8000000 in
set_option maxRecDepth 100000 in
theorem laws_markText.calls (k : Nat) (a0 : Int) (r : ByteArray) (w : World) (h : laws_markText.f k a0 = some r) :
  Calls Try.prog 76 #[.int .i64 a0] w fun e w' => e = .returned (.string r) ∧ Below w.heap.size w w' := by
 have HB := A_ (Below.refl w.heap.size w)
 have H : (if a0 ≤ 0 then (some (⟨#[109, 48]⟩ : ByteArray)) else (laws_markText.l0 k a0 (⟨#[]⟩ : ByteArray))) = some r := h
 clear h
 by_cases c2 : a0 ≤ 0
 ·
  rw [if_pos c2] at H
  have c2b0 := decide_eq_true c2
  clear c2
  obtain rfl := Option.some.inj H
  go_enter Try.func76, Try.ntmps76
  go_wp2
  go_ret
  exact ⟨z1_4_, z1_1_⟩
 ·
  rw [if_neg c2] at H
  have c2b0 := decide_eq_false c2
  clear c2
  have H' := A_ H
  clear H
  go_enter Try.func76, Try.ntmps76
  go_wp2
  go_loopg [0, 3] k (fun kq v0 v3 w' => ∃ (x0_1 : Int) (x3_1 : ByteArray), v0 = .int .i64 x0_1 ∧ v3 = .string x3_1 ∧ Aside0 (laws_markText.l0 kq x0_1 x3_1 = some r) ∧ Aside0 (kq ≤ k) ∧ Aside0 (Below w.heap.size w w'))
  case atStart => exact ⟨(a0), ((⟨#[]⟩ : ByteArray)), z1_6_, z1_6_, H', ⟨Nat.le_refl _⟩, ⟨z1_1_⟩⟩
  case round =>
   clear H'
   try clear c2
   try clear c2b0
   try clear p2
   obtain ⟨x0_1, x3_1, rfl, rfl, HA, HK1, HB⟩ := hrel
   cases gk with
   | zero => exact absurd HA.out (by simp [laws_markText.l0])
   | succ k1 =>
    have H := HA.out
    clear HA
    simp only [laws_markText.l0] at H
    by_cases c3 : x0_1 > 0
    ·
     rw [if_pos c3] at H
     have c3b0 := decide_eq_true c3
     clear c3
     obtain ⟨y123, hy123⟩ : ∃ y_ : List Int, y_ = (([(wrap64 (48 + (Int.tmod x0_1 10))) % 256] : List Int)) := ⟨_, rfl⟩
     replace H : (if (strOfNums y123).size + x3_1.size ≤ 9223372036854775807 then (laws_markText.l0 k1 (wrap64 (Int.tdiv x0_1 10)) ((strOfNums y123) ++ x3_1)) else (none)) = some r := by first | (rw [hy123]; with_reducible exact H) | (have H2_ := (Option.bind_some _ _).symm.trans H; rw [hy123]; with_reducible exact H2_) | (have H2_ := (Option.bind_some _ _).symm.trans H; with_reducible exact H2_) | with_reducible exact H | (rw [hy123]; exact H) | exact H
     have Ny123 := A_ hy123
     clear hy123
     by_cases c4 : (strOfNums y123).size + x3_1.size ≤ 9223372036854775807
     ·
      rw [if_pos c4] at H
      have c4b0 := eq_true c4
      have c4b1 := decide_eq_true c4
      try have c4b2 : (9223372036854775807 < (strOfNums y123).size + x3_1.size) = False := eq_false (Nat.not_lt.2 c4)
      have H' := A_ H
      clear H
      go_wp2_with (first | ((with_reducible refine gate_dst (N := 12) rfl ?_); refine Kd.R_lit (Kd.int .u8) _ 5 ?hg (N := 12) ?hd (xs := ([(wrap64 (48 + (Int.tmod x0_1 10))) % 256] : List Int)) (inner := [.int .u8 ((wrap64 (48 + (Int.tmod x0_1 10))) % 256)]) (ok := fun _ => True) (okp := fun _ => True) ?hr ?hp (fun _ hk => hk) trivial (Below.refl _ _) (Nat.le_refl _) (by simp) ?_; (case hd => rfl); (case hg => rfl); (case hr => first | (go_simp; done) | (go_simp; rfl)); (case hp => exact (Reps.one (show Kd.M (Kd.int .u8) _ _ _ ((wrap64 (48 + (Int.tmod x0_1 10))) % 256) [.int .u8 ((wrap64 (48 + (Int.tmod x0_1 10))) % 256)] from rfl) (Reps.none _ _))); intro v124 w5 ho6 hb hg_ hnew_; clear hg_ hnew_; (first | rw [← Ny123.out] at ho6 | (simp only [Int.reduceToNat] at ho6; rw [← Ny123.out] at ho6)); have _ := A_ (Kd.R_lower ho6 (below_size z1_1_)); have _ := A_ (below_step z1_1_ hb); clear HB; rename_i HO125 HB; clear hb ho6; have hcv7 := own_string (P := Try.prog) Try.underlying138 Try.underlying5 Try.underlying9 (Kd.own_of_R HO125.out)))
      go_roundg k1
      case measure => have := HK1.out; omega
      case rel => exact ⟨(wrap64 (Int.tdiv x0_1 10)), ((strOfNums y123) ++ x3_1), z1_6_, z1_6_, H', ⟨(by have := HK1.out; omega)⟩, ⟨z1_1_⟩⟩
     ·
      rw [if_neg c4] at H
      exact absurd H (by simp)
    ·
     rw [if_neg c3] at H
     have c3b0 := decide_eq_false c3
     clear c3
     by_cases c8 : 1 + x3_1.size ≤ 9223372036854775807
     ·
      rw [if_pos c8] at H
      have c8b0 := eq_true c8
      have c8b1 := decide_eq_true c8
      try have c8b2 : (9223372036854775807 < 1 + x3_1.size) = False := eq_false (Nat.not_lt.2 c8)
      obtain rfl := Option.some.inj H
      go_wp2
      go_ret
      exact ⟨z1_4_, z1_1_⟩
     ·
      rw [if_neg c8] at H
      exact absurd H (by simp)
end Go.Proofs.Ytenhgmddpkiliaa.PB

import Derived.Test.YtififhihgkbafaaPMx0
import Derived.Test.YtififhihgkbafaaPMdigitsOk
import Derived.Test.YtififhihgkbafaaPMx4
import Derived.Test.YtififhihgkbafaaPMx5
namespace Go.Proofs.Ytififhihgkbafaa.PM
open Go.RowKit Go.Proofs.YtififhihgkbafaaW.PrintWords Go.Proofs.YtififhihgkbafaaW.PrintLast Go.Proofs.YtififhihgkbafaaW.PrintMore Go.Proofs.YtififhihgkbafaaRP
attribute [local go_sem] max2_int min2_int max_two min_two max_three min_three max_four min_four Go.Proofs.YtififhihgkbafaaRP.max_eight Go.Proofs.YtififhihgkbafaaRP.tmod_len   -- for this text's walks alone
set_option linter.unusedVariables false
set_option linter.unusedSimpArgs false
theorem z8_1_ {P : Prop} (h : P := by repeat (first | (with_reducible first | exact HB.out | apply below_alloc | apply pw_below_drewN | apply below_drew1 | refine below_set ?_ GE258.out | refine below_set ?_ GE259.out | refine below_set ?_ GE271.out) | exact HB.out)) : P := h
theorem z8_2_ {P : Prop} (h : P := by (with_reducible repeat (first | refine blk_drewN ?_ _ | refine blk_drew ?_ | refine blk_alloc ?_ _)); exact BK258.out) : P := h
theorem z8_3_ {P : Prop} (h : P := by (try simp only [List.map_toArray, List.map_cons, List.map_nil]); first | done | rfl | (simp only [List.length_drop, List.length_take]; rfl)) : P := h
theorem z8_4_ {P : Prop} (h : P := by (with_reducible repeat (first | refine blk_drewN ?_ _ | refine blk_drew ?_ | refine blk_alloc ?_ _)); exact BK259.out) : P := h
theorem z8_5_ {P : Prop} (h : P := by repeat (first | (with_reducible first | exact HB.out | apply below_alloc | apply pw_below_drewN | apply below_drew1 | refine below_set ?_ GE258.out | refine below_set ?_ GE259.out) | exact HB.out)) : P := h
theorem z8_6_ {P : Prop} (h : P := by (with_reducible repeat (first | refine blk_drewN ?_ _ | refine blk_drew ?_ | refine blk_alloc ?_ _)); refine blk_far ?_ NB259_271.out _; (with_reducible repeat (first | refine blk_drewN ?_ _ | refine blk_drew ?_ | refine blk_alloc ?_ _)); refine blk_far ?_ NB259_271.out _; (with_reducible repeat (first | refine blk_drewN ?_ _ | refine blk_drew ?_ | refine blk_alloc ?_ _)); refine blk_far ?_ NB259_271.out _; (with_reducible repeat (first | refine blk_drewN ?_ _ | refine blk_drew ?_ | refine blk_alloc ?_ _)); refine blk_far ?_ NB259_271.out _; (with_reducible repeat (first | refine blk_drewN ?_ _ | refine blk_drew ?_ | refine blk_alloc ?_ _)); exact BK259.out) : P := h
theorem z8_7_ {P : Prop} (h : P := by (with_reducible repeat (first | refine blk_drewN ?_ _ | refine blk_drew ?_ | refine blk_alloc ?_ _)); refine blk_far ?_ NB258_271.out _; (with_reducible repeat (first | refine blk_drewN ?_ _ | refine blk_drew ?_ | refine blk_alloc ?_ _)); refine blk_far ?_ NB258_271.out _; (with_reducible repeat (first | refine blk_drewN ?_ _ | refine blk_drew ?_ | refine blk_alloc ?_ _)); refine blk_far ?_ NB258_271.out _; (with_reducible repeat (first | refine blk_drewN ?_ _ | refine blk_drew ?_ | refine blk_alloc ?_ _)); refine blk_far ?_ NB258_271.out _; (with_reducible repeat (first | refine blk_drewN ?_ _ | refine blk_drew ?_ | refine blk_alloc ?_ _)); exact BK258.out) : P := h
theorem z8_8_ {P : Prop} (h : P := by repeat (first | (with_reducible first | exact HB.out | apply below_alloc | apply pw_below_drewN | apply below_drew1) | exact HB.out)) : P := h
theorem z8_9_ {P : Prop} (h : P := by (with_reducible repeat (first | refine blk_drewN ?_ _ | refine blk_drew ?_ | refine blk_alloc ?_ _)); exact BK271.out) : P := h
theorem z8_10_ {P : Prop} (h : P := by (with_reducible repeat (first | apply Kd.R_alloc | apply Kd.R_drewN | apply Kd.R_drew)); exact HO_8.out) : P := h
theorem z8_11_ {P : Prop} (h : P := by repeat (first | (with_reducible first | exact HB.out | apply below_alloc | apply pw_below_drewN | apply below_drew1 | refine below_set ?_ GE221.out) | exact HB.out)) : P := h
theorem z8_12_ {P : Prop} (h : P := by first | rfl | (simp [errW_none, errW_some] <;> rfl) | (simp [*, errW_none, errW_some] <;> rfl)) : P := h
theorem z8_13_ {P : Prop} (h : P := by (with_reducible repeat (first | refine blk_drewN ?_ _ | refine blk_drew ?_ | refine blk_alloc ?_ _)); refine blk_put (cs := #[.int .i64 t283, .int .i64 t284, .int .i64 t285, .int .i64 x272003_2]) ?_ 3 _ rfl; (with_reducible repeat (first | refine blk_drewN ?_ _ | refine blk_drew ?_ | refine blk_alloc ?_ _)); refine blk_put (cs := #[.int .i64 t283, .int .i64 t284, .int .i64 x272002_2, .int .i64 x272003_2]) ?_ 2 _ rfl; (with_reducible repeat (first | refine blk_drewN ?_ _ | refine blk_drew ?_ | refine blk_alloc ?_ _)); refine blk_put (cs := #[.int .i64 t283, .int .i64 x272001_2, .int .i64 x272002_2, .int .i64 x272003_2]) ?_ 1 _ rfl; (with_reducible repeat (first | refine blk_drewN ?_ _ | refine blk_drew ?_ | refine blk_alloc ?_ _)); refine blk_put (cs := #[.int .i64 x272000_2, .int .i64 x272001_2, .int .i64 x272002_2, .int .i64 x272003_2]) ?_ 0 _ rfl; (with_reducible repeat (first | refine blk_drewN ?_ _ | refine blk_drew ?_ | refine blk_alloc ?_ _)); exact BK271.out) : P := h
theorem z8_14_ {P : Prop} (h : P := by (with_reducible repeat (first | refine blk_drewN ?_ _ | refine blk_drew ?_ | refine blk_alloc ?_ _)); refine blk_put (cs := #[.int .i64 t274, .int .i64 t275, .int .i64 t276, .int .i64 x272003_2]) ?_ 3 _ rfl; (with_reducible repeat (first | refine blk_drewN ?_ _ | refine blk_drew ?_ | refine blk_alloc ?_ _)); refine blk_put (cs := #[.int .i64 t274, .int .i64 t275, .int .i64 x272002_2, .int .i64 x272003_2]) ?_ 2 _ rfl; (with_reducible repeat (first | refine blk_drewN ?_ _ | refine blk_drew ?_ | refine blk_alloc ?_ _)); refine blk_put (cs := #[.int .i64 t274, .int .i64 x272001_2, .int .i64 x272002_2, .int .i64 x272003_2]) ?_ 1 _ rfl; (with_reducible repeat (first | refine blk_drewN ?_ _ | refine blk_drew ?_ | refine blk_alloc ?_ _)); refine blk_put (cs := #[.int .i64 x272000_2, .int .i64 x272001_2, .int .i64 x272002_2, .int .i64 x272003_2]) ?_ 0 _ rfl; (with_reducible repeat (first | refine blk_drewN ?_ _ | refine blk_drew ?_ | refine blk_alloc ?_ _)); exact BK271.out) : P := h
theorem z8_15_ {P : Prop} (h : P := by first | exact Kd.R_nil _ _ _ _ _ | exact Kd.N_nil _ _ _ _ _ | exact Kd.V_nil _ _ _ _ _ | exact Kd.Q_nil _ _ _ _ _ | exact Kd.S_nil _ _ _ _ _) : P := h
theorem z8_16_ {P : Prop} (h : P := by first | rfl | (simp; done) | (simp [*]; done) | (simp [isE_]; done)) : P := h
theorem z8_17_ {P : Prop} (h : P := by (with_reducible repeat (first | apply Kd.R_alloc | apply Kd.R_drewN | apply Kd.R_drew)); exact (Kd.R_mono (Kd.R_far (p := ⟨gb271, 3, none⟩) (Kd.R_far (p := ⟨gb271, 2, none⟩) (Kd.R_far (p := ⟨gb271, 1, none⟩) (Kd.R_far (p := ⟨gb271, 0, none⟩) (Kd.R_types HO_8.out BK271.out (by decide)) (fun _ hk => hk.2) (.int .i64 t283)) (fun _ hk => hk.2) (.int .i64 t284)) (fun _ hk => hk.2) (.int .i64 t285)) (fun _ hk => hk.2) (.int .i64 t286)) (fun _ h_ => h_.1))) : P := h
theorem z8_18_ {P : Prop} (h : P := by (with_reducible repeat (first | apply Kd.R_alloc | apply Kd.R_drewN | apply Kd.R_drew)); exact (Kd.R_mono (Kd.R_far (p := ⟨gb271, 3, none⟩) (Kd.R_far (p := ⟨gb271, 2, none⟩) (Kd.R_far (p := ⟨gb271, 1, none⟩) (Kd.R_far (p := ⟨gb271, 0, none⟩) (Kd.R_types HO_8.out BK271.out (by decide)) (fun _ hk => hk.2) (.int .i64 t274)) (fun _ hk => hk.2) (.int .i64 t275)) (fun _ hk => hk.2) (.int .i64 t276)) (fun _ hk => hk.2) (.int .i64 t277)) (fun _ h_ => h_.1))) : P := h
theorem z8_19_ {P : Prop} (h : P := by repeat (first | (with_reducible first | exact HB.out | apply below_alloc | apply pw_below_drewN | apply below_drew1 | refine below_set ?_ GE291.out | refine below_set ?_ GE292.out) | exact HB.out)) : P := h
theorem z8_20_ {P : Prop} (h : P := by (with_reducible repeat (first | refine blk_drewN ?_ _ | refine blk_drew ?_ | refine blk_alloc ?_ _)); exact BK291.out) : P := h
theorem z8_21_ {P : Prop} (h : P := by repeat (first | (with_reducible first | exact HB.out | apply below_alloc | apply pw_below_drewN | apply below_drew1 | refine below_set ?_ GE291.out) | exact HB.out)) : P := h
theorem z8_22_ {P : Prop} (h : P := by repeat (first | (with_reducible first | exact HB.out | apply below_alloc | apply pw_below_drewN | apply below_drew1 | refine below_set ?_ GE258.out) | exact HB.out)) : P := h
theorem z8_23_ {P : Prop} (h : P := by (with_reducible repeat (first | refine blk_drewN ?_ _ | refine blk_drew ?_ | refine blk_alloc ?_ _)); exact BK221.out) : P := h
theorem z8_24_ {P : Prop} (h : P := by (with_reducible repeat (first | apply Kd.R_alloc | apply Kd.R_drewN | apply Kd.R_drew)); exact HO266.out) : P := h
/-! ### impl_ValidStream: function 50 -/
def impl_ValidStream.f (l0_0 : List Int) (l0_1 : List Int) : Option (Bool) := if (l0_0.length : Int) ≤ 16 then (if (l0_1.length : Int) ≥ 1 then (if (l0_1.length : Int) ≤ 14 then ((impl_digitsOk.f l0_0).bind fun t222 => (if t222 = true then ((impl_digitsOk.f l0_1).bind fun t223 => (some t223)) else (some false))) else (some false)) else (some false)) else (some false)
set_option maxHeartbeats 8000000 in
set_option maxRecDepth 100000 in
theorem impl_ValidStream.calls (A0_0 : Option Addr) (c0_0 : Nat) (l0_0 : List Int) (A0_1 : Option Addr) (c0_1 : Nat) (l0_1 : List Int) (r : Bool) (w : World) (hr0_0 : Kd.C (Kd.int .i8) w A0_0 l0_0.length l0_0) (hc0_0 : l0_0.length ≤ c0_0) (hr0_1 : Kd.C (Kd.int .i8) w A0_1 l0_1.length l0_1) (hc0_1 : l0_1.length ≤ c0_1) (h : impl_ValidStream.f l0_0 l0_1 = some r) :
  Calls Try.prog 50 #[.agg #[.slice A0_0 l0_0.length c0_0, .slice A0_1 l0_1.length c0_1]] w fun e w' => e = .returned (.bool r) ∧ Below w.heap.size w w' := by
 have hu33 := Try.underlying33
 have HR0_0 := A_ hr0_0
 have HC0_0 := A_ hc0_0
 clear hr0_0 hc0_0
 have HR0_1 := A_ hr0_1
 have HC0_1 := A_ hc0_1
 clear hr0_1 hc0_1
 have HB := A_ (Below.refl w.heap.size w)
 have H : (if (l0_0.length : Int) ≤ 16 then (if (l0_1.length : Int) ≥ 1 then (if (l0_1.length : Int) ≤ 14 then ((impl_digitsOk.f l0_0).bind fun t222 => (if t222 = true then ((impl_digitsOk.f l0_1).bind fun t223 => (some t223)) else (some false))) else (some false)) else (some false)) else (some false)) = some r := h
 clear h
 by_cases c2 : (l0_0.length : Int) ≤ 16
 ·
  rw [if_pos c2] at H
  have c2b0 := decide_eq_true c2
  have c2b1 : decide (l0_0.length ≤ 16) = true := decide_eq_true (by omega)
  clear c2
  by_cases c3 : (l0_1.length : Int) ≥ 1
  ·
   rw [if_pos c3] at H
   have c3b0 := decide_eq_true c3
   have c3b1 : decide (1 ≤ l0_1.length) = true := decide_eq_true (by omega)
   clear c3
   by_cases c4 : (l0_1.length : Int) ≤ 14
   ·
    rw [if_pos c4] at H
    have c4b0 := decide_eq_true c4
    have c4b1 : decide (l0_1.length ≤ 14) = true := decide_eq_true (by omega)
    clear c4
    replace H := Option.bind_eq_some_iff.mp H
    obtain ⟨t222, A50, H⟩ := H
    try dsimp only at H
    have A5 := A_ A50
    clear A50
    by_cases c6 : t222 = true
    ·
     subst c6
     have H1 := H; rw [if_pos rfl] at H1
     clear H
     have H := H1
     clear H1
     replace H := Option.bind_eq_some_iff.mp H
     obtain ⟨t223, A70, H⟩ := H
     try dsimp only at H
     have A7 := A_ A70
     clear A70
     obtain rfl := Option.some.inj H
     go_enter Try.func50, Try.ntmps50
     go_wp2_with (first | ((with_reducible refine gate_dst (N := 1) rfl ?_); (try (refine gate_guard (by rfl) ?_; dsimp only)); refine box_event ?hg (N := 1) ?hd (cs := #[.slice A0_0 l0_0.length c0_0, .slice A0_1 l0_1.length c0_1]) (t := 33) ?hr ?_; (case hd => rfl); (case hg => rfl); (case hr => first | (go_simp; done) | (go_simp; rfl)); intro gb221 hg w8 hbox hb; have _ := A_ (below_step z8_8_ hb); have _ := A_ (hbox); have _ := A_ ((by rw [hg]; exact (below_size z8_8_) : w.heap.size ≤ gb221)); have _ := A_ ((by rw [hg]; exact (below_size z8_8_) : w.heap.size ≤ gb221)); clear HB; rename_i HB BK221 GW221 GE221; clear hb hbox hg; obtain ⟨hcz9_0, hcz9_1⟩ := bc2 BK221.out; obtain ⟨hfz9_0, hfz9_1⟩ := bf2 BK221.out) | (go_at_call 82; (with_reducible refine (impl_digitsOk.calls _ _ l0_0 true _ ?side1 ?side2 A5.out).mono ?_); (case side1 => have hx_ := (Kd.C_below HR0_0.out HB.out); exact kc_); (case side2 => exact HC0_0.out); rintro e w10 ⟨rfl, hb⟩; have _ := A_ (blk_below (g := gb221) (o := .cells #[.slice A0_0 l0_0.length c0_0, .slice A0_1 l0_1.length c0_1] 33 (0, 0)) z8_23_ hb); have _ := A_ (below_step z8_11_ hb); clear BK221 HB; rename_i BK221 HB; (try clear hb); obtain ⟨hcz11_0, hcz11_1⟩ := bc2 BK221.out; obtain ⟨hfz11_0, hfz11_1⟩ := bf2 BK221.out) | (go_at_call 82; (with_reducible refine (impl_digitsOk.calls _ _ l0_1 t223 _ ?side1 ?side2 A7.out).mono ?_); (case side1 => have hx_ := (Kd.C_below HR0_1.out HB.out); exact kc_); (case side2 => exact HC0_1.out); rintro e w12 ⟨rfl, hb⟩; have _ := A_ (blk_below (g := gb221) (o := .cells #[.slice A0_0 l0_0.length c0_0, .slice A0_1 l0_1.length c0_1] 33 (0, 0)) z8_23_ hb); have _ := A_ (below_step z8_11_ hb); clear BK221 HB; rename_i BK221 HB; (try clear hb)))
     go_ret
     exact ⟨z8_12_, z8_11_⟩
    ·
     replace c6 := Bool.eq_false_iff.mpr c6
     subst c6
     have H1 := H; rw [if_neg (show ¬ (false = true) by decide)] at H1
     clear H
     have H := H1
     clear H1
     obtain rfl := Option.some.inj H
     go_enter Try.func50, Try.ntmps50
     go_wp2_with (first | ((with_reducible refine gate_dst (N := 1) rfl ?_); (try (refine gate_guard (by rfl) ?_; dsimp only)); refine box_event ?hg (N := 1) ?hd (cs := #[.slice A0_0 l0_0.length c0_0, .slice A0_1 l0_1.length c0_1]) (t := 33) ?hr ?_; (case hd => rfl); (case hg => rfl); (case hr => first | (go_simp; done) | (go_simp; rfl)); intro gb221 hg w13 hbox hb; have _ := A_ (below_step z8_8_ hb); have _ := A_ (hbox); have _ := A_ ((by rw [hg]; exact (below_size z8_8_) : w.heap.size ≤ gb221)); have _ := A_ ((by rw [hg]; exact (below_size z8_8_) : w.heap.size ≤ gb221)); clear HB; rename_i HB BK221 GW221 GE221; clear hb hbox hg; obtain ⟨hcz14_0, hcz14_1⟩ := bc2 BK221.out; obtain ⟨hfz14_0, hfz14_1⟩ := bf2 BK221.out) | (go_at_call 82; (with_reducible refine (impl_digitsOk.calls _ _ l0_0 false _ ?side1 ?side2 A5.out).mono ?_); (case side1 => have hx_ := (Kd.C_below HR0_0.out HB.out); exact kc_); (case side2 => exact HC0_0.out); rintro e w15 ⟨rfl, hb⟩; have _ := A_ (blk_below (g := gb221) (o := .cells #[.slice A0_0 l0_0.length c0_0, .slice A0_1 l0_1.length c0_1] 33 (0, 0)) z8_23_ hb); have _ := A_ (below_step z8_11_ hb); clear BK221 HB; rename_i BK221 HB; (try clear hb)))
     go_ret
     exact ⟨z8_12_, z8_11_⟩
   ·
    rw [if_neg c4] at H
    have c4b0 := decide_eq_false c4
    have c4b1 : decide (l0_1.length ≤ 14) = false := decide_eq_false (by omega)
    clear c4
    obtain rfl := Option.some.inj H
    go_enter Try.func50, Try.ntmps50
    go_wp2_with (first | ((with_reducible refine gate_dst (N := 1) rfl ?_); (try (refine gate_guard (by rfl) ?_; dsimp only)); refine box_event ?hg (N := 1) ?hd (cs := #[.slice A0_0 l0_0.length c0_0, .slice A0_1 l0_1.length c0_1]) (t := 33) ?hr ?_; (case hd => rfl); (case hg => rfl); (case hr => first | (go_simp; done) | (go_simp; rfl)); intro gb221 hg w16 hbox hb; have _ := A_ (below_step z8_8_ hb); have _ := A_ (hbox); have _ := A_ ((by rw [hg]; exact (below_size z8_8_) : w.heap.size ≤ gb221)); have _ := A_ ((by rw [hg]; exact (below_size z8_8_) : w.heap.size ≤ gb221)); clear HB; rename_i HB BK221 GW221 GE221; clear hb hbox hg; obtain ⟨hcz17_0, hcz17_1⟩ := bc2 BK221.out; obtain ⟨hfz17_0, hfz17_1⟩ := bf2 BK221.out))
    go_ret
    exact ⟨z8_12_, z8_11_⟩
  ·
   rw [if_neg c3] at H
   have c3b0 := decide_eq_false c3
   have c3b1 : decide (1 ≤ l0_1.length) = false := decide_eq_false (by omega)
   clear c3
   obtain rfl := Option.some.inj H
   go_enter Try.func50, Try.ntmps50
   go_wp2_with (first | ((with_reducible refine gate_dst (N := 1) rfl ?_); (try (refine gate_guard (by rfl) ?_; dsimp only)); refine box_event ?hg (N := 1) ?hd (cs := #[.slice A0_0 l0_0.length c0_0, .slice A0_1 l0_1.length c0_1]) (t := 33) ?hr ?_; (case hd => rfl); (case hg => rfl); (case hr => first | (go_simp; done) | (go_simp; rfl)); intro gb221 hg w18 hbox hb; have _ := A_ (below_step z8_8_ hb); have _ := A_ (hbox); have _ := A_ ((by rw [hg]; exact (below_size z8_8_) : w.heap.size ≤ gb221)); have _ := A_ ((by rw [hg]; exact (below_size z8_8_) : w.heap.size ≤ gb221)); clear HB; rename_i HB BK221 GW221 GE221; clear hb hbox hg; obtain ⟨hcz19_0, hcz19_1⟩ := bc2 BK221.out; obtain ⟨hfz19_0, hfz19_1⟩ := bf2 BK221.out))
   go_ret
   exact ⟨z8_12_, z8_11_⟩
 ·
  rw [if_neg c2] at H
  have c2b0 := decide_eq_false c2
  have c2b1 : decide (l0_0.length ≤ 16) = false := decide_eq_false (by omega)
  clear c2
  obtain rfl := Option.some.inj H
  go_enter Try.func50, Try.ntmps50
  go_wp2_with (first | ((with_reducible refine gate_dst (N := 1) rfl ?_); (try (refine gate_guard (by rfl) ?_; dsimp only)); refine box_event ?hg (N := 1) ?hd (cs := #[.slice A0_0 l0_0.length c0_0, .slice A0_1 l0_1.length c0_1]) (t := 33) ?hr ?_; (case hd => rfl); (case hg => rfl); (case hr => first | (go_simp; done) | (go_simp; rfl)); intro gb221 hg w20 hbox hb; have _ := A_ (below_step z8_8_ hb); have _ := A_ (hbox); have _ := A_ ((by rw [hg]; exact (below_size z8_8_) : w.heap.size ≤ gb221)); have _ := A_ ((by rw [hg]; exact (below_size z8_8_) : w.heap.size ≤ gb221)); clear HB; rename_i HB BK221 GW221 GE221; clear hb hbox hg; obtain ⟨hcz21_0, hcz21_1⟩ := bc2 BK221.out; obtain ⟨hfz21_0, hfz21_1⟩ := bf2 BK221.out))
  go_ret
  exact ⟨z8_12_, z8_11_⟩
/-! ### impl_Moebius_run: function 43 -/
mutual
def impl_Moebius_run.j0 : Nat → Int → Bool → Int → Int → Int → Int → List Int → List Int → Option ((List (S51)) × Int)
 | 0, _, _, _, _, _, _, _, _ => none
 | k + 1, x2, x21, x259000, x259001, x259002, x259003, x260000, x260001 => if x21 = true then (some (([] : List (S51)), 1)) else ((impl_within.f x2 0 60).bind fun t262 => (if t262 = true then ((impl_Moebius_lies.f k x259000 x259001 x259002 x259003 (-2) 2).bind fun t263 => (if t263 = true then ((impl_Moebius_reduced.f k x259000 x259001 x259002 x259003).bind fun bt267 => (impl_Moebius_run.l0 k x2 (([] : List (S51))) 0 0 x260000 x260001 bt267.1 bt267.2.1 bt267.2.2.1 bt267.2.2.2)) else (some (([] : List (S51)), 4)))) else (some (([] : List (S51)), 2))))
def impl_Moebius_run.l0 : Nat → Int → List (S51) → Int → Int → List Int → List Int → Int → Int → Int → Int → Option ((List (S51)) × Int)
 | 0, _, _, _, _, _, _, _, _, _, _ => none
 | k + 1, x2, x8, x10, x11, x260000, x260001, x272000, x272001, x272002, x272003 => if x11 < x2 then ((impl_Moebius_tells.f k x272000 x272001 x272002 x272003).bind fun bt272 => (if bt272.2 = true then ((impl_Moebius_behind.f k x272000 x272001 x272002 x272003 bt272.1).bind fun bt274 => ((impl_Moebius_largest.f bt274.1 bt274.2.1 bt274.2.2.1 bt274.2.2.2).bind fun t278 => (if t278 > 288230376151711744 then (some (([] : List (S51)), 3)) else (if x8.length < 3518437208883 then (impl_Moebius_run.l0 k x2 (x8 ++ [(⟨bt272.2, bt272.1, (⟨bt274.1, bt274.2.1, bt274.2.2.1, bt274.2.2.2⟩ : S31)⟩ : S51)]) x10 (wrap64 (x11 + 1)) x260000 x260001 bt274.1 bt274.2.1 bt274.2.2.1 bt274.2.2.2) else (none))))) else (if x10 = 400 then (some (([] : List (S51)), 7)) else ((impl_Stream_at.f x260000 x260001 x10).bind fun t282 => ((impl_Moebius_with.f k x272000 x272001 x272002 x272003 t282).bind fun bt283 => ((impl_Moebius_largest.f bt283.1 bt283.2.1 bt283.2.2.1 bt283.2.2.2).bind fun t287 => (if t287 > 288230376151711744 then (some (([] : List (S51)), 3)) else (if x8.length < 3518437208883 then (impl_Moebius_run.l0 k x2 (x8 ++ [(⟨bt272.2, t282, (⟨bt283.1, bt283.2.1, bt283.2.2.1, bt283.2.2.2⟩ : S31)⟩ : S51)]) (wrap64 (x10 + 1)) x11 x260000 x260001 bt283.1 bt283.2.1 bt283.2.2.1 bt283.2.2.2) else (none))))))))) else (some (x8, 0))
end
def impl_Moebius_run.f (k : Nat) (a0_0 : Int) (a0_1 : Int) (a0_2 : Int) (a0_3 : Int) (l1_0 : List Int) (l1_1 : List Int) (a2 : Int) : Option ((List (S51)) × Int) := (impl_ValidMoebius.f k a0_0 a0_1 a0_2 a0_3).bind fun t260 => (if t260 = true then ((impl_ValidStream.f l1_0 l1_1).bind fun t261 => (impl_Moebius_run.j0 k a2 (!t261) a0_0 a0_1 a0_2 a0_3 l1_0 l1_1)) else (impl_Moebius_run.j0 k a2 true a0_0 a0_1 a0_2 a0_3 l1_0 l1_1))
theorem impl_Moebius_run.mono_l : ∀ k, (∀ y0 y1 y2 y3 y4 y5 y6 y7, LeO (impl_Moebius_run.j0 k y0 y1 y2 y3 y4 y5 y6 y7) (impl_Moebius_run.j0 (k + 1) y0 y1 y2 y3 y4 y5 y6 y7)) ∧ (∀ y0 y1 y2 y3 y4 y5 y6 y7 y8 y9, LeO (impl_Moebius_run.l0 k y0 y1 y2 y3 y4 y5 y6 y7 y8 y9) (impl_Moebius_run.l0 (k + 1) y0 y1 y2 y3 y4 y5 y6 y7 y8 y9))
 | 0 => ⟨fun _ _ _ _ _ _ _ _ r h => by simp [impl_Moebius_run.j0] at h, fun _ _ _ _ _ _ _ _ _ _ r h => by simp [impl_Moebius_run.l0] at h⟩
 | k + 1 => by
  obtain ⟨ih0, ih1⟩ := impl_Moebius_run.mono_l k
  refine ⟨?_, ?_⟩
  ·
   intro y0 y1 y2 y3 y4 y5 y6 y7
   unfold impl_Moebius_run.j0
   repeat' first
   | (with_reducible exact ih0 _ _ _ _ _ _ _ _)
   | (with_reducible exact ih1 _ _ _ _ _ _ _ _ _ _)
   | (with_reducible exact impl_Moebius_behind.mono _ _ _ _ _ _)
   | (with_reducible exact impl_Moebius_lies.mono _ _ _ _ _ _ _)
   | (with_reducible exact impl_Moebius_reduced.mono _ _ _ _ _)
   | (with_reducible exact impl_Moebius_tells.mono _ _ _ _ _)
   | (with_reducible exact impl_Moebius_with.mono _ _ _ _ _ _)
   | (with_reducible exact impl_ValidMoebius.mono _ _ _ _ _)
   | (with_reducible exact LeO.refl _)
   | (with_reducible exact LeO.none _)
   | (with_reducible refine LeO.ite ?_ ?_)
   | (with_reducible refine LeO.bind ?_ (fun _ => ?_))
   | exact ih0 _ _ _ _ _ _ _ _
   | exact ih1 _ _ _ _ _ _ _ _ _ _
   | exact LeO.none _
   | refine LeO.ite ?_ ?_
   | refine LeO.bind ?_ (fun _ => ?_)
  ·
   intro y0 y1 y2 y3 y4 y5 y6 y7 y8 y9
   unfold impl_Moebius_run.l0
   repeat' first
   | (with_reducible exact ih0 _ _ _ _ _ _ _ _)
   | (with_reducible exact ih1 _ _ _ _ _ _ _ _ _ _)
   | (with_reducible exact impl_Moebius_behind.mono _ _ _ _ _ _)
   | (with_reducible exact impl_Moebius_lies.mono _ _ _ _ _ _ _)
   | (with_reducible exact impl_Moebius_reduced.mono _ _ _ _ _)
   | (with_reducible exact impl_Moebius_tells.mono _ _ _ _ _)
   | (with_reducible exact impl_Moebius_with.mono _ _ _ _ _ _)
   | (with_reducible exact impl_ValidMoebius.mono _ _ _ _ _)
   | (with_reducible exact LeO.refl _)
   | (with_reducible exact LeO.none _)
   | (with_reducible refine LeO.ite ?_ ?_)
   | (with_reducible refine LeO.bind ?_ (fun _ => ?_))
   | exact ih0 _ _ _ _ _ _ _ _
   | exact ih1 _ _ _ _ _ _ _ _ _ _
   | exact LeO.none _
   | refine LeO.ite ?_ ?_
   | refine LeO.bind ?_ (fun _ => ?_)
theorem impl_Moebius_run.mono : ∀ a0 a1 a2 a3 a4 a5 a6 k, LeO (impl_Moebius_run.f k a0 a1 a2 a3 a4 a5 a6) (impl_Moebius_run.f (k + 1) a0 a1 a2 a3 a4 a5 a6) := by
 intro a0 a1 a2 a3 a4 a5 a6 k
 obtain ⟨ih0, ih1⟩ := impl_Moebius_run.mono_l k
 unfold impl_Moebius_run.f
 repeat' first
   | (with_reducible exact ih0 _ _ _ _ _ _ _ _)
   | (with_reducible exact ih1 _ _ _ _ _ _ _ _ _ _)
   | (with_reducible exact impl_Moebius_behind.mono _ _ _ _ _ _)
   | (with_reducible exact impl_Moebius_lies.mono _ _ _ _ _ _ _)
   | (with_reducible exact impl_Moebius_reduced.mono _ _ _ _ _)
   | (with_reducible exact impl_Moebius_tells.mono _ _ _ _ _)
   | (with_reducible exact impl_Moebius_with.mono _ _ _ _ _ _)
   | (with_reducible exact impl_ValidMoebius.mono _ _ _ _ _)
   | (with_reducible exact LeO.refl _)
   | (with_reducible exact LeO.none _)
   | (with_reducible refine LeO.ite ?_ ?_)
   | (with_reducible refine LeO.bind ?_ (fun _ => ?_))
   | exact ih0 _ _ _ _ _ _ _ _
   | exact ih1 _ _ _ _ _ _ _ _ _ _
   | exact LeO.none _
   | refine LeO.ite ?_ ?_
   | refine LeO.bind ?_ (fun _ => ?_)
set_option maxHeartbeats 8000000 in
set_option maxRecDepth 100000 in
theorem impl_Moebius_run.calls (k : Nat) (a0_0 : Int) (a0_1 : Int) (a0_2 : Int) (a0_3 : Int) (A1_0 : Option Addr) (c1_0 : Nat) (l1_0 : List Int) (A1_1 : Option Addr) (c1_1 : Nat) (l1_1 : List Int) (a2 : Int) (r1 : List (S51)) (r2 : Int) (w : World) (hr1_0 : Kd.C (Kd.int .i8) w A1_0 l1_0.length l1_0) (hc1_0 : l1_0.length ≤ c1_0) (hr1_1 : Kd.C (Kd.int .i8) w A1_1 l1_1.length l1_1) (hc1_1 : l1_1.length ≤ c1_1) (h : impl_Moebius_run.f k a0_0 a0_1 a0_2 a0_3 l1_0 l1_1 a2 = some (r1, r2)) :
  Calls Try.prog 43 #[.agg #[.int .i64 a0_0, .int .i64 a0_1, .int .i64 a0_2, .int .i64 a0_3], .agg #[.slice A1_0 l1_0.length c1_0, .slice A1_1 l1_1.length c1_1], .int .i64 a2] w fun e w' => ∃ v0_ : Value, e = .returned (.tuple #[v0_, .int .i64 r2]) ∧ Kd.R k51 51 w' w.heap.size (fun _ => True) v0_ r1 ∧ Below w.heap.size w w' := by
 have hu31 := Try.underlying31
 have hu33 := Try.underlying33
 have hu51 := Try.underlying51
 have HR1_0 := A_ hr1_0
 have HC1_0 := A_ hc1_0
 clear hr1_0 hc1_0
 have HR1_1 := A_ hr1_1
 have HC1_1 := A_ hc1_1
 clear hr1_1 hc1_1
 have HB := A_ (Below.refl w.heap.size w)
 have H : ((impl_ValidMoebius.f k a0_0 a0_1 a0_2 a0_3).bind fun t260 => (if t260 = true then ((impl_ValidStream.f l1_0 l1_1).bind fun t261 => (impl_Moebius_run.j0 k a2 (!t261) a0_0 a0_1 a0_2 a0_3 l1_0 l1_1)) else (impl_Moebius_run.j0 k a2 true a0_0 a0_1 a0_2 a0_3 l1_0 l1_1))) = some (r1, r2) := h
 clear h
 have HC4 := A_ H
 clear H
 go_enter Try.func43, Try.ntmps43
 go_upto_region 1 with (first | ((with_reducible refine gate_dst (N := 3) rfl ?_); refine box_event ?hg (N := 3) ?hd (cs := #[.int .i64 a0_0, .int .i64 a0_1, .int .i64 a0_2, .int .i64 a0_3]) (t := 31) ?hr ?_; (case hd => rfl); (case hg => rfl); (case hr => first | (go_simp; done) | (go_simp; rfl)); intro gb258 hg w5 hbox hb; have _ := A_ (below_step z8_8_ hb); have _ := A_ (hbox); have _ := A_ ((by rw [hg]; exact (below_size z8_8_) : w.heap.size ≤ gb258)); have _ := A_ ((by rw [hg]; exact (below_size z8_8_) : w.heap.size ≤ gb258)); clear HB; rename_i HB BK258 GW258 GE258; clear hb hbox hg) | ((with_reducible refine gate_dst (N := 4) rfl ?_); refine box_event ?hg (N := 4) ?hd (cs := #[.slice A1_0 l1_0.length c1_0, .slice A1_1 l1_1.length c1_1]) (t := 33) ?hr ?_; (case hd => rfl); (case hg => rfl); (case hr => first | (go_simp; done) | (go_simp; rfl)); intro gb259 hg w6 hbox hb; have _ := A_ (blk_below (g := gb258) (o := .cells #[.int .i64 a0_0, .int .i64 a0_1, .int .i64 a0_2, .int .i64 a0_3] 31 (0, 0)) z8_2_ hb); have _ := A_ (below_step z8_22_ hb); have _ := A_ (hbox); have _ := A_ ((by rw [hg]; exact (below_size z8_22_) : w.heap.size ≤ gb259)); have _ := A_ ((by rw [hg]; exact (below_size z8_22_) : w.heap.size ≤ gb259)); have _ := A_ ((by rw [hg]; exact Nat.ne_of_lt (blk_lt (g := gb258) (o := .cells #[.int .i64 a0_0, .int .i64 a0_1, .int .i64 a0_2, .int .i64 a0_3] 31 (0, 0)) z8_2_) : gb258 ≠ gb259)); have _ := A_ ((by rw [hg]; exact Nat.ne_of_gt (blk_lt (g := gb258) (o := .cells #[.int .i64 a0_0, .int .i64 a0_1, .int .i64 a0_2, .int .i64 a0_3] 31 (0, 0)) z8_2_) : gb259 ≠ gb258)); clear BK258 HB; rename_i BK258 HB BK259 GW259 GE259 NB258_259 NB259_258; clear hb hbox hg))
 (try simp only [Act.put, sA_, sB_, sC_])
 go_cut [21] (fun v21 wc => ∃ (kq : Nat) (x21_3 : Bool), v21 = .bool x21_3 ∧ Aside0 (impl_Moebius_run.j0 kq a2 x21_3 a0_0 a0_1 a0_2 a0_3 l1_0 l1_1 = some (r1, r2)) ∧ Aside0 (kq ≤ k) ∧ Aside0 (wc.heap[gb258]? = some (.cells #[.int .i64 a0_0, .int .i64 a0_1, .int .i64 a0_2, .int .i64 a0_3] 31 (0, 0))) ∧ Aside0 (wc.heap[gb259]? = some (.cells #[(.slice A1_0 l1_0.length c1_0), (.slice A1_1 l1_1.length c1_1)] 33 (0, 0))) ∧ Aside0 (Below w.heap.size w wc))
 case first =>
  have H := HC4.out
  clear HC4
  replace H := Option.bind_eq_some_iff.mp H
  obtain ⟨t260, A70, H⟩ := H
  try dsimp only at H
  have A7 := A_ A70
  clear A70
  by_cases c8 : t260 = true
  ·
   subst c8
   have H1 := H; rw [if_pos rfl] at H1
   clear H
   have H := H1
   clear H1
   replace H := Option.bind_eq_some_iff.mp H
   obtain ⟨t261, A90, H⟩ := H
   try dsimp only at H
   have A9 := A_ A90
   clear A90
   have H' := A_ H
   clear H
   have hnb10 := NB258_259.out
   have hnc10 := NB259_258.out
   obtain ⟨hcz11_0, hcz11_1, hcz11_2, hcz11_3⟩ := bc4 BK258.out
   obtain ⟨hfz11_0, hfz11_1, hfz11_2, hfz11_3⟩ := bf4 BK258.out
   go_wp2_with (first | ((with_reducible refine gate_callee (f := 33) rfl ?_); refine goesL_ (some 15) rfl rfl Try.func33 (by kernel_rfl) rfl #[.agg #[.int .i64 a0_0, .int .i64 a0_1, .int .i64 a0_2, .int .i64 a0_3]] rfl z8_3_ ?_; (with_reducible refine (impl_ValidMoebius.calls k a0_0 a0_1 a0_2 a0_3 true _ A7.out).mono ?_); rintro e w12 ⟨rfl, hb⟩; refine ⟨_, rfl, ?_⟩; have _ := A_ (blk_below (g := gb258) (o := .cells #[.int .i64 a0_0, .int .i64 a0_1, .int .i64 a0_2, .int .i64 a0_3] 31 (0, 0)) z8_2_ hb); have _ := A_ (blk_below (g := gb259) (o := .cells #[.slice A1_0 l1_0.length c1_0, .slice A1_1 l1_1.length c1_1] 33 (0, 0)) z8_4_ hb); have _ := A_ (below_step z8_5_ hb); clear BK258 BK259 HB; rename_i BK258 BK259 HB; (try clear hb); obtain ⟨hcz13_0, hcz13_1⟩ := bc2 BK259.out; obtain ⟨hfz13_0, hfz13_1⟩ := bf2 BK259.out) | (go_at_call 50; (with_reducible refine (impl_ValidStream.calls _ _ l1_0 _ _ l1_1 t261 _ ?side1 ?side2 ?side3 ?side4 A9.out).mono ?_); (case side1 => have hx_ := (Kd.C_below HR1_0.out HB.out); exact kc_); (case side2 => exact HC1_0.out); (case side3 => have hx_ := (Kd.C_below HR1_1.out HB.out); exact kc_); (case side4 => exact HC1_1.out); rintro e w14 ⟨rfl, hb⟩; have _ := A_ (blk_below (g := gb258) (o := .cells #[.int .i64 a0_0, .int .i64 a0_1, .int .i64 a0_2, .int .i64 a0_3] 31 (0, 0)) z8_2_ hb); have _ := A_ (blk_below (g := gb259) (o := .cells #[.slice A1_0 l1_0.length c1_0, .slice A1_1 l1_1.length c1_1] 33 (0, 0)) z8_4_ hb); have _ := A_ (below_step z8_5_ hb); clear BK258 BK259 HB; rename_i BK258 BK259 HB; (try clear hb)))
   go_meet
   case rel => exact ⟨_, (!t261), z8_16_, H', ⟨(by first | omega | exact Nat.le_refl _)⟩, ⟨z8_2_⟩, ⟨z8_4_⟩, ⟨z8_5_⟩⟩
  ·
   replace c8 := Bool.eq_false_iff.mpr c8
   subst c8
   have H1 := H; rw [if_neg (show ¬ (false = true) by decide)] at H1
   clear H
   have H := H1
   clear H1
   have H' := A_ H
   clear H
   have hnb15 := NB258_259.out
   have hnc15 := NB259_258.out
   obtain ⟨hcz16_0, hcz16_1, hcz16_2, hcz16_3⟩ := bc4 BK258.out
   obtain ⟨hfz16_0, hfz16_1, hfz16_2, hfz16_3⟩ := bf4 BK258.out
   go_wp2_with (first | ((with_reducible refine gate_callee (f := 33) rfl ?_); refine goesL_ (some 15) rfl rfl Try.func33 (by kernel_rfl) rfl #[.agg #[.int .i64 a0_0, .int .i64 a0_1, .int .i64 a0_2, .int .i64 a0_3]] rfl z8_3_ ?_; (with_reducible refine (impl_ValidMoebius.calls k a0_0 a0_1 a0_2 a0_3 false _ A7.out).mono ?_); rintro e w17 ⟨rfl, hb⟩; refine ⟨_, rfl, ?_⟩; have _ := A_ (blk_below (g := gb258) (o := .cells #[.int .i64 a0_0, .int .i64 a0_1, .int .i64 a0_2, .int .i64 a0_3] 31 (0, 0)) z8_2_ hb); have _ := A_ (blk_below (g := gb259) (o := .cells #[.slice A1_0 l1_0.length c1_0, .slice A1_1 l1_1.length c1_1] 33 (0, 0)) z8_4_ hb); have _ := A_ (below_step z8_5_ hb); clear BK258 BK259 HB; rename_i BK258 BK259 HB; (try clear hb)))
   go_meet
   case rel => exact ⟨_, (true), z8_16_, H', ⟨(by first | omega | exact Nat.le_refl _)⟩, ⟨z8_2_⟩, ⟨z8_4_⟩, ⟨z8_5_⟩⟩
 case rest =>
  clear HC4
  try clear c1
  try clear p2
  try clear c3
  try clear c4
  try clear c8
  try clear c10
  try clear c15
  try clear hcz11_0
  try clear hcz11_1
  try clear hcz11_2
  try clear hcz11_3
  try clear hcz13_0
  try clear hcz13_1
  try clear hcz16_0
  try clear hcz16_1
  try clear hcz16_2
  try clear hcz16_3
  try clear hfz11_0
  try clear hfz11_1
  try clear hfz11_2
  try clear hfz11_3
  try clear hfz13_0
  try clear hfz13_1
  try clear hfz16_0
  try clear hfz16_1
  try clear hfz16_2
  try clear hfz16_3
  obtain ⟨kq, x21_3, rfl, HA, HJ3, BK258, BK259, HB⟩ := hcut
  cases kq with
  | zero => exact absurd HA.out (by simp [impl_Moebius_run.j0])
  | succ kj3 =>
   have H := HA.out
   clear HA
   simp only [impl_Moebius_run.j0] at H
   by_cases c18 : x21_3 = true
   ·
    subst c18
    have H1 := H; rw [if_pos rfl] at H1
    clear H
    have H := H1
    clear H1
    simp only [Option.some.injEq, Prod.mk.injEq] at H
    obtain ⟨rfl, rfl⟩ := H
    go_wp2
    go_ret2
    exact ⟨_, z8_12_, z8_15_, z8_5_⟩
   ·
    replace c18 := Bool.eq_false_iff.mpr c18
    subst c18
    have H1 := H; rw [if_neg (show ¬ (false = true) by decide)] at H1
    clear H
    have H := H1
    clear H1
    replace H := Option.bind_eq_some_iff.mp H
    obtain ⟨t262, A190, H⟩ := H
    try dsimp only at H
    have A19 := A_ A190
    clear A190
    by_cases c20 : t262 = true
    ·
     subst c20
     have H1 := H; rw [if_pos rfl] at H1
     clear H
     have H := H1
     clear H1
     replace H := Option.bind_eq_some_iff.mp H
     obtain ⟨t263, A210, H⟩ := H
     try dsimp only at H
     have A21 := A_ A210
     clear A210
     by_cases c22 : t263 = true
     ·
      subst c22
      have H1 := H; rw [if_pos rfl] at H1
      clear H
      have H := H1
      clear H1
      obtain ⟨y264, hy264⟩ : ∃ y_ : List (S51), y_ = (([] : List (S51))) := ⟨_, rfl⟩
      replace H : ((impl_Moebius_reduced.f kj3 a0_0 a0_1 a0_2 a0_3).bind fun bt267 => (impl_Moebius_run.l0 kj3 a2 y264 0 0 l1_0 l1_1 bt267.1 bt267.2.1 bt267.2.2.1 bt267.2.2.2)) = some (r1, r2) := by first | (rw [hy264]; with_reducible exact H) | (have H2_ := (Option.bind_some _ _).symm.trans H; rw [hy264]; with_reducible exact H2_) | (have H2_ := (Option.bind_some _ _).symm.trans H; with_reducible exact H2_) | with_reducible exact H | (rw [hy264]; exact H) | exact H
      have Ny264 := A_ hy264
      clear hy264
      replace H := Option.bind_eq_some_iff.mp H
      obtain ⟨⟨t267, t268, t269, t270⟩, A230, H⟩ := H
      try dsimp only at H
      have A23 := A_ A230
      clear A230
      have H' := A_ H
      clear H
      go_wp2_with (first | ((with_reducible refine gate_callee (f := 51) rfl ?_); refine goesL_ (some 23) rfl rfl Try.func51 (by kernel_rfl) rfl #[.int .i64 a2, .int .i64 0, .int .i64 60] rfl z8_3_ ?_; (with_reducible refine (impl_within.calls a2 0 60 true _ A19.out).mono ?_); rintro e w' ⟨rfl, ⟨nd, rfl⟩⟩; refine ⟨_, rfl, ?_⟩; (try (rw [drewN_self wc]; generalize hq_ : World.drewN wc _ = wc; have n0_ : Aside0 (wc.heap[gb258]? = some (.cells #[.int .i64 a0_0, .int .i64 a0_1, .int .i64 a0_2, .int .i64 a0_3] 31 (0, 0))) := ⟨(by rw [← hq_]; exact z8_2_)⟩; have n1_ : Aside0 (wc.heap[gb259]? = some (.cells #[.slice A1_0 l1_0.length c1_0, .slice A1_1 l1_1.length c1_1] 33 (0, 0))) := ⟨(by rw [← hq_]; exact z8_4_)⟩; have n2_ : Aside0 (Below w.heap.size w wc) := ⟨(by rw [← hq_]; exact z8_5_)⟩; clear BK258 BK259 HB hq_; have BK258 := n0_; have BK259 := n1_; have HB := n2_; clear n0_ n1_ n2_)); have hnb24 := NB258_259.out; have hnc24 := NB259_258.out; obtain ⟨hcz25_0, hcz25_1, hcz25_2, hcz25_3⟩ := bc4 BK258.out; obtain ⟨hfz25_0, hfz25_1, hfz25_2, hfz25_3⟩ := bf4 BK258.out) | ((with_reducible refine gate_callee (f := 74) rfl ?_); refine goesL_ (some 26) rfl rfl Try.func74 (by kernel_rfl) rfl #[.agg #[.int .i64 a0_0, .int .i64 a0_1, .int .i64 a0_2, .int .i64 a0_3], .int .i64 (-2), .int .i64 2] rfl z8_3_ ?_; (with_reducible refine (impl_Moebius_lies.calls kj3 a0_0 a0_1 a0_2 a0_3 (-2) 2 true _ A21.out).mono ?_); rintro e w26 ⟨rfl, hb⟩; refine ⟨_, rfl, ?_⟩; have _ := A_ (blk_below (g := gb258) (o := .cells #[.int .i64 a0_0, .int .i64 a0_1, .int .i64 a0_2, .int .i64 a0_3] 31 (0, 0)) z8_2_ hb); have _ := A_ (blk_below (g := gb259) (o := .cells #[.slice A1_0 l1_0.length c1_0, .slice A1_1 l1_1.length c1_1] 33 (0, 0)) z8_4_ hb); have _ := A_ (below_step z8_5_ hb); clear BK258 BK259 HB; rename_i BK258 BK259 HB; (try clear hb)) | ((with_reducible refine gate_dst (N := 28) rfl ?_); refine Kd.R_lit k51 _ 51 ?hg (N := 28) ?hd (xs := ([] : List (S51))) (inner := []) (ok := fun _ => True) (okp := fun _ => True) ?hr ?hp (fun _ hk => hk) trivial (Below.refl _ _) (Nat.le_refl _) (by simp) ?_; (case hd => rfl); (case hg => rfl); (case hr => first | (go_simp; done) | (go_simp; rfl)); (case hp => exact (Reps.none _ _)); intro v265 w27 ho28 hb hg_ hnew_; clear hg_ hnew_; (first | rw [← Ny264.out] at ho28 | (simp only [Int.reduceToNat] at ho28; rw [← Ny264.out] at ho28)); have _ := A_ (Kd.R_lower ho28 (below_size z8_5_)); have _ := A_ (blk_below (g := gb258) (o := .cells #[.int .i64 a0_0, .int .i64 a0_1, .int .i64 a0_2, .int .i64 a0_3] 31 (0, 0)) z8_2_ hb); have _ := A_ (blk_below (g := gb259) (o := .cells #[.slice A1_0 l1_0.length c1_0, .slice A1_1 l1_1.length c1_1] 33 (0, 0)) z8_4_ hb); have _ := A_ (below_step z8_5_ hb); clear BK258 BK259 HB; rename_i HO266 BK258 BK259 HB; clear hb ho28; obtain ⟨hcz29_0, hcz29_1, hcz29_2, hcz29_3⟩ := bc4 BK258.out; obtain ⟨hfz29_0, hfz29_1, hfz29_2, hfz29_3⟩ := bf4 BK258.out) | ((with_reducible refine gate_callee (f := 65) rfl ?_); refine goesL_ (some 30) rfl rfl Try.func65 (by kernel_rfl) rfl #[.agg #[.int .i64 a0_0, .int .i64 a0_1, .int .i64 a0_2, .int .i64 a0_3]] rfl z8_3_ ?_; (with_reducible refine (impl_Moebius_reduced.calls kj3 a0_0 a0_1 a0_2 a0_3 t267 t268 t269 t270 _ A23.out).mono ?_); rintro e w30 ⟨rfl, hb⟩; refine ⟨_, rfl, ?_⟩; have _ := A_ (Kd.R_below z8_24_ hb); have _ := A_ (blk_below (g := gb258) (o := .cells #[.int .i64 a0_0, .int .i64 a0_1, .int .i64 a0_2, .int .i64 a0_3] 31 (0, 0)) z8_2_ hb); have _ := A_ (blk_below (g := gb259) (o := .cells #[.slice A1_0 l1_0.length c1_0, .slice A1_1 l1_1.length c1_1] 33 (0, 0)) z8_4_ hb); have _ := A_ (below_step z8_5_ hb); clear HO266 BK258 BK259 HB; rename_i HO266 BK258 BK259 HB; (try clear hb)) | ((with_reducible refine gate_dst (N := 9) rfl ?_); refine box_event ?hg (N := 9) ?hd (cs := #[.int .i64 0, .int .i64 0, .int .i64 0, .int .i64 0]) (t := 31) ?hr ?_; (case hd => rfl); (case hg => rfl); (case hr => first | (go_simp; done) | (go_simp; rfl)); intro gb271 hg w31 hbox hb; have _ := A_ (Kd.R_below z8_24_ hb); have _ := A_ (blk_below (g := gb258) (o := .cells #[.int .i64 a0_0, .int .i64 a0_1, .int .i64 a0_2, .int .i64 a0_3] 31 (0, 0)) z8_2_ hb); have _ := A_ (blk_below (g := gb259) (o := .cells #[.slice A1_0 l1_0.length c1_0, .slice A1_1 l1_1.length c1_1] 33 (0, 0)) z8_4_ hb); have _ := A_ (below_step z8_5_ hb); have _ := A_ (hbox); have _ := A_ ((by rw [hg]; exact (below_size z8_5_) : w.heap.size ≤ gb271)); have _ := A_ ((by rw [hg]; exact (below_size z8_5_) : w.heap.size ≤ gb271)); have _ := A_ ((by rw [hg]; exact Nat.ne_of_lt (blk_lt (g := gb258) (o := .cells #[.int .i64 a0_0, .int .i64 a0_1, .int .i64 a0_2, .int .i64 a0_3] 31 (0, 0)) z8_2_) : gb258 ≠ gb271)); have _ := A_ ((by rw [hg]; exact Nat.ne_of_gt (blk_lt (g := gb258) (o := .cells #[.int .i64 a0_0, .int .i64 a0_1, .int .i64 a0_2, .int .i64 a0_3] 31 (0, 0)) z8_2_) : gb271 ≠ gb258)); have _ := A_ ((by rw [hg]; exact Nat.ne_of_lt (blk_lt (g := gb259) (o := .cells #[.slice A1_0 l1_0.length c1_0, .slice A1_1 l1_1.length c1_1] 33 (0, 0)) z8_4_) : gb259 ≠ gb271)); have _ := A_ ((by rw [hg]; exact Nat.ne_of_gt (blk_lt (g := gb259) (o := .cells #[.slice A1_0 l1_0.length c1_0, .slice A1_1 l1_1.length c1_1] 33 (0, 0)) z8_4_) : gb271 ≠ gb259)); clear HO266 BK258 BK259 HB; rename_i HO266 BK258 BK259 HB BK271 GW271 GE271 NB258_271 NB271_258 NB259_271 NB271_259; clear hb hbox hg; have hnb32 := NB271_258.out; have hnc32 := NB258_271.out; have hnb33 := NB271_259.out; have hnc33 := NB259_271.out; obtain ⟨hcz34_0, hcz34_1, hcz34_2, hcz34_3⟩ := bc4 BK271.out; obtain ⟨hfz34_0, hfz34_1, hfz34_2, hfz34_3⟩ := bf4 BK271.out))
      go_loopg [8, 10, 11] kj3 (fun kq v8 v10 v11 w' => ∃ (x8_2 : List (S51)) (x10_2 : Int) (x11_2 : Int) (x272000_2 : Int) (x272001_2 : Int) (x272002_2 : Int) (x272003_2 : Int), v10 = .int .i64 x10_2 ∧ v11 = .int .i64 x11_2 ∧ Aside0 (impl_Moebius_run.l0 kq a2 x8_2 x10_2 x11_2 l1_0 l1_1 x272000_2 x272001_2 x272002_2 x272003_2 = some (r1, r2)) ∧ Aside0 (kq ≤ kj3) ∧ Aside0 (Kd.R k51 51 w' w.heap.size (fun _ => True) v8 x8_2) ∧ Aside0 (w'.heap[gb258]? = some (.cells #[.int .i64 a0_0, .int .i64 a0_1, .int .i64 a0_2, .int .i64 a0_3] 31 (0, 0))) ∧ Aside0 (w'.heap[gb259]? = some (.cells #[(.slice A1_0 l1_0.length c1_0), (.slice A1_1 l1_1.length c1_1)] 33 (0, 0))) ∧ Aside0 (w'.heap[gb271]? = some (.cells #[.int .i64 x272000_2, .int .i64 x272001_2, .int .i64 x272002_2, .int .i64 x272003_2] 31 (0, 0))) ∧ Aside0 (Below w.heap.size w w'))
      case atStart => exact ⟨(y264), (0), (0), (t267), (t268), (t269), (t270), z8_16_, z8_16_, H', ⟨Nat.le_refl _⟩, ⟨(by (with_reducible repeat (first | apply Kd.R_alloc | apply Kd.R_drewN | apply Kd.R_drew)); exact Kd.R_mono (Kd.R_far (p := ⟨gb271, 3, none⟩) (Kd.R_far (p := ⟨gb271, 2, none⟩) (Kd.R_far (p := ⟨gb271, 1, none⟩) (Kd.R_far (p := ⟨gb271, 0, none⟩) (Kd.R_types HO266.out BK271.out (by decide)) (fun _ hk => hk.2) (.int .i64 t267)) (fun _ hk => hk.2) (.int .i64 t268)) (fun _ hk => hk.2) (.int .i64 t269)) (fun _ hk => hk.2) (.int .i64 t270)) (fun _ hk => trivial))⟩, ⟨z8_7_⟩, ⟨z8_6_⟩, ⟨(by (with_reducible repeat (first | refine blk_drewN ?_ _ | refine blk_drew ?_ | refine blk_alloc ?_ _)); refine blk_put (cs := #[.int .i64 t267, .int .i64 t268, .int .i64 t269, .int .i64 0]) ?_ 3 _ rfl; (with_reducible repeat (first | refine blk_drewN ?_ _ | refine blk_drew ?_ | refine blk_alloc ?_ _)); refine blk_put (cs := #[.int .i64 t267, .int .i64 t268, .int .i64 0, .int .i64 0]) ?_ 2 _ rfl; (with_reducible repeat (first | refine blk_drewN ?_ _ | refine blk_drew ?_ | refine blk_alloc ?_ _)); refine blk_put (cs := #[.int .i64 t267, .int .i64 0, .int .i64 0, .int .i64 0]) ?_ 1 _ rfl; (with_reducible repeat (first | refine blk_drewN ?_ _ | refine blk_drew ?_ | refine blk_alloc ?_ _)); refine blk_put (cs := #[.int .i64 0, .int .i64 0, .int .i64 0, .int .i64 0]) ?_ 0 _ rfl; (with_reducible repeat (first | refine blk_drewN ?_ _ | refine blk_drew ?_ | refine blk_alloc ?_ _)); exact BK271.out)⟩, ⟨z8_1_⟩⟩
      case round =>
       clear H'
       try clear c1
       try clear c2
       try clear p2
       try clear c3
       try clear c4
       try clear c5
       try clear c6
       try clear c7
       try clear c8
       try clear c10
       try clear c15
       try clear c18
       try clear c20
       try clear c22
       try clear c24
       try clear c32
       try clear c33
       try clear hcz11_0
       try clear hcz11_1
       try clear hcz11_2
       try clear hcz11_3
       try clear hcz13_0
       try clear hcz13_1
       try clear hcz16_0
       try clear hcz16_1
       try clear hcz16_2
       try clear hcz16_3
       try clear hcz25_0
       try clear hcz25_1
       try clear hcz25_2
       try clear hcz25_3
       try clear hcz29_0
       try clear hcz29_1
       try clear hcz29_2
       try clear hcz29_3
       try clear hcz34_0
       try clear hcz34_1
       try clear hcz34_2
       try clear hcz34_3
       try clear hfz11_0
       try clear hfz11_1
       try clear hfz11_2
       try clear hfz11_3
       try clear hfz13_0
       try clear hfz13_1
       try clear hfz16_0
       try clear hfz16_1
       try clear hfz16_2
       try clear hfz16_3
       try clear hfz25_0
       try clear hfz25_1
       try clear hfz25_2
       try clear hfz25_3
       try clear hfz29_0
       try clear hfz29_1
       try clear hfz29_2
       try clear hfz29_3
       try clear hfz34_0
       try clear hfz34_1
       try clear hfz34_2
       try clear hfz34_3
       try clear p2
       obtain ⟨x8_2, x10_2, x11_2, x272000_2, x272001_2, x272002_2, x272003_2, rfl, rfl, HA, HK2, HO_8, BK258, BK259, BK271, HB⟩ := hrel
       cases gk with
       | zero => exact absurd HA.out (by simp [impl_Moebius_run.l0])
       | succ k2 =>
        have H := HA.out
        clear HA
        simp only [impl_Moebius_run.l0] at H
        by_cases c35 : x11_2 < a2
        ·
         rw [if_pos c35] at H
         have c35b0 := decide_eq_true c35
         clear c35
         replace H := Option.bind_eq_some_iff.mp H
         obtain ⟨⟨t272, t273⟩, A360, H⟩ := H
         try dsimp only at H
         have A36 := A_ A360
         clear A360
         by_cases c37 : t273 = true
         ·
          subst c37
          have H1 := H; rw [if_pos rfl] at H1
          clear H
          have H := H1
          clear H1
          replace H := Option.bind_eq_some_iff.mp H
          obtain ⟨⟨t274, t275, t276, t277⟩, A380, H⟩ := H
          try dsimp only at H
          have A38 := A_ A380
          clear A380
          replace H := Option.bind_eq_some_iff.mp H
          obtain ⟨t278, A390, H⟩ := H
          try dsimp only at H
          have A39 := A_ A390
          clear A390
          by_cases c40 : t278 > 288230376151711744
          ·
           rw [if_pos c40] at H
           have c40b0 := decide_eq_true c40
           clear c40
           simp only [Option.some.injEq, Prod.mk.injEq] at H
           obtain ⟨rfl, rfl⟩ := H
           have hnb41 := NB271_258.out
           have hnc41 := NB258_271.out
           have hnb42 := NB271_259.out
           have hnc42 := NB259_271.out
           obtain ⟨hcz43_0, hcz43_1, hcz43_2, hcz43_3⟩ := bc4 BK271.out
           obtain ⟨hfz43_0, hfz43_1, hfz43_2, hfz43_3⟩ := bf4 BK271.out
           go_wp2_with (first | ((with_reducible refine gate_callee (f := 75) rfl ?_); refine goesL_ (some 36) rfl rfl Try.func75 (by kernel_rfl) rfl #[.agg #[.int .i64 x272000_2, .int .i64 x272001_2, .int .i64 x272002_2, .int .i64 x272003_2]] rfl z8_3_ ?_; (with_reducible refine (impl_Moebius_tells.calls k2 x272000_2 x272001_2 x272002_2 x272003_2 t272 true _ A36.out).mono ?_); rintro e w44 ⟨rfl, hb⟩; refine ⟨_, rfl, ?_⟩; have _ := A_ (Kd.R_below z8_10_ hb); have _ := A_ (blk_below (g := gb258) (o := .cells #[.int .i64 a0_0, .int .i64 a0_1, .int .i64 a0_2, .int .i64 a0_3] 31 (0, 0)) z8_2_ hb); have _ := A_ (blk_below (g := gb259) (o := .cells #[.slice A1_0 l1_0.length c1_0, .slice A1_1 l1_1.length c1_1] 33 (0, 0)) z8_4_ hb); have _ := A_ (blk_below (g := gb271) (o := .cells #[.int .i64 x272000_2, .int .i64 x272001_2, .int .i64 x272002_2, .int .i64 x272003_2] 31 (0, 0)) z8_9_ hb); have _ := A_ (below_step z8_1_ hb); clear HO_8 BK258 BK259 BK271 HB; rename_i HO_8 BK258 BK259 BK271 HB; (try clear hb); obtain ⟨hcz45_0, hcz45_1, hcz45_2, hcz45_3⟩ := bc4 BK271.out; obtain ⟨hfz45_0, hfz45_1, hfz45_2, hfz45_3⟩ := bf4 BK271.out) | ((with_reducible refine gate_callee (f := 76) rfl ?_); refine goesL_ (some 42) rfl rfl Try.func76 (by kernel_rfl) rfl #[.agg #[.int .i64 x272000_2, .int .i64 x272001_2, .int .i64 x272002_2, .int .i64 x272003_2], .int .i8 t272] rfl z8_3_ ?_; (with_reducible refine (impl_Moebius_behind.calls k2 x272000_2 x272001_2 x272002_2 x272003_2 t272 t274 t275 t276 t277 _ A38.out).mono ?_); rintro e w46 ⟨rfl, hb⟩; refine ⟨_, rfl, ?_⟩; have _ := A_ (Kd.R_below z8_10_ hb); have _ := A_ (blk_below (g := gb258) (o := .cells #[.int .i64 a0_0, .int .i64 a0_1, .int .i64 a0_2, .int .i64 a0_3] 31 (0, 0)) z8_2_ hb); have _ := A_ (blk_below (g := gb259) (o := .cells #[.slice A1_0 l1_0.length c1_0, .slice A1_1 l1_1.length c1_1] 33 (0, 0)) z8_4_ hb); have _ := A_ (blk_below (g := gb271) (o := .cells #[.int .i64 x272000_2, .int .i64 x272001_2, .int .i64 x272002_2, .int .i64 x272003_2] 31 (0, 0)) z8_9_ hb); have _ := A_ (below_step z8_1_ hb); clear HO_8 BK258 BK259 BK271 HB; rename_i HO_8 BK258 BK259 BK271 HB; (try clear hb); obtain ⟨hcz47_0, hcz47_1, hcz47_2, hcz47_3⟩ := bc4 BK271.out; obtain ⟨hfz47_0, hfz47_1, hfz47_2, hfz47_3⟩ := bf4 BK271.out) | ((with_reducible refine gate_callee (f := 66) rfl ?_); refine goesL_ (some 56) rfl rfl Try.func66 (by kernel_rfl) rfl #[.agg #[.int .i64 t274, .int .i64 t275, .int .i64 t276, .int .i64 t277]] rfl z8_3_ ?_; (with_reducible refine (impl_Moebius_largest.calls t274 t275 t276 t277 t278 _ A39.out).mono ?_); rintro e w48 ⟨rfl, hb⟩; refine ⟨_, rfl, ?_⟩; have _ := A_ (Kd.R_below z8_18_ hb); have _ := A_ (blk_below (g := gb258) (o := .cells #[.int .i64 a0_0, .int .i64 a0_1, .int .i64 a0_2, .int .i64 a0_3] 31 (0, 0)) z8_7_ hb); have _ := A_ (blk_below (g := gb259) (o := .cells #[.slice A1_0 l1_0.length c1_0, .slice A1_1 l1_1.length c1_1] 33 (0, 0)) z8_6_ hb); have _ := A_ (blk_below (g := gb271) (o := .cells #[.int .i64 t274, .int .i64 t275, .int .i64 t276, .int .i64 t277] 31 (0, 0)) z8_14_ hb); have _ := A_ (below_step z8_1_ hb); clear HO_8 BK258 BK259 BK271 HB; rename_i HO_8 BK258 BK259 BK271 HB; (try clear hb)))
           go_ret2
           exact ⟨_, z8_12_, z8_15_, z8_1_⟩
          ·
           rw [if_neg c40] at H
           have c40b0 := decide_eq_false c40
           clear c40
           by_cases c49 : x8_2.length < 3518437208883
           ·
            rw [if_pos c49] at H
            have LMc49 := A_ c49
            clear c49
            obtain ⟨y279, hy279⟩ : ∃ y_ : List (S51), y_ = (x8_2 ++ [(⟨true, t272, (⟨t274, t275, t276, t277⟩ : S31)⟩ : S51)]) := ⟨_, rfl⟩
            replace H : (impl_Moebius_run.l0 k2 a2 y279 x10_2 (wrap64 (x11_2 + 1)) l1_0 l1_1 t274 t275 t276 t277) = some (r1, r2) := by first | (rw [hy279]; with_reducible exact H) | (have H2_ := (Option.bind_some _ _).symm.trans H; rw [hy279]; with_reducible exact H2_) | (have H2_ := (Option.bind_some _ _).symm.trans H; with_reducible exact H2_) | with_reducible exact H | (rw [hy279]; exact H) | exact H
            have Ny279 := A_ hy279
            clear hy279
            have H' := A_ H
            clear H
            have hnb50 := NB271_258.out
            have hnc50 := NB258_271.out
            have hnb51 := NB271_259.out
            have hnc51 := NB259_271.out
            obtain ⟨hcz52_0, hcz52_1, hcz52_2, hcz52_3⟩ := bc4 BK271.out
            obtain ⟨hfz52_0, hfz52_1, hfz52_2, hfz52_3⟩ := bf4 BK271.out
            go_wp2_with (first | ((with_reducible refine gate_callee (f := 75) rfl ?_); refine goesL_ (some 36) rfl rfl Try.func75 (by kernel_rfl) rfl #[.agg #[.int .i64 x272000_2, .int .i64 x272001_2, .int .i64 x272002_2, .int .i64 x272003_2]] rfl z8_3_ ?_; (with_reducible refine (impl_Moebius_tells.calls k2 x272000_2 x272001_2 x272002_2 x272003_2 t272 true _ A36.out).mono ?_); rintro e w53 ⟨rfl, hb⟩; refine ⟨_, rfl, ?_⟩; have _ := A_ (Kd.R_below z8_10_ hb); have _ := A_ (blk_below (g := gb258) (o := .cells #[.int .i64 a0_0, .int .i64 a0_1, .int .i64 a0_2, .int .i64 a0_3] 31 (0, 0)) z8_2_ hb); have _ := A_ (blk_below (g := gb259) (o := .cells #[.slice A1_0 l1_0.length c1_0, .slice A1_1 l1_1.length c1_1] 33 (0, 0)) z8_4_ hb); have _ := A_ (blk_below (g := gb271) (o := .cells #[.int .i64 x272000_2, .int .i64 x272001_2, .int .i64 x272002_2, .int .i64 x272003_2] 31 (0, 0)) z8_9_ hb); have _ := A_ (below_step z8_1_ hb); clear HO_8 BK258 BK259 BK271 HB; rename_i HO_8 BK258 BK259 BK271 HB; (try clear hb); obtain ⟨hcz54_0, hcz54_1, hcz54_2, hcz54_3⟩ := bc4 BK271.out; obtain ⟨hfz54_0, hfz54_1, hfz54_2, hfz54_3⟩ := bf4 BK271.out) | ((with_reducible refine gate_callee (f := 76) rfl ?_); refine goesL_ (some 42) rfl rfl Try.func76 (by kernel_rfl) rfl #[.agg #[.int .i64 x272000_2, .int .i64 x272001_2, .int .i64 x272002_2, .int .i64 x272003_2], .int .i8 t272] rfl z8_3_ ?_; (with_reducible refine (impl_Moebius_behind.calls k2 x272000_2 x272001_2 x272002_2 x272003_2 t272 t274 t275 t276 t277 _ A38.out).mono ?_); rintro e w55 ⟨rfl, hb⟩; refine ⟨_, rfl, ?_⟩; have _ := A_ (Kd.R_below z8_10_ hb); have _ := A_ (blk_below (g := gb258) (o := .cells #[.int .i64 a0_0, .int .i64 a0_1, .int .i64 a0_2, .int .i64 a0_3] 31 (0, 0)) z8_2_ hb); have _ := A_ (blk_below (g := gb259) (o := .cells #[.slice A1_0 l1_0.length c1_0, .slice A1_1 l1_1.length c1_1] 33 (0, 0)) z8_4_ hb); have _ := A_ (blk_below (g := gb271) (o := .cells #[.int .i64 x272000_2, .int .i64 x272001_2, .int .i64 x272002_2, .int .i64 x272003_2] 31 (0, 0)) z8_9_ hb); have _ := A_ (below_step z8_1_ hb); clear HO_8 BK258 BK259 BK271 HB; rename_i HO_8 BK258 BK259 BK271 HB; (try clear hb); obtain ⟨hcz56_0, hcz56_1, hcz56_2, hcz56_3⟩ := bc4 BK271.out; obtain ⟨hfz56_0, hfz56_1, hfz56_2, hfz56_3⟩ := bf4 BK271.out) | ((with_reducible refine gate_callee (f := 66) rfl ?_); refine goesL_ (some 56) rfl rfl Try.func66 (by kernel_rfl) rfl #[.agg #[.int .i64 t274, .int .i64 t275, .int .i64 t276, .int .i64 t277]] rfl z8_3_ ?_; (with_reducible refine (impl_Moebius_largest.calls t274 t275 t276 t277 t278 _ A39.out).mono ?_); rintro e w57 ⟨rfl, hb⟩; refine ⟨_, rfl, ?_⟩; have _ := A_ (Kd.R_below z8_18_ hb); have _ := A_ (blk_below (g := gb258) (o := .cells #[.int .i64 a0_0, .int .i64 a0_1, .int .i64 a0_2, .int .i64 a0_3] 31 (0, 0)) z8_7_ hb); have _ := A_ (blk_below (g := gb259) (o := .cells #[.slice A1_0 l1_0.length c1_0, .slice A1_1 l1_1.length c1_1] 33 (0, 0)) z8_6_ hb); have _ := A_ (blk_below (g := gb271) (o := .cells #[.int .i64 t274, .int .i64 t275, .int .i64 t276, .int .i64 t277] 31 (0, 0)) z8_14_ hb); have _ := A_ (below_step z8_1_ hb); clear HO_8 BK258 BK259 BK271 HB; rename_i HO_8 BK258 BK259 BK271 HB; (try clear hb); obtain ⟨hcz58_0, hcz58_1, hcz58_2, hcz58_3⟩ := bc4 BK271.out; obtain ⟨hfz58_0, hfz58_1, hfz58_2, hfz58_3⟩ := bf4 BK271.out) | ((with_reducible refine gate_builtin (b := .append) (xs := #[.tmp 58, .tmp 63]) rfl ?_); at_builtin; refine Kd.R_append k51 (w0 := w) w.heap.size rfl (.tmp 58) (.tmp 63) 28 51 (.agg #[(.bool false), (.int .i8 0), (.int .i64 0), (.int .i64 0), (.int .i64 0), (.int .i64 0)]) 40 rfl Try.underlying28 info51 rfl (by decide) (by omega) u8 x8_2 (⟨true, t272, (⟨t274, t275, t276, t277⟩ : S31)⟩ : S51) [.bool true, .int .i8 t272, .int .i64 t274, .int .i64 t275, .int .i64 t276, .int .i64 t277] (fun _ => True) (fun _ => False) rfl rfl ?aP (fun _ hk => hk.elim) ?aF ?aO ?aB ?aS ?aL ?_; (case aP => exact k51_mkM _ _ _ (⟨true, t272, (⟨t274, t275, t276, t277⟩ : S31)⟩ : S51)); (case aB => exact z8_1_); (case aF => exact (fun _ _ => trivial)); (case aO => exact z8_10_); (case aS => exact (below_size z8_1_)); (case aL => have := LMc49.out; omega); intro v280 w59 ho hb hg hat; rw [← Ny279.out] at ho; have _ := A_ (blk_grown (g := gb258) (o := .cells #[.int .i64 a0_0, .int .i64 a0_1, .int .i64 a0_2, .int .i64 a0_3] 31 (0, 0)) z8_2_ hg (Kd.R_ne HO_8.out BK258.out (by decide))); have _ := A_ (blk_grown (g := gb259) (o := .cells #[.slice A1_0 l1_0.length c1_0, .slice A1_1 l1_1.length c1_1] 33 (0, 0)) z8_4_ hg (Kd.R_ne HO_8.out BK259.out (by decide))); have _ := A_ (blk_grown (g := gb271) (o := .cells #[.int .i64 t274, .int .i64 t275, .int .i64 t276, .int .i64 t277] 31 (0, 0)) z8_9_ hg (Kd.R_ne HO_8.out BK271.out (by decide))); have _ := A_ (hb); have _ := A_ (ho); clear BK258 BK259 BK271 HB HO_8; rename_i BK258 BK259 BK271 HB HO281; clear ho hb hg hat))
            go_roundg k2
            case measure => have := HJ3.out; have := HK2.out; omega
            case rel => exact ⟨(y279), (x10_2), (wrap64 (x11_2 + 1)), (t274), (t275), (t276), (t277), z8_16_, z8_16_, H', ⟨(by have := HJ3.out; have := HK2.out; omega)⟩, ⟨(by (with_reducible repeat (first | apply Kd.R_alloc | apply Kd.R_drewN | apply Kd.R_drew)); exact HO281.out)⟩, ⟨z8_2_⟩, ⟨z8_4_⟩, ⟨z8_9_⟩, ⟨z8_1_⟩⟩
           ·
            rw [if_neg c49] at H
            exact absurd H (by simp)
         ·
          replace c37 := Bool.eq_false_iff.mpr c37
          subst c37
          have H1 := H; rw [if_neg (show ¬ (false = true) by decide)] at H1
          clear H
          have H := H1
          clear H1
          by_cases c60 : x10_2 = 400
          ·
           rw [if_pos c60] at H
           have c60b0 := beq_iff_eq.mpr c60
           have c60b1 := bne_eq_false_iff_eq.mpr c60
           clear c60
           simp only [Option.some.injEq, Prod.mk.injEq] at H
           obtain ⟨rfl, rfl⟩ := H
           have hnb61 := NB271_258.out
           have hnc61 := NB258_271.out
           have hnb62 := NB271_259.out
           have hnc62 := NB259_271.out
           obtain ⟨hcz63_0, hcz63_1, hcz63_2, hcz63_3⟩ := bc4 BK271.out
           obtain ⟨hfz63_0, hfz63_1, hfz63_2, hfz63_3⟩ := bf4 BK271.out
           go_wp2_with (first | ((with_reducible refine gate_callee (f := 75) rfl ?_); refine goesL_ (some 36) rfl rfl Try.func75 (by kernel_rfl) rfl #[.agg #[.int .i64 x272000_2, .int .i64 x272001_2, .int .i64 x272002_2, .int .i64 x272003_2]] rfl z8_3_ ?_; (with_reducible refine (impl_Moebius_tells.calls k2 x272000_2 x272001_2 x272002_2 x272003_2 t272 false _ A36.out).mono ?_); rintro e w64 ⟨rfl, hb⟩; refine ⟨_, rfl, ?_⟩; have _ := A_ (Kd.R_below z8_10_ hb); have _ := A_ (blk_below (g := gb258) (o := .cells #[.int .i64 a0_0, .int .i64 a0_1, .int .i64 a0_2, .int .i64 a0_3] 31 (0, 0)) z8_2_ hb); have _ := A_ (blk_below (g := gb259) (o := .cells #[.slice A1_0 l1_0.length c1_0, .slice A1_1 l1_1.length c1_1] 33 (0, 0)) z8_4_ hb); have _ := A_ (blk_below (g := gb271) (o := .cells #[.int .i64 x272000_2, .int .i64 x272001_2, .int .i64 x272002_2, .int .i64 x272003_2] 31 (0, 0)) z8_9_ hb); have _ := A_ (below_step z8_1_ hb); clear HO_8 BK258 BK259 BK271 HB; rename_i HO_8 BK258 BK259 BK271 HB; (try clear hb)))
           go_ret2
           exact ⟨_, z8_12_, z8_15_, z8_1_⟩
          ·
           rw [if_neg c60] at H
           have c60b0 : (x10_2 == 400) = false := beq_eq_false_iff_ne.mpr c60
           have c60b1 : (x10_2 != 400) = true := bne_iff_ne.mpr c60
           replace H := Option.bind_eq_some_iff.mp H
           obtain ⟨t282, A650, H⟩ := H
           try dsimp only at H
           have A65 := A_ A650
           clear A650
           replace H := Option.bind_eq_some_iff.mp H
           obtain ⟨⟨t283, t284, t285, t286⟩, A660, H⟩ := H
           try dsimp only at H
           have A66 := A_ A660
           clear A660
           replace H := Option.bind_eq_some_iff.mp H
           obtain ⟨t287, A670, H⟩ := H
           try dsimp only at H
           have A67 := A_ A670
           clear A670
           by_cases c68 : t287 > 288230376151711744
           ·
            rw [if_pos c68] at H
            have c68b0 := decide_eq_true c68
            clear c68
            simp only [Option.some.injEq, Prod.mk.injEq] at H
            obtain ⟨rfl, rfl⟩ := H
            have hnb69 := NB271_258.out
            have hnc69 := NB258_271.out
            have hnb70 := NB271_259.out
            have hnc70 := NB259_271.out
            obtain ⟨hcz71_0, hcz71_1, hcz71_2, hcz71_3⟩ := bc4 BK271.out
            obtain ⟨hfz71_0, hfz71_1, hfz71_2, hfz71_3⟩ := bf4 BK271.out
            go_wp2_with (first | ((with_reducible refine gate_callee (f := 75) rfl ?_); refine goesL_ (some 36) rfl rfl Try.func75 (by kernel_rfl) rfl #[.agg #[.int .i64 x272000_2, .int .i64 x272001_2, .int .i64 x272002_2, .int .i64 x272003_2]] rfl z8_3_ ?_; (with_reducible refine (impl_Moebius_tells.calls k2 x272000_2 x272001_2 x272002_2 x272003_2 t272 false _ A36.out).mono ?_); rintro e w72 ⟨rfl, hb⟩; refine ⟨_, rfl, ?_⟩; have _ := A_ (Kd.R_below z8_10_ hb); have _ := A_ (blk_below (g := gb258) (o := .cells #[.int .i64 a0_0, .int .i64 a0_1, .int .i64 a0_2, .int .i64 a0_3] 31 (0, 0)) z8_2_ hb); have _ := A_ (blk_below (g := gb259) (o := .cells #[.slice A1_0 l1_0.length c1_0, .slice A1_1 l1_1.length c1_1] 33 (0, 0)) z8_4_ hb); have _ := A_ (blk_below (g := gb271) (o := .cells #[.int .i64 x272000_2, .int .i64 x272001_2, .int .i64 x272002_2, .int .i64 x272003_2] 31 (0, 0)) z8_9_ hb); have _ := A_ (below_step z8_1_ hb); clear HO_8 BK258 BK259 BK271 HB; rename_i HO_8 BK258 BK259 BK271 HB; (try clear hb); have hnb73 := NB259_258.out; have hnc73 := NB258_259.out; obtain ⟨hcz74_0, hcz74_1⟩ := bc2 BK259.out; obtain ⟨hfz74_0, hfz74_1⟩ := bf2 BK259.out) | ((with_reducible refine gate_callee (f := 52) rfl ?_); refine goesL_ (some 49) rfl rfl Try.func52 (by kernel_rfl) rfl #[.agg #[.slice A1_0 l1_0.length c1_0, .slice A1_1 l1_1.length c1_1], .int .i64 x10_2] rfl z8_3_ ?_; (with_reducible refine (impl_Stream_at.calls _ _ l1_0 _ _ l1_1 x10_2 t282 _ ?side1 ?side2 ?side3 ?side4 A65.out).mono ?_); (case side1 => have hx_ := (Kd.C_below HR1_0.out HB.out); exact kc_); (case side2 => exact HC1_0.out); (case side3 => have hx_ := (Kd.C_below HR1_1.out HB.out); exact kc_); (case side4 => exact HC1_1.out); rintro e w75 ⟨rfl, hb⟩; refine ⟨_, rfl, ?_⟩; have _ := A_ (Kd.R_below z8_10_ hb); have _ := A_ (blk_below (g := gb258) (o := .cells #[.int .i64 a0_0, .int .i64 a0_1, .int .i64 a0_2, .int .i64 a0_3] 31 (0, 0)) z8_2_ hb); have _ := A_ (blk_below (g := gb259) (o := .cells #[.slice A1_0 l1_0.length c1_0, .slice A1_1 l1_1.length c1_1] 33 (0, 0)) z8_4_ hb); have _ := A_ (blk_below (g := gb271) (o := .cells #[.int .i64 x272000_2, .int .i64 x272001_2, .int .i64 x272002_2, .int .i64 x272003_2] 31 (0, 0)) z8_9_ hb); have _ := A_ (below_step z8_1_ hb); clear HO_8 BK258 BK259 BK271 HB; rename_i HO_8 BK258 BK259 BK271 HB; (try clear hb); obtain ⟨hcz76_0, hcz76_1, hcz76_2, hcz76_3⟩ := bc4 BK271.out; obtain ⟨hfz76_0, hfz76_1, hfz76_2, hfz76_3⟩ := bf4 BK271.out) | ((with_reducible refine gate_callee (f := 77) rfl ?_); refine goesL_ (some 52) rfl rfl Try.func77 (by kernel_rfl) rfl #[.agg #[.int .i64 x272000_2, .int .i64 x272001_2, .int .i64 x272002_2, .int .i64 x272003_2], .int .i8 t282] rfl z8_3_ ?_; (with_reducible refine (impl_Moebius_with.calls k2 x272000_2 x272001_2 x272002_2 x272003_2 t282 t283 t284 t285 t286 _ A66.out).mono ?_); rintro e w77 ⟨rfl, hb⟩; refine ⟨_, rfl, ?_⟩; have _ := A_ (Kd.R_below z8_10_ hb); have _ := A_ (blk_below (g := gb258) (o := .cells #[.int .i64 a0_0, .int .i64 a0_1, .int .i64 a0_2, .int .i64 a0_3] 31 (0, 0)) z8_2_ hb); have _ := A_ (blk_below (g := gb259) (o := .cells #[.slice A1_0 l1_0.length c1_0, .slice A1_1 l1_1.length c1_1] 33 (0, 0)) z8_4_ hb); have _ := A_ (blk_below (g := gb271) (o := .cells #[.int .i64 x272000_2, .int .i64 x272001_2, .int .i64 x272002_2, .int .i64 x272003_2] 31 (0, 0)) z8_9_ hb); have _ := A_ (below_step z8_1_ hb); clear HO_8 BK258 BK259 BK271 HB; rename_i HO_8 BK258 BK259 BK271 HB; (try clear hb); obtain ⟨hcz78_0, hcz78_1, hcz78_2, hcz78_3⟩ := bc4 BK271.out; obtain ⟨hfz78_0, hfz78_1, hfz78_2, hfz78_3⟩ := bf4 BK271.out) | ((with_reducible refine gate_callee (f := 66) rfl ?_); refine goesL_ (some 56) rfl rfl Try.func66 (by kernel_rfl) rfl #[.agg #[.int .i64 t283, .int .i64 t284, .int .i64 t285, .int .i64 t286]] rfl z8_3_ ?_; (with_reducible refine (impl_Moebius_largest.calls t283 t284 t285 t286 t287 _ A67.out).mono ?_); rintro e w79 ⟨rfl, hb⟩; refine ⟨_, rfl, ?_⟩; have _ := A_ (Kd.R_below z8_17_ hb); have _ := A_ (blk_below (g := gb258) (o := .cells #[.int .i64 a0_0, .int .i64 a0_1, .int .i64 a0_2, .int .i64 a0_3] 31 (0, 0)) z8_7_ hb); have _ := A_ (blk_below (g := gb259) (o := .cells #[.slice A1_0 l1_0.length c1_0, .slice A1_1 l1_1.length c1_1] 33 (0, 0)) z8_6_ hb); have _ := A_ (blk_below (g := gb271) (o := .cells #[.int .i64 t283, .int .i64 t284, .int .i64 t285, .int .i64 t286] 31 (0, 0)) z8_13_ hb); have _ := A_ (below_step z8_1_ hb); clear HO_8 BK258 BK259 BK271 HB; rename_i HO_8 BK258 BK259 BK271 HB; (try clear hb)))
            go_ret2
            exact ⟨_, z8_12_, z8_15_, z8_1_⟩
           ·
            rw [if_neg c68] at H
            have c68b0 := decide_eq_false c68
            clear c68
            by_cases c80 : x8_2.length < 3518437208883
            ·
             rw [if_pos c80] at H
             have LMc80 := A_ c80
             clear c80
             obtain ⟨y288, hy288⟩ : ∃ y_ : List (S51), y_ = (x8_2 ++ [(⟨false, t282, (⟨t283, t284, t285, t286⟩ : S31)⟩ : S51)]) := ⟨_, rfl⟩
             replace H : (impl_Moebius_run.l0 k2 a2 y288 (wrap64 (x10_2 + 1)) x11_2 l1_0 l1_1 t283 t284 t285 t286) = some (r1, r2) := by first | (rw [hy288]; with_reducible exact H) | (have H2_ := (Option.bind_some _ _).symm.trans H; rw [hy288]; with_reducible exact H2_) | (have H2_ := (Option.bind_some _ _).symm.trans H; with_reducible exact H2_) | with_reducible exact H | (rw [hy288]; exact H) | exact H
             have Ny288 := A_ hy288
             clear hy288
             have H' := A_ H
             clear H
             have hnb81 := NB271_258.out
             have hnc81 := NB258_271.out
             have hnb82 := NB271_259.out
             have hnc82 := NB259_271.out
             obtain ⟨hcz83_0, hcz83_1, hcz83_2, hcz83_3⟩ := bc4 BK271.out
             obtain ⟨hfz83_0, hfz83_1, hfz83_2, hfz83_3⟩ := bf4 BK271.out
             go_wp2_with (first | ((with_reducible refine gate_callee (f := 75) rfl ?_); refine goesL_ (some 36) rfl rfl Try.func75 (by kernel_rfl) rfl #[.agg #[.int .i64 x272000_2, .int .i64 x272001_2, .int .i64 x272002_2, .int .i64 x272003_2]] rfl z8_3_ ?_; (with_reducible refine (impl_Moebius_tells.calls k2 x272000_2 x272001_2 x272002_2 x272003_2 t272 false _ A36.out).mono ?_); rintro e w84 ⟨rfl, hb⟩; refine ⟨_, rfl, ?_⟩; have _ := A_ (Kd.R_below z8_10_ hb); have _ := A_ (blk_below (g := gb258) (o := .cells #[.int .i64 a0_0, .int .i64 a0_1, .int .i64 a0_2, .int .i64 a0_3] 31 (0, 0)) z8_2_ hb); have _ := A_ (blk_below (g := gb259) (o := .cells #[.slice A1_0 l1_0.length c1_0, .slice A1_1 l1_1.length c1_1] 33 (0, 0)) z8_4_ hb); have _ := A_ (blk_below (g := gb271) (o := .cells #[.int .i64 x272000_2, .int .i64 x272001_2, .int .i64 x272002_2, .int .i64 x272003_2] 31 (0, 0)) z8_9_ hb); have _ := A_ (below_step z8_1_ hb); clear HO_8 BK258 BK259 BK271 HB; rename_i HO_8 BK258 BK259 BK271 HB; (try clear hb); have hnb85 := NB259_258.out; have hnc85 := NB258_259.out; obtain ⟨hcz86_0, hcz86_1⟩ := bc2 BK259.out; obtain ⟨hfz86_0, hfz86_1⟩ := bf2 BK259.out) | ((with_reducible refine gate_callee (f := 52) rfl ?_); refine goesL_ (some 49) rfl rfl Try.func52 (by kernel_rfl) rfl #[.agg #[.slice A1_0 l1_0.length c1_0, .slice A1_1 l1_1.length c1_1], .int .i64 x10_2] rfl z8_3_ ?_; (with_reducible refine (impl_Stream_at.calls _ _ l1_0 _ _ l1_1 x10_2 t282 _ ?side1 ?side2 ?side3 ?side4 A65.out).mono ?_); (case side1 => have hx_ := (Kd.C_below HR1_0.out HB.out); exact kc_); (case side2 => exact HC1_0.out); (case side3 => have hx_ := (Kd.C_below HR1_1.out HB.out); exact kc_); (case side4 => exact HC1_1.out); rintro e w87 ⟨rfl, hb⟩; refine ⟨_, rfl, ?_⟩; have _ := A_ (Kd.R_below z8_10_ hb); have _ := A_ (blk_below (g := gb258) (o := .cells #[.int .i64 a0_0, .int .i64 a0_1, .int .i64 a0_2, .int .i64 a0_3] 31 (0, 0)) z8_2_ hb); have _ := A_ (blk_below (g := gb259) (o := .cells #[.slice A1_0 l1_0.length c1_0, .slice A1_1 l1_1.length c1_1] 33 (0, 0)) z8_4_ hb); have _ := A_ (blk_below (g := gb271) (o := .cells #[.int .i64 x272000_2, .int .i64 x272001_2, .int .i64 x272002_2, .int .i64 x272003_2] 31 (0, 0)) z8_9_ hb); have _ := A_ (below_step z8_1_ hb); clear HO_8 BK258 BK259 BK271 HB; rename_i HO_8 BK258 BK259 BK271 HB; (try clear hb); obtain ⟨hcz88_0, hcz88_1, hcz88_2, hcz88_3⟩ := bc4 BK271.out; obtain ⟨hfz88_0, hfz88_1, hfz88_2, hfz88_3⟩ := bf4 BK271.out) | ((with_reducible refine gate_callee (f := 77) rfl ?_); refine goesL_ (some 52) rfl rfl Try.func77 (by kernel_rfl) rfl #[.agg #[.int .i64 x272000_2, .int .i64 x272001_2, .int .i64 x272002_2, .int .i64 x272003_2], .int .i8 t282] rfl z8_3_ ?_; (with_reducible refine (impl_Moebius_with.calls k2 x272000_2 x272001_2 x272002_2 x272003_2 t282 t283 t284 t285 t286 _ A66.out).mono ?_); rintro e w89 ⟨rfl, hb⟩; refine ⟨_, rfl, ?_⟩; have _ := A_ (Kd.R_below z8_10_ hb); have _ := A_ (blk_below (g := gb258) (o := .cells #[.int .i64 a0_0, .int .i64 a0_1, .int .i64 a0_2, .int .i64 a0_3] 31 (0, 0)) z8_2_ hb); have _ := A_ (blk_below (g := gb259) (o := .cells #[.slice A1_0 l1_0.length c1_0, .slice A1_1 l1_1.length c1_1] 33 (0, 0)) z8_4_ hb); have _ := A_ (blk_below (g := gb271) (o := .cells #[.int .i64 x272000_2, .int .i64 x272001_2, .int .i64 x272002_2, .int .i64 x272003_2] 31 (0, 0)) z8_9_ hb); have _ := A_ (below_step z8_1_ hb); clear HO_8 BK258 BK259 BK271 HB; rename_i HO_8 BK258 BK259 BK271 HB; (try clear hb); obtain ⟨hcz90_0, hcz90_1, hcz90_2, hcz90_3⟩ := bc4 BK271.out; obtain ⟨hfz90_0, hfz90_1, hfz90_2, hfz90_3⟩ := bf4 BK271.out) | ((with_reducible refine gate_callee (f := 66) rfl ?_); refine goesL_ (some 56) rfl rfl Try.func66 (by kernel_rfl) rfl #[.agg #[.int .i64 t283, .int .i64 t284, .int .i64 t285, .int .i64 t286]] rfl z8_3_ ?_; (with_reducible refine (impl_Moebius_largest.calls t283 t284 t285 t286 t287 _ A67.out).mono ?_); rintro e w91 ⟨rfl, hb⟩; refine ⟨_, rfl, ?_⟩; have _ := A_ (Kd.R_below z8_17_ hb); have _ := A_ (blk_below (g := gb258) (o := .cells #[.int .i64 a0_0, .int .i64 a0_1, .int .i64 a0_2, .int .i64 a0_3] 31 (0, 0)) z8_7_ hb); have _ := A_ (blk_below (g := gb259) (o := .cells #[.slice A1_0 l1_0.length c1_0, .slice A1_1 l1_1.length c1_1] 33 (0, 0)) z8_6_ hb); have _ := A_ (blk_below (g := gb271) (o := .cells #[.int .i64 t283, .int .i64 t284, .int .i64 t285, .int .i64 t286] 31 (0, 0)) z8_13_ hb); have _ := A_ (below_step z8_1_ hb); clear HO_8 BK258 BK259 BK271 HB; rename_i HO_8 BK258 BK259 BK271 HB; (try clear hb); obtain ⟨hcz92_0, hcz92_1, hcz92_2, hcz92_3⟩ := bc4 BK271.out; obtain ⟨hfz92_0, hfz92_1, hfz92_2, hfz92_3⟩ := bf4 BK271.out) | ((with_reducible refine gate_builtin (b := .append) (xs := #[.tmp 58, .tmp 63]) rfl ?_); at_builtin; refine Kd.R_append k51 (w0 := w) w.heap.size rfl (.tmp 58) (.tmp 63) 28 51 (.agg #[(.bool false), (.int .i8 0), (.int .i64 0), (.int .i64 0), (.int .i64 0), (.int .i64 0)]) 40 rfl Try.underlying28 info51 rfl (by decide) (by omega) u8 x8_2 (⟨false, t282, (⟨t283, t284, t285, t286⟩ : S31)⟩ : S51) [.bool false, .int .i8 t282, .int .i64 t283, .int .i64 t284, .int .i64 t285, .int .i64 t286] (fun _ => True) (fun _ => False) rfl rfl ?aP (fun _ hk => hk.elim) ?aF ?aO ?aB ?aS ?aL ?_; (case aP => exact k51_mkM _ _ _ (⟨false, t282, (⟨t283, t284, t285, t286⟩ : S31)⟩ : S51)); (case aB => exact z8_1_); (case aF => exact (fun _ _ => trivial)); (case aO => exact z8_10_); (case aS => exact (below_size z8_1_)); (case aL => have := LMc80.out; omega); intro v289 w93 ho hb hg hat; rw [← Ny288.out] at ho; have _ := A_ (blk_grown (g := gb258) (o := .cells #[.int .i64 a0_0, .int .i64 a0_1, .int .i64 a0_2, .int .i64 a0_3] 31 (0, 0)) z8_2_ hg (Kd.R_ne HO_8.out BK258.out (by decide))); have _ := A_ (blk_grown (g := gb259) (o := .cells #[.slice A1_0 l1_0.length c1_0, .slice A1_1 l1_1.length c1_1] 33 (0, 0)) z8_4_ hg (Kd.R_ne HO_8.out BK259.out (by decide))); have _ := A_ (blk_grown (g := gb271) (o := .cells #[.int .i64 t283, .int .i64 t284, .int .i64 t285, .int .i64 t286] 31 (0, 0)) z8_9_ hg (Kd.R_ne HO_8.out BK271.out (by decide))); have _ := A_ (hb); have _ := A_ (ho); clear BK258 BK259 BK271 HB HO_8; rename_i BK258 BK259 BK271 HB HO290; clear ho hb hg hat))
             go_roundg k2
             case measure => have := HJ3.out; have := HK2.out; omega
             case rel => exact ⟨(y288), (wrap64 (x10_2 + 1)), (x11_2), (t283), (t284), (t285), (t286), z8_16_, z8_16_, H', ⟨(by have := HJ3.out; have := HK2.out; omega)⟩, ⟨(by (with_reducible repeat (first | apply Kd.R_alloc | apply Kd.R_drewN | apply Kd.R_drew)); exact HO290.out)⟩, ⟨z8_2_⟩, ⟨z8_4_⟩, ⟨z8_9_⟩, ⟨z8_1_⟩⟩
            ·
             rw [if_neg c80] at H
             exact absurd H (by simp)
        ·
         rw [if_neg c35] at H
         have c35b0 := decide_eq_false c35
         clear c35
         simp only [Option.some.injEq, Prod.mk.injEq] at H
         obtain ⟨rfl, rfl⟩ := H
         go_wp2
         go_ret2
         exact ⟨_, z8_12_, z8_10_, z8_1_⟩
     ·
      replace c22 := Bool.eq_false_iff.mpr c22
      subst c22
      have H1 := H; rw [if_neg (show ¬ (false = true) by decide)] at H1
      clear H
      have H := H1
      clear H1
      simp only [Option.some.injEq, Prod.mk.injEq] at H
      obtain ⟨rfl, rfl⟩ := H
      go_wp2_with (first | ((with_reducible refine gate_callee (f := 51) rfl ?_); refine goesL_ (some 23) rfl rfl Try.func51 (by kernel_rfl) rfl #[.int .i64 a2, .int .i64 0, .int .i64 60] rfl z8_3_ ?_; (with_reducible refine (impl_within.calls a2 0 60 true _ A19.out).mono ?_); rintro e w' ⟨rfl, ⟨nd, rfl⟩⟩; refine ⟨_, rfl, ?_⟩; have hnb94 := NB258_259.out; have hnc94 := NB259_258.out; obtain ⟨hcz95_0, hcz95_1, hcz95_2, hcz95_3⟩ := bc4 BK258.out; obtain ⟨hfz95_0, hfz95_1, hfz95_2, hfz95_3⟩ := bf4 BK258.out) | ((with_reducible refine gate_callee (f := 74) rfl ?_); refine goesL_ (some 26) rfl rfl Try.func74 (by kernel_rfl) rfl #[.agg #[.int .i64 a0_0, .int .i64 a0_1, .int .i64 a0_2, .int .i64 a0_3], .int .i64 (-2), .int .i64 2] rfl z8_3_ ?_; (with_reducible refine (impl_Moebius_lies.calls kj3 a0_0 a0_1 a0_2 a0_3 (-2) 2 false _ A21.out).mono ?_); rintro e w96 ⟨rfl, hb⟩; refine ⟨_, rfl, ?_⟩; have _ := A_ (blk_below (g := gb258) (o := .cells #[.int .i64 a0_0, .int .i64 a0_1, .int .i64 a0_2, .int .i64 a0_3] 31 (0, 0)) z8_2_ hb); have _ := A_ (blk_below (g := gb259) (o := .cells #[.slice A1_0 l1_0.length c1_0, .slice A1_1 l1_1.length c1_1] 33 (0, 0)) z8_4_ hb); have _ := A_ (below_step z8_5_ hb); clear BK258 BK259 HB; rename_i BK258 BK259 HB; (try clear hb)))
      go_ret2
      exact ⟨_, z8_12_, z8_15_, z8_5_⟩
    ·
     replace c20 := Bool.eq_false_iff.mpr c20
     subst c20
     have H1 := H; rw [if_neg (show ¬ (false = true) by decide)] at H1
     clear H
     have H := H1
     clear H1
     simp only [Option.some.injEq, Prod.mk.injEq] at H
     obtain ⟨rfl, rfl⟩ := H
     go_wp2_with (first | ((with_reducible refine gate_callee (f := 51) rfl ?_); refine goesL_ (some 23) rfl rfl Try.func51 (by kernel_rfl) rfl #[.int .i64 a2, .int .i64 0, .int .i64 60] rfl z8_3_ ?_; (with_reducible refine (impl_within.calls a2 0 60 false _ A19.out).mono ?_); rintro e w' ⟨rfl, ⟨nd, rfl⟩⟩; refine ⟨_, rfl, ?_⟩))
     go_ret2
     exact ⟨_, z8_12_, z8_15_, z8_5_⟩
/-! ### impl_MoebiusTurns: function 11 -/
def impl_MoebiusTurns.f (k : Nat) (a0_0 : Int) (a0_1 : Int) (a0_2 : Int) (a0_3 : Int) (l1_0 : List Int) (l1_1 : List Int) (a2 : Int) : Option ((List (S51)) × Int) := (impl_Moebius_run.f k a0_0 a0_1 a0_2 a0_3 l1_0 l1_1 a2).bind fun bt293 => (some (bt293.1, bt293.2))
theorem impl_MoebiusTurns.mono : ∀ a0 a1 a2 a3 a4 a5 a6 k, LeO (impl_MoebiusTurns.f k a0 a1 a2 a3 a4 a5 a6) (impl_MoebiusTurns.f (k + 1) a0 a1 a2 a3 a4 a5 a6) := by
 intro a0 a1 a2 a3 a4 a5 a6 k
 unfold impl_MoebiusTurns.f
 repeat' first
   | (with_reducible exact impl_Moebius_run.mono _ _ _ _ _ _ _ _)
   | (with_reducible exact LeO.refl _)
   | (with_reducible exact LeO.none _)
   | (with_reducible refine LeO.ite ?_ ?_)
   | (with_reducible refine LeO.bind ?_ (fun _ => ?_))
   | exact LeO.none _
   | refine LeO.ite ?_ ?_
   | refine LeO.bind ?_ (fun _ => ?_)
set_option maxHeartbeats 8000000 in
set_option maxRecDepth 100000 in
theorem impl_MoebiusTurns.calls (k : Nat) (a0_0 : Int) (a0_1 : Int) (a0_2 : Int) (a0_3 : Int) (A1_0 : Option Addr) (c1_0 : Nat) (l1_0 : List Int) (A1_1 : Option Addr) (c1_1 : Nat) (l1_1 : List Int) (a2 : Int) (r1 : List (S51)) (r2 : Int) (w : World) (hr1_0 : Kd.C (Kd.int .i8) w A1_0 l1_0.length l1_0) (hc1_0 : l1_0.length ≤ c1_0) (hr1_1 : Kd.C (Kd.int .i8) w A1_1 l1_1.length l1_1) (hc1_1 : l1_1.length ≤ c1_1) (h : impl_MoebiusTurns.f k a0_0 a0_1 a0_2 a0_3 l1_0 l1_1 a2 = some (r1, r2)) :
  Calls Try.prog 11 #[.agg #[.int .i64 a0_0, .int .i64 a0_1, .int .i64 a0_2, .int .i64 a0_3], .agg #[.slice A1_0 l1_0.length c1_0, .slice A1_1 l1_1.length c1_1], .int .i64 a2] w fun e w' => ∃ v0_ : Value, e = .returned (.tuple #[v0_, .int .i64 r2]) ∧ Kd.R k51 51 w' w.heap.size (fun _ => True) v0_ r1 ∧ Below w.heap.size w w' := by
 have hu31 := Try.underlying31
 have hu33 := Try.underlying33
 have HR1_0 := A_ hr1_0
 have HC1_0 := A_ hc1_0
 clear hr1_0 hc1_0
 have HR1_1 := A_ hr1_1
 have HC1_1 := A_ hc1_1
 clear hr1_1 hc1_1
 have HB := A_ (Below.refl w.heap.size w)
 have H : ((impl_Moebius_run.f k a0_0 a0_1 a0_2 a0_3 l1_0 l1_1 a2).bind fun bt293 => (some (bt293.1, bt293.2))) = some (r1, r2) := h
 clear h
 replace H := Option.bind_eq_some_iff.mp H
 obtain ⟨⟨t293, t296⟩, A40, H⟩ := H
 try dsimp only at H
 have A4 := A_ A40
 clear A40
 simp only [Option.some.injEq, Prod.mk.injEq] at H
 obtain ⟨rfl, rfl⟩ := H
 go_enter Try.func11, Try.ntmps11
 go_wp2_with (first | ((with_reducible refine gate_dst (N := 3) rfl ?_); refine box_event ?hg (N := 3) ?hd (cs := #[.int .i64 a0_0, .int .i64 a0_1, .int .i64 a0_2, .int .i64 a0_3]) (t := 31) ?hr ?_; (case hd => rfl); (case hg => rfl); (case hr => first | (go_simp; done) | (go_simp; rfl)); intro gb291 hg w5 hbox hb; have _ := A_ (below_step z8_8_ hb); have _ := A_ (hbox); have _ := A_ ((by rw [hg]; exact (below_size z8_8_) : w.heap.size ≤ gb291)); have _ := A_ ((by rw [hg]; exact (below_size z8_8_) : w.heap.size ≤ gb291)); clear HB; rename_i HB BK291 GW291 GE291; clear hb hbox hg) | ((with_reducible refine gate_dst (N := 4) rfl ?_); refine box_event ?hg (N := 4) ?hd (cs := #[.slice A1_0 l1_0.length c1_0, .slice A1_1 l1_1.length c1_1]) (t := 33) ?hr ?_; (case hd => rfl); (case hg => rfl); (case hr => first | (go_simp; done) | (go_simp; rfl)); intro gb292 hg w6 hbox hb; have _ := A_ (blk_below (g := gb291) (o := .cells #[.int .i64 a0_0, .int .i64 a0_1, .int .i64 a0_2, .int .i64 a0_3] 31 (0, 0)) z8_20_ hb); have _ := A_ (below_step z8_21_ hb); have _ := A_ (hbox); have _ := A_ ((by rw [hg]; exact (below_size z8_21_) : w.heap.size ≤ gb292)); have _ := A_ ((by rw [hg]; exact (below_size z8_21_) : w.heap.size ≤ gb292)); have _ := A_ ((by rw [hg]; exact Nat.ne_of_lt (blk_lt (g := gb291) (o := .cells #[.int .i64 a0_0, .int .i64 a0_1, .int .i64 a0_2, .int .i64 a0_3] 31 (0, 0)) z8_20_) : gb291 ≠ gb292)); have _ := A_ ((by rw [hg]; exact Nat.ne_of_gt (blk_lt (g := gb291) (o := .cells #[.int .i64 a0_0, .int .i64 a0_1, .int .i64 a0_2, .int .i64 a0_3] 31 (0, 0)) z8_20_) : gb292 ≠ gb291)); clear BK291 HB; rename_i BK291 HB BK292 GW292 GE292 NB291_292 NB292_291; clear hb hbox hg; have hnb7 := NB291_292.out; have hnc7 := NB292_291.out; obtain ⟨hcz8_0, hcz8_1, hcz8_2, hcz8_3⟩ := bc4 BK291.out; obtain ⟨hfz8_0, hfz8_1, hfz8_2, hfz8_3⟩ := bf4 BK291.out; obtain ⟨hcz9_0, hcz9_1⟩ := bc2 BK292.out; obtain ⟨hfz9_0, hfz9_1⟩ := bf2 BK292.out) | ((with_reducible refine gate_callee (f := 43) rfl ?_); refine goesL_ (some 11) rfl rfl Try.func43 (by kernel_rfl) rfl #[.agg #[.int .i64 a0_0, .int .i64 a0_1, .int .i64 a0_2, .int .i64 a0_3], .agg #[.slice A1_0 l1_0.length c1_0, .slice A1_1 l1_1.length c1_1], .int .i64 a2] rfl z8_3_ ?_; (with_reducible refine (impl_Moebius_run.calls k a0_0 a0_1 a0_2 a0_3 _ _ l1_0 _ _ l1_1 a2 t293 t296 _ ?side1 ?side2 ?side3 ?side4 A4.out).mono ?_); (case side1 => have hx_ := (Kd.C_below HR1_0.out HB.out); exact kc_); (case side2 => exact HC1_0.out); (case side3 => have hx_ := (Kd.C_below HR1_1.out HB.out); exact kc_); (case side4 => exact HC1_1.out); rintro e w10 ⟨v294, rfl, ho0, hb⟩; refine ⟨_, rfl, ?_⟩; have _ := A_ (Kd.R_lower ho0 (below_size z8_19_)); have _ := A_ (blk_below (g := gb291) (o := .cells #[.int .i64 a0_0, .int .i64 a0_1, .int .i64 a0_2, .int .i64 a0_3] 31 (0, 0)) z8_20_ hb); have _ := A_ (blk_below (g := gb292) (o := .cells #[.slice A1_0 l1_0.length c1_0, .slice A1_1 l1_1.length c1_1] 33 (0, 0)) (by (with_reducible repeat (first | refine blk_drewN ?_ _ | refine blk_drew ?_ | refine blk_alloc ?_ _)); exact BK292.out) hb); have _ := A_ (below_step z8_19_ hb); clear BK291 BK292 HB; rename_i HO295 BK291 BK292 HB; (try clear hb); (try clear ho0)))
 go_ret2
 exact ⟨_, z8_12_, (by (with_reducible repeat (first | apply Kd.R_alloc | apply Kd.R_drewN | apply Kd.R_drew)); exact HO295.out), z8_19_⟩
end Go.Proofs.Ytififhihgkbafaa.PM

-- Written by a program (xprint.py) out of the translation's own print; Lean checks it.
import Derived.Test.YtpfnohdnaocpdaaPTx0
namespace Go.Proofs.Ytpfnohdnaocpdaa.PT
open Go.RowKit Go.Proofs.YtpfnohdnaocpdaaW.PrintWords Go.Proofs.YtpfnohdnaocpdaaW.PrintLast Go.Proofs.YtpfnohdnaocpdaaW.PrintMore Go.Proofs.YtpfnohdnaocpdaaRP
attribute [local go_sem] max2_int min2_int max_two min_two max_three min_three max_four min_four Go.Proofs.YtpfnohdnaocpdaaRP.max_eight   -- for this text's walks alone
set_option linter.unusedVariables false
set_option linter.unusedSimpArgs false
/-! ### laws_szForkS: function 54 -/
def laws_szForkS.f (l0 : List (S158)) (a1 : Int) : Option (Int) := if (wrap64 (a1 - (l0.length : Int))) < 0 then (some (-1)) else (some (wrap64 (a1 - (l0.length : Int))))
set_option maxHeartbeats 8000000 in
set_option maxRecDepth 100000 in
theorem laws_szForkS.calls (A0 : Option Addr) (c0 : Nat) (l0 : List (S158)) (a1 : Int) (r : Int) (w : World) (hr0 : Kd.C k158 w A0 l0.length l0) (hc0 : l0.length ≤ c0) (h : laws_szForkS.f l0 a1 = some r) :
  Calls Try.prog 54 #[.slice A0 l0.length c0, .int .i64 a1] w fun e w' => e = .returned (.int .i64 r) ∧ Drawn0 w w' := by
 have HR0 := Aside0.mk hr0
 have HC0 := Aside0.mk hc0
 clear hr0 hc0
 have H : (if (wrap64 (a1 - (l0.length : Int))) < 0 then (some (-1)) else (some (wrap64 (a1 - (l0.length : Int))))) = some r := h
 clear h
 by_cases c3 : (wrap64 (a1 - (l0.length : Int))) < 0
 ·
  rw [if_pos c3] at H
  have c3b0 : decide ((wrap64 (a1 - (l0.length : Int))) < 0) = true := decide_eq_true c3
  clear c3
  obtain rfl := Option.some.inj H
  go_enter Try.func54, Try.ntmps54
  go_wp2
  go_ret
  exact ⟨by first | rfl | (simp; done) | (simp [*]; done) | (simp [isE_]; done), by repeat (first | exact Drawn0.refl _ | apply Drawn0.step)⟩
 ·
  rw [if_neg c3] at H
  have c3b0 : decide ((wrap64 (a1 - (l0.length : Int))) < 0) = false := decide_eq_false c3
  clear c3
  obtain rfl := Option.some.inj H
  go_enter Try.func54, Try.ntmps54
  go_wp2
  go_ret
  exact ⟨by first | rfl | (simp; done) | (simp [*]; done) | (simp [isE_]; done), by repeat (first | exact Drawn0.refl _ | apply Drawn0.step)⟩
/-! ### laws_szTree: function 14 -/
def laws_szTree.f (l0_0 : List (S158)) (a1 : Int) : Option (Int) := (laws_szForkS.f l0_0 a1).bind fun t102 => (if t102 < 0 then (some (-1)) else (some t102))
set_option maxHeartbeats 8000000 in
set_option maxRecDepth 100000 in
theorem laws_szTree.calls (A0_0 : Option Addr) (c0_0 : Nat) (l0_0 : List (S158)) (a1 : Int) (r : Int) (w : World) (hr0_0 : Kd.C k158 w A0_0 l0_0.length l0_0) (hc0_0 : l0_0.length ≤ c0_0) (h : laws_szTree.f l0_0 a1 = some r) :
  Calls Try.prog 14 #[.agg #[.slice A0_0 l0_0.length c0_0], .int .i64 a1] w fun e w' => e = .returned (.int .i64 r) ∧ Below w.heap.size w w' := by
 have hu24 := Try.underlying24
 have HR0_0 := Aside0.mk hr0_0
 have HC0_0 := Aside0.mk hc0_0
 clear hr0_0 hc0_0
 have HB := Aside0.mk (Below.refl w.heap.size w)
 have H : ((laws_szForkS.f l0_0 a1).bind fun t102 => (if t102 < 0 then (some (-1)) else (some t102))) = some r := h
 clear h
 replace H := Option.bind_eq_some_iff.mp H
 obtain ⟨t102, A30, H⟩ := H
 replace H : (if t102 < 0 then (some (-1)) else (some t102)) = some r := H
 have A3 := Aside0.mk A30
 clear A30
 by_cases c4 : t102 < 0
 ·
  rw [if_pos c4] at H
  have c4b0 : decide (t102 < 0) = true := decide_eq_true c4
  clear c4
  obtain rfl := Option.some.inj H
  go_enter Try.func14, Try.ntmps14
  go_wp2_with (first | ((with_reducible refine gate_dst (N := 2) rfl ?_); refine box_event ?hg (N := 2) ?hd (cs := #[.slice A0_0 l0_0.length c0_0]) (t := 24) ?hr ?_; (case hd => rfl); (case hg => rfl); (case hr => first | (go_simp; done) | (go_simp; rfl)); intro gb101 hg w5 hbox hb; have n0_ := Aside0.mk (below_step (by repeat (first | (with_reducible first | exact HB.out | apply below_alloc | apply pw_below_drewN | apply below_drew1) | exact HB.out)) hb); have n1_ := Aside0.mk (hbox); have n2_ := Aside0.mk ((by rw [hg]; exact (below_size (by repeat (first | (with_reducible first | exact HB.out | apply below_alloc | apply pw_below_drewN | apply below_drew1) | exact HB.out))) : w.heap.size ≤ gb101)); have n3_ := Aside0.mk ((by rw [hg]; exact (below_size (by repeat (first | (with_reducible first | exact HB.out | apply below_alloc | apply pw_below_drewN | apply below_drew1) | exact HB.out))) : w.heap.size ≤ gb101)); clear HB; have HB := n0_; have BK101 := n1_; have GW101 := n2_; have GE101 := n3_; clear n0_ n1_ n2_ n3_; clear hb hbox hg; have hcz6_0 : w5.cell? ⟨gb101, 0, none⟩ = some (.slice A0_0 l0_0.length c0_0) := (blk_cell BK101.out 0).trans rfl; have hfz6_0 := blk_frozen BK101.out 0) | ((with_reducible refine gate_callee (f := 54) rfl ?_); refine goesL_ (some 8) rfl rfl Try.func54 (by kernel_rfl) rfl #[.slice A0_0 l0_0.length c0_0, .int .i64 a1] rfl (by (try simp only [List.map_toArray, List.map_cons, List.map_nil]); first | done | rfl | (simp only [List.length_drop, List.length_take]; rfl)) ?_; (with_reducible refine (laws_szForkS.calls _ _ l0_0 a1 t102 _ ?side1 ?side2 A3.out).mono ?_); (case side1 => repeat (first | exact (Kd.C_below HR0_0.out HB.out) | (with_reducible refine Kd.C_alloc ?_ _) | (with_reducible refine Kd.C_drewN ?_ _) | (with_reducible refine Kd.C_drew ?_))); (case side2 => exact HC0_0.out); rintro e w' ⟨rfl, ⟨nd, rfl⟩⟩; refine ⟨_, rfl, ?_⟩))
  go_ret
  exact ⟨by first | rfl | (simp [errW_none, errW_some] <;> rfl) | (simp [*, errW_none, errW_some] <;> rfl), by repeat (first | (with_reducible first | exact HB.out | apply below_alloc | apply pw_below_drewN | apply below_drew1 | refine below_set ?_ GE101.out) | exact HB.out)⟩
 ·
  rw [if_neg c4] at H
  have c4b0 : decide (t102 < 0) = false := decide_eq_false c4
  clear c4
  obtain rfl := Option.some.inj H
  go_enter Try.func14, Try.ntmps14
  go_wp2_with (first | ((with_reducible refine gate_dst (N := 2) rfl ?_); refine box_event ?hg (N := 2) ?hd (cs := #[.slice A0_0 l0_0.length c0_0]) (t := 24) ?hr ?_; (case hd => rfl); (case hg => rfl); (case hr => first | (go_simp; done) | (go_simp; rfl)); intro gb101 hg w7 hbox hb; have n0_ := Aside0.mk (below_step (by repeat (first | (with_reducible first | exact HB.out | apply below_alloc | apply pw_below_drewN | apply below_drew1) | exact HB.out)) hb); have n1_ := Aside0.mk (hbox); have n2_ := Aside0.mk ((by rw [hg]; exact (below_size (by repeat (first | (with_reducible first | exact HB.out | apply below_alloc | apply pw_below_drewN | apply below_drew1) | exact HB.out))) : w.heap.size ≤ gb101)); have n3_ := Aside0.mk ((by rw [hg]; exact (below_size (by repeat (first | (with_reducible first | exact HB.out | apply below_alloc | apply pw_below_drewN | apply below_drew1) | exact HB.out))) : w.heap.size ≤ gb101)); clear HB; have HB := n0_; have BK101 := n1_; have GW101 := n2_; have GE101 := n3_; clear n0_ n1_ n2_ n3_; clear hb hbox hg; have hcz8_0 : w7.cell? ⟨gb101, 0, none⟩ = some (.slice A0_0 l0_0.length c0_0) := (blk_cell BK101.out 0).trans rfl; have hfz8_0 := blk_frozen BK101.out 0) | ((with_reducible refine gate_callee (f := 54) rfl ?_); refine goesL_ (some 8) rfl rfl Try.func54 (by kernel_rfl) rfl #[.slice A0_0 l0_0.length c0_0, .int .i64 a1] rfl (by (try simp only [List.map_toArray, List.map_cons, List.map_nil]); first | done | rfl | (simp only [List.length_drop, List.length_take]; rfl)) ?_; (with_reducible refine (laws_szForkS.calls _ _ l0_0 a1 t102 _ ?side1 ?side2 A3.out).mono ?_); (case side1 => repeat (first | exact (Kd.C_below HR0_0.out HB.out) | (with_reducible refine Kd.C_alloc ?_ _) | (with_reducible refine Kd.C_drewN ?_ _) | (with_reducible refine Kd.C_drew ?_))); (case side2 => exact HC0_0.out); rintro e w' ⟨rfl, ⟨nd, rfl⟩⟩; refine ⟨_, rfl, ?_⟩))
  go_ret
  exact ⟨by first | rfl | (simp [errW_none, errW_some] <;> rfl) | (simp [*, errW_none, errW_some] <;> rfl), by repeat (first | (with_reducible first | exact HB.out | apply below_alloc | apply pw_below_drewN | apply below_drew1 | refine below_set ?_ GE101.out) | exact HB.out)⟩
/-! ### laws_szInt8S: function 55 -/
def laws_szInt8S.f (l0 : List Int) (a1 : Int) : Option (Int) := if (wrap64 (a1 - (l0.length : Int))) < 0 then (some (-1)) else (some (wrap64 (a1 - (l0.length : Int))))
set_option maxHeartbeats 8000000 in
set_option maxRecDepth 100000 in
theorem laws_szInt8S.calls (A0 : Option Addr) (c0 : Nat) (l0 : List Int) (a1 : Int) (r : Int) (w : World) (hr0 : Kd.C (Kd.int .i8) w A0 l0.length l0) (hc0 : l0.length ≤ c0) (h : laws_szInt8S.f l0 a1 = some r) :
  Calls Try.prog 55 #[.slice A0 l0.length c0, .int .i64 a1] w fun e w' => e = .returned (.int .i64 r) ∧ Drawn0 w w' := by
 have HR0 := Aside0.mk hr0
 have HC0 := Aside0.mk hc0
 clear hr0 hc0
 have H : (if (wrap64 (a1 - (l0.length : Int))) < 0 then (some (-1)) else (some (wrap64 (a1 - (l0.length : Int))))) = some r := h
 clear h
 by_cases c3 : (wrap64 (a1 - (l0.length : Int))) < 0
 ·
  rw [if_pos c3] at H
  have c3b0 : decide ((wrap64 (a1 - (l0.length : Int))) < 0) = true := decide_eq_true c3
  clear c3
  obtain rfl := Option.some.inj H
  go_enter Try.func55, Try.ntmps55
  go_wp2
  go_ret
  exact ⟨by first | rfl | (simp; done) | (simp [*]; done) | (simp [isE_]; done), by repeat (first | exact Drawn0.refl _ | apply Drawn0.step)⟩
 ·
  rw [if_neg c3] at H
  have c3b0 : decide ((wrap64 (a1 - (l0.length : Int))) < 0) = false := decide_eq_false c3
  clear c3
  obtain rfl := Option.some.inj H
  go_enter Try.func55, Try.ntmps55
  go_wp2
  go_ret
  exact ⟨by first | rfl | (simp; done) | (simp [*]; done) | (simp [isE_]; done), by repeat (first | exact Drawn0.refl _ | apply Drawn0.step)⟩
/-! ### laws_szStream: function 15 -/
def laws_szStream.f (l0_0 : List Int) (l0_1 : List Int) (a1 : Int) : Option (Int) := (laws_szInt8S.f l0_0 a1).bind fun t104 => (if t104 < 0 then (some (-1)) else ((laws_szInt8S.f l0_1 t104).bind fun t105 => (if t105 < 0 then (some (-1)) else (some t105))))
set_option maxHeartbeats 8000000 in
set_option maxRecDepth 100000 in
theorem laws_szStream.calls (A0_0 : Option Addr) (c0_0 : Nat) (l0_0 : List Int) (A0_1 : Option Addr) (c0_1 : Nat) (l0_1 : List Int) (a1 : Int) (r : Int) (w : World) (hr0_0 : Kd.C (Kd.int .i8) w A0_0 l0_0.length l0_0) (hc0_0 : l0_0.length ≤ c0_0) (hr0_1 : Kd.C (Kd.int .i8) w A0_1 l0_1.length l0_1) (hc0_1 : l0_1.length ≤ c0_1) (h : laws_szStream.f l0_0 l0_1 a1 = some r) :
  Calls Try.prog 15 #[.agg #[.slice A0_0 l0_0.length c0_0, .slice A0_1 l0_1.length c0_1], .int .i64 a1] w fun e w' => e = .returned (.int .i64 r) ∧ Below w.heap.size w w' := by
 have hu27 := Try.underlying27
 have HR0_0 := Aside0.mk hr0_0
 have HC0_0 := Aside0.mk hc0_0
 clear hr0_0 hc0_0
 have HR0_1 := Aside0.mk hr0_1
 have HC0_1 := Aside0.mk hc0_1
 clear hr0_1 hc0_1
 have HB := Aside0.mk (Below.refl w.heap.size w)
 have H : ((laws_szInt8S.f l0_0 a1).bind fun t104 => (if t104 < 0 then (some (-1)) else ((laws_szInt8S.f l0_1 t104).bind fun t105 => (if t105 < 0 then (some (-1)) else (some t105))))) = some r := h
 clear h
 replace H := Option.bind_eq_some_iff.mp H
 obtain ⟨t104, A30, H⟩ := H
 replace H : (if t104 < 0 then (some (-1)) else ((laws_szInt8S.f l0_1 t104).bind fun t105 => (if t105 < 0 then (some (-1)) else (some t105)))) = some r := H
 have A3 := Aside0.mk A30
 clear A30
 by_cases c4 : t104 < 0
 ·
  rw [if_pos c4] at H
  have c4b0 : decide (t104 < 0) = true := decide_eq_true c4
  clear c4
  obtain rfl := Option.some.inj H
  go_enter Try.func15, Try.ntmps15
  go_wp2_with (first | ((with_reducible refine gate_dst (N := 2) rfl ?_); refine box_event ?hg (N := 2) ?hd (cs := #[.slice A0_0 l0_0.length c0_0, .slice A0_1 l0_1.length c0_1]) (t := 27) ?hr ?_; (case hd => rfl); (case hg => rfl); (case hr => first | (go_simp; done) | (go_simp; rfl)); intro gb103 hg w5 hbox hb; have n0_ := Aside0.mk (below_step (by repeat (first | (with_reducible first | exact HB.out | apply below_alloc | apply pw_below_drewN | apply below_drew1) | exact HB.out)) hb); have n1_ := Aside0.mk (hbox); have n2_ := Aside0.mk ((by rw [hg]; exact (below_size (by repeat (first | (with_reducible first | exact HB.out | apply below_alloc | apply pw_below_drewN | apply below_drew1) | exact HB.out))) : w.heap.size ≤ gb103)); have n3_ := Aside0.mk ((by rw [hg]; exact (below_size (by repeat (first | (with_reducible first | exact HB.out | apply below_alloc | apply pw_below_drewN | apply below_drew1) | exact HB.out))) : w.heap.size ≤ gb103)); clear HB; have HB := n0_; have BK103 := n1_; have GW103 := n2_; have GE103 := n3_; clear n0_ n1_ n2_ n3_; clear hb hbox hg; have hcz6_0 : w5.cell? ⟨gb103, 0, none⟩ = some (.slice A0_0 l0_0.length c0_0) := (blk_cell BK103.out 0).trans rfl; have hcz6_1 : w5.cell? ⟨gb103, 1, none⟩ = some (.slice A0_1 l0_1.length c0_1) := (blk_cell BK103.out 1).trans rfl; have hfz6_0 := blk_frozen BK103.out 0; have hfz6_1 := blk_frozen BK103.out 1) | ((with_reducible refine gate_callee (f := 55) rfl ?_); refine goesL_ (some 8) rfl rfl Try.func55 (by kernel_rfl) rfl #[.slice A0_0 l0_0.length c0_0, .int .i64 a1] rfl (by (try simp only [List.map_toArray, List.map_cons, List.map_nil]); first | done | rfl | (simp only [List.length_drop, List.length_take]; rfl)) ?_; (with_reducible refine (laws_szInt8S.calls _ _ l0_0 a1 t104 _ ?side1 ?side2 A3.out).mono ?_); (case side1 => repeat (first | exact (Kd.C_below HR0_0.out HB.out) | (with_reducible refine Kd.C_alloc ?_ _) | (with_reducible refine Kd.C_drewN ?_ _) | (with_reducible refine Kd.C_drew ?_))); (case side2 => exact HC0_0.out); rintro e w' ⟨rfl, ⟨nd, rfl⟩⟩; refine ⟨_, rfl, ?_⟩))
  go_ret
  exact ⟨by first | rfl | (simp [errW_none, errW_some] <;> rfl) | (simp [*, errW_none, errW_some] <;> rfl), by repeat (first | (with_reducible first | exact HB.out | apply below_alloc | apply pw_below_drewN | apply below_drew1 | refine below_set ?_ GE103.out) | exact HB.out)⟩
 ·
  rw [if_neg c4] at H
  have c4b0 : decide (t104 < 0) = false := decide_eq_false c4
  clear c4
  replace H := Option.bind_eq_some_iff.mp H
  obtain ⟨t105, A70, H⟩ := H
  replace H : (if t105 < 0 then (some (-1)) else (some t105)) = some r := H
  have A7 := Aside0.mk A70
  clear A70
  by_cases c8 : t105 < 0
  ·
   rw [if_pos c8] at H
   have c8b0 : decide (t105 < 0) = true := decide_eq_true c8
   clear c8
   obtain rfl := Option.some.inj H
   go_enter Try.func15, Try.ntmps15
   go_wp2_with (first | ((with_reducible refine gate_dst (N := 2) rfl ?_); refine box_event ?hg (N := 2) ?hd (cs := #[.slice A0_0 l0_0.length c0_0, .slice A0_1 l0_1.length c0_1]) (t := 27) ?hr ?_; (case hd => rfl); (case hg => rfl); (case hr => first | (go_simp; done) | (go_simp; rfl)); intro gb103 hg w9 hbox hb; have n0_ := Aside0.mk (below_step (by repeat (first | (with_reducible first | exact HB.out | apply below_alloc | apply pw_below_drewN | apply below_drew1) | exact HB.out)) hb); have n1_ := Aside0.mk (hbox); have n2_ := Aside0.mk ((by rw [hg]; exact (below_size (by repeat (first | (with_reducible first | exact HB.out | apply below_alloc | apply pw_below_drewN | apply below_drew1) | exact HB.out))) : w.heap.size ≤ gb103)); have n3_ := Aside0.mk ((by rw [hg]; exact (below_size (by repeat (first | (with_reducible first | exact HB.out | apply below_alloc | apply pw_below_drewN | apply below_drew1) | exact HB.out))) : w.heap.size ≤ gb103)); clear HB; have HB := n0_; have BK103 := n1_; have GW103 := n2_; have GE103 := n3_; clear n0_ n1_ n2_ n3_; clear hb hbox hg; have hcz10_0 : w9.cell? ⟨gb103, 0, none⟩ = some (.slice A0_0 l0_0.length c0_0) := (blk_cell BK103.out 0).trans rfl; have hcz10_1 : w9.cell? ⟨gb103, 1, none⟩ = some (.slice A0_1 l0_1.length c0_1) := (blk_cell BK103.out 1).trans rfl; have hfz10_0 := blk_frozen BK103.out 0; have hfz10_1 := blk_frozen BK103.out 1) | ((with_reducible refine gate_callee (f := 55) rfl ?_); refine goesL_ (some 8) rfl rfl Try.func55 (by kernel_rfl) rfl #[.slice A0_0 l0_0.length c0_0, .int .i64 a1] rfl (by (try simp only [List.map_toArray, List.map_cons, List.map_nil]); first | done | rfl | (simp only [List.length_drop, List.length_take]; rfl)) ?_; (with_reducible refine (laws_szInt8S.calls _ _ l0_0 a1 t104 _ ?side1 ?side2 A3.out).mono ?_); (case side1 => repeat (first | exact (Kd.C_below HR0_0.out HB.out) | (with_reducible refine Kd.C_alloc ?_ _) | (with_reducible refine Kd.C_drewN ?_ _) | (with_reducible refine Kd.C_drew ?_))); (case side2 => exact HC0_0.out); rintro e w' ⟨rfl, ⟨nd, rfl⟩⟩; refine ⟨_, rfl, ?_⟩) | ((with_reducible refine gate_callee (f := 55) rfl ?_); refine goesL_ (some 14) rfl rfl Try.func55 (by kernel_rfl) rfl #[.slice A0_1 l0_1.length c0_1, .int .i64 t104] rfl (by (try simp only [List.map_toArray, List.map_cons, List.map_nil]); first | done | rfl | (simp only [List.length_drop, List.length_take]; rfl)) ?_; (with_reducible refine (laws_szInt8S.calls _ _ l0_1 t104 t105 _ ?side1 ?side2 A7.out).mono ?_); (case side1 => repeat (first | exact (Kd.C_below HR0_1.out (by repeat (first | (with_reducible first | exact HB.out | apply below_alloc | apply pw_below_drewN | apply below_drew1 | refine below_set ?_ GE103.out) | exact HB.out))) | (with_reducible refine Kd.C_alloc ?_ _) | (with_reducible refine Kd.C_drewN ?_ _) | (with_reducible refine Kd.C_drew ?_))); (case side2 => exact HC0_1.out); rintro e w' ⟨rfl, ⟨nd, rfl⟩⟩; refine ⟨_, rfl, ?_⟩))
   go_ret
   exact ⟨by first | rfl | (simp [errW_none, errW_some] <;> rfl) | (simp [*, errW_none, errW_some] <;> rfl), by repeat (first | (with_reducible first | exact HB.out | apply below_alloc | apply pw_below_drewN | apply below_drew1 | refine below_set ?_ GE103.out) | exact HB.out)⟩
  ·
   rw [if_neg c8] at H
   have c8b0 : decide (t105 < 0) = false := decide_eq_false c8
   clear c8
   obtain rfl := Option.some.inj H
   go_enter Try.func15, Try.ntmps15
   go_wp2_with (first | ((with_reducible refine gate_dst (N := 2) rfl ?_); refine box_event ?hg (N := 2) ?hd (cs := #[.slice A0_0 l0_0.length c0_0, .slice A0_1 l0_1.length c0_1]) (t := 27) ?hr ?_; (case hd => rfl); (case hg => rfl); (case hr => first | (go_simp; done) | (go_simp; rfl)); intro gb103 hg w11 hbox hb; have n0_ := Aside0.mk (below_step (by repeat (first | (with_reducible first | exact HB.out | apply below_alloc | apply pw_below_drewN | apply below_drew1) | exact HB.out)) hb); have n1_ := Aside0.mk (hbox); have n2_ := Aside0.mk ((by rw [hg]; exact (below_size (by repeat (first | (with_reducible first | exact HB.out | apply below_alloc | apply pw_below_drewN | apply below_drew1) | exact HB.out))) : w.heap.size ≤ gb103)); have n3_ := Aside0.mk ((by rw [hg]; exact (below_size (by repeat (first | (with_reducible first | exact HB.out | apply below_alloc | apply pw_below_drewN | apply below_drew1) | exact HB.out))) : w.heap.size ≤ gb103)); clear HB; have HB := n0_; have BK103 := n1_; have GW103 := n2_; have GE103 := n3_; clear n0_ n1_ n2_ n3_; clear hb hbox hg; have hcz12_0 : w11.cell? ⟨gb103, 0, none⟩ = some (.slice A0_0 l0_0.length c0_0) := (blk_cell BK103.out 0).trans rfl; have hcz12_1 : w11.cell? ⟨gb103, 1, none⟩ = some (.slice A0_1 l0_1.length c0_1) := (blk_cell BK103.out 1).trans rfl; have hfz12_0 := blk_frozen BK103.out 0; have hfz12_1 := blk_frozen BK103.out 1) | ((with_reducible refine gate_callee (f := 55) rfl ?_); refine goesL_ (some 8) rfl rfl Try.func55 (by kernel_rfl) rfl #[.slice A0_0 l0_0.length c0_0, .int .i64 a1] rfl (by (try simp only [List.map_toArray, List.map_cons, List.map_nil]); first | done | rfl | (simp only [List.length_drop, List.length_take]; rfl)) ?_; (with_reducible refine (laws_szInt8S.calls _ _ l0_0 a1 t104 _ ?side1 ?side2 A3.out).mono ?_); (case side1 => repeat (first | exact (Kd.C_below HR0_0.out HB.out) | (with_reducible refine Kd.C_alloc ?_ _) | (with_reducible refine Kd.C_drewN ?_ _) | (with_reducible refine Kd.C_drew ?_))); (case side2 => exact HC0_0.out); rintro e w' ⟨rfl, ⟨nd, rfl⟩⟩; refine ⟨_, rfl, ?_⟩) | ((with_reducible refine gate_callee (f := 55) rfl ?_); refine goesL_ (some 14) rfl rfl Try.func55 (by kernel_rfl) rfl #[.slice A0_1 l0_1.length c0_1, .int .i64 t104] rfl (by (try simp only [List.map_toArray, List.map_cons, List.map_nil]); first | done | rfl | (simp only [List.length_drop, List.length_take]; rfl)) ?_; (with_reducible refine (laws_szInt8S.calls _ _ l0_1 t104 t105 _ ?side1 ?side2 A7.out).mono ?_); (case side1 => repeat (first | exact (Kd.C_below HR0_1.out (by repeat (first | (with_reducible first | exact HB.out | apply below_alloc | apply pw_below_drewN | apply below_drew1 | refine below_set ?_ GE103.out) | exact HB.out))) | (with_reducible refine Kd.C_alloc ?_ _) | (with_reducible refine Kd.C_drewN ?_ _) | (with_reducible refine Kd.C_drew ?_))); (case side2 => exact HC0_1.out); rintro e w' ⟨rfl, ⟨nd, rfl⟩⟩; refine ⟨_, rfl, ?_⟩))
   go_ret
   exact ⟨by first | rfl | (simp [errW_none, errW_some] <;> rfl) | (simp [*, errW_none, errW_some] <;> rfl), by repeat (first | (with_reducible first | exact HB.out | apply below_alloc | apply pw_below_drewN | apply below_drew1 | refine below_set ?_ GE103.out) | exact HB.out)⟩
/-! ### spec_l00In: function 109 -/
def spec_l00In.f (a0 : Int) (a1 : Int) (a2 : Int) : Option (Bool) := if a0 ≥ a1 then (some (decide (a0 ≤ a2))) else (some false)
set_option maxHeartbeats 8000000 in
set_option maxRecDepth 100000 in
theorem spec_l00In.calls (a0 : Int) (a1 : Int) (a2 : Int) (r : Bool) (w : World) (h : spec_l00In.f a0 a1 a2 = some r) :
  Calls Try.prog 109 #[.int .i64 a0, .int .i64 a1, .int .i64 a2] w fun e w' => e = .returned (.bool r) ∧ Drawn0 w w' := by
 have H : (if a0 ≥ a1 then (some (decide (a0 ≤ a2))) else (some false)) = some r := h
 clear h
 by_cases c4 : a0 ≥ a1
 ·
  rw [if_pos c4] at H
  have c4b0 : decide (a1 ≤ a0) = true := decide_eq_true c4
  clear c4
  obtain rfl := Option.some.inj H
  go_enter Try.func109, Try.ntmps109
  go_wp2
  go_ret
  exact ⟨by first | rfl | (simp; done) | (simp [*]; done) | (simp [isE_]; done), by repeat (first | exact Drawn0.refl _ | apply Drawn0.step)⟩
 ·
  rw [if_neg c4] at H
  have c4b0 : decide (a1 ≤ a0) = false := decide_eq_false c4
  clear c4
  obtain rfl := Option.some.inj H
  go_enter Try.func109, Try.ntmps109
  go_wp2
  go_ret
  exact ⟨by first | rfl | (simp; done) | (simp [*]; done) | (simp [isE_]; done), by repeat (first | exact Drawn0.refl _ | apply Drawn0.step)⟩
/-! ### spec_l06Ok: function 66 -/
mutual
def spec_l06Ok.l0 : Nat → List (S34) → Int → Int → Option (Bool)
 | 0, _, _, _ => none
 | k + 1, x0, x3, x4 => if x4 < x3 then (if 0 < (x0.length : Int) then (if 0 ≤ x4 then (if x4 < (((rd_T34 x0 0).f0).length : Int) then (spec_l06Ok.l1 k x0 x3 x4 [rd_T89 ((rd_T34 x0 0).f0) x4] 0) else (none)) else (none)) else (none)) else (some true)
def spec_l06Ok.l1 : Nat → List (S34) → Int → Int → List (S89) → Int → Option (Bool)
 | 0, _, _, _, _, _ => none
 | k + 1, x0, x3, x4, x5, x6 => if x6 < 3 then (if 0 < (x5.length : Int) then (if 0 ≤ x6 then ((spec_l00In.f (wrap64 (rd [(rd_T89 x5 0).f2.f0, (rd_T89 x5 0).f2.f1, (rd_T89 x5 0).f2.f2] x6)) 0 (wrap64 (x3 - 1))).bind fun t113 => (if t113 = true then (spec_l06Ok.l1 k x0 x3 x4 x5 (wrap64 (x6 + 1))) else (some false))) else (none)) else (none)) else (if 0 < (x5.length : Int) then (if ((rd_T89 x5 0).f0) = 1 then (if ((rd_T89 x5 0).f1) = 0 then (spec_l06Ok.l0 k x0 x3 (wrap64 (x4 + 1))) else (some false)) else (if ((rd_T89 x5 0).f0) = 2 then (if ((rd_T89 x5 0).f1) < (-1) then (some false) else (if ((rd_T89 x5 0).f1) > 1 then (some false) else (if ((rd_T89 x5 0).f2.f1) = 0 then (if ((rd_T89 x5 0).f2.f2) = 0 then (spec_l06Ok.l0 k x0 x3 (wrap64 (x4 + 1))) else (some false)) else (some false)))) else (some false))) else (none))
end
def spec_l06Ok.f (k : Nat) (l0 : List (S34)) : Option (Bool) := if 0 < (l0.length : Int) then ((spec_l00In.f (((rd_T34 l0 0).f0).length : Int) 1 60).bind fun t107 => (if t107 = true then (spec_l06Ok.l0 k l0 (((rd_T34 l0 0).f0).length : Int) 0) else (some false))) else (none)
theorem spec_l06Ok.mono_l : ∀ k, (∀ y0 y1 y2, LeO (spec_l06Ok.l0 k y0 y1 y2) (spec_l06Ok.l0 (k + 1) y0 y1 y2)) ∧ (∀ y0 y1 y2 y3 y4, LeO (spec_l06Ok.l1 k y0 y1 y2 y3 y4) (spec_l06Ok.l1 (k + 1) y0 y1 y2 y3 y4))
 | 0 => ⟨fun _ _ _ r h => by simp [spec_l06Ok.l0] at h, fun _ _ _ _ _ r h => by simp [spec_l06Ok.l1] at h⟩
 | k + 1 => by
  obtain ⟨ih0, ih1⟩ := spec_l06Ok.mono_l k
  refine ⟨?_, ?_⟩
  ·
   intro y0 y1 y2
   unfold spec_l06Ok.l0
   repeat' first
   | (with_reducible exact ih0 _ _ _)
   | (with_reducible exact ih1 _ _ _ _ _)
   | (with_reducible exact LeO.refl _)
   | (with_reducible exact LeO.none _)
   | (with_reducible refine LeO.ite ?_ ?_)
   | (with_reducible refine LeO.bind ?_ (fun _ => ?_))
   | exact ih0 _ _ _
   | exact ih1 _ _ _ _ _
   | exact LeO.none _
   | refine LeO.ite ?_ ?_
   | refine LeO.bind ?_ (fun _ => ?_)
  ·
   intro y0 y1 y2 y3 y4
   unfold spec_l06Ok.l1
   repeat' first
   | (with_reducible exact ih0 _ _ _)
   | (with_reducible exact ih1 _ _ _ _ _)
   | (with_reducible exact LeO.refl _)
   | (with_reducible exact LeO.none _)
   | (with_reducible refine LeO.ite ?_ ?_)
   | (with_reducible refine LeO.bind ?_ (fun _ => ?_))
   | exact ih0 _ _ _
   | exact ih1 _ _ _ _ _
   | exact LeO.none _
   | refine LeO.ite ?_ ?_
   | refine LeO.bind ?_ (fun _ => ?_)
theorem spec_l06Ok.mono : ∀ a0 k, LeO (spec_l06Ok.f k a0) (spec_l06Ok.f (k + 1) a0) := by
 intro a0 k
 obtain ⟨ih0, ih1⟩ := spec_l06Ok.mono_l k
 unfold spec_l06Ok.f
 repeat' first
   | (with_reducible exact ih0 _ _ _)
   | (with_reducible exact ih1 _ _ _ _ _)
   | (with_reducible exact LeO.refl _)
   | (with_reducible exact LeO.none _)
   | (with_reducible refine LeO.ite ?_ ?_)
   | (with_reducible refine LeO.bind ?_ (fun _ => ?_))
   | exact ih0 _ _ _
   | exact ih1 _ _ _ _ _
   | exact LeO.none _
   | refine LeO.ite ?_ ?_
   | refine LeO.bind ?_ (fun _ => ?_)
set_option maxHeartbeats 8000000 in
set_option maxRecDepth 100000 in
theorem spec_l06Ok.calls (k : Nat) (A0 : Option Addr) (c0 : Nat) (l0 : List (S34)) (r : Bool) (w : World) (hr0 : Kd.C k34 w A0 l0.length l0) (hc0 : l0.length ≤ c0) (h : spec_l06Ok.f k l0 = some r) :
  Calls Try.prog 66 #[.pointer A0] w fun e w' => e = .returned (.bool r) ∧ Drawn0 w w' := by
 have HR0 := Aside0.mk hr0
 have HC0 := Aside0.mk hc0
 clear hr0 hc0
 have H : (if 0 < (l0.length : Int) then ((spec_l00In.f (((rd_T34 l0 0).f0).length : Int) 1 60).bind fun t107 => (if t107 = true then (spec_l06Ok.l0 k l0 (((rd_T34 l0 0).f0).length : Int) 0) else (some false))) else (none)) = some r := h
 clear h
 by_cases c2 : 0 < (l0.length : Int)
 ·
  rw [if_pos c2] at H
  have c2b0 : decide (0 < (l0.length : Int)) = true := decide_eq_true c2
  have c2b1 : decide (0 < l0.length) = true := decide_eq_true (by omega)
  clear c2
  replace H := Option.bind_eq_some_iff.mp H
  obtain ⟨t107, A30, H⟩ := H
  replace H : (if t107 = true then (spec_l06Ok.l0 k l0 (((rd_T34 l0 0).f0).length : Int) 0) else (some false)) = some r := H
  have A3 := Aside0.mk A30
  clear A30
  by_cases c4 : t107 = true
  ·
   subst c4
   have H1 : (spec_l06Ok.l0 k l0 (((rd_T34 l0 0).f0).length : Int) 0) = some r := by first | (rw [if_pos rfl] at H; exact H) | rfl
   clear H
   have H := H1
   clear H1
   have H' := Aside0.mk H
   clear H
   have q106 : 0 < (l0.length : Int) := of_decide_eq_true (by assumption)
   obtain ⟨ad106, A106_0, c106_0, e106, hx106_0, hl106_0, hi106_0⟩ := rp_T34 HR0.out q106
   cases e106
   have HR106_0 := Aside0.mk hi106_0
   have HC106_0 := Aside0.mk hl106_0
   clear hi106_0 hl106_0
   go_enter Try.func66, Try.ntmps66
   go_wp2_with (first | ((with_reducible refine gate_callee (f := 109) rfl ?_); refine goesL_ (some 13) rfl rfl Try.func109 (by kernel_rfl) rfl #[.int .i64 (((rd_T34 l0 0).f0).length : Int), .int .i64 1, .int .i64 60] rfl (by (try simp only [List.map_toArray, List.map_cons, List.map_nil]); first | done | rfl | (simp only [List.length_drop, List.length_take]; rfl)) ?_; (with_reducible refine (spec_l00In.calls (((rd_T34 l0 0).f0).length : Int) 1 60 true _ A3.out).mono ?_); rintro e w' ⟨rfl, ⟨nd, rfl⟩⟩; refine ⟨_, rfl, ?_⟩))
   go_loopg [4] k (fun kq v4 w' => ∃ (x4_1 : Int), v4 = .int .i64 x4_1 ∧ Aside0 (spec_l06Ok.l0 kq l0 (((rd_T34 l0 0).f0).length : Int) x4_1 = some r) ∧ Aside0 (kq ≤ k) ∧ Drawn0 w w')
   case atStart => exact ⟨(0), (by first | rfl | (simp; done) | (simp [*]; done) | (simp [isE_]; done)), H', ⟨Nat.le_refl _⟩, by repeat (first | exact Drawn0.refl _ | apply Drawn0.step)⟩
   case round =>
    clear H'
    try clear c1
    try clear q1
    try clear hx1
    try clear c2
    try clear c2b0
    try clear c2b1
    try clear p2
    try clear c4
    try clear hx106_0
    try clear q106
    obtain ⟨x4_1, rfl, HA, HK1, ⟨m1, rfl⟩⟩ := hrel
    cases gk with
    | zero => exact absurd HA.out (by simp [spec_l06Ok.l0])
    | succ k1 =>
     have H := HA.out
     clear HA
     simp only [spec_l06Ok.l0] at H
     (repeat (first | rw [rd1_T89] at H))
     by_cases c5 : x4_1 < (((rd_T34 l0 0).f0).length : Int)
     ·
      rw [if_pos c5] at H
      have c5b0 : decide (x4_1 < (((rd_T34 l0 0).f0).length : Int)) = true := decide_eq_true c5
      clear c5
      by_cases c6 : 0 < (l0.length : Int)
      ·
       rw [if_pos c6] at H
       have c6b0 : decide (0 < (l0.length : Int)) = true := decide_eq_true c6
       have c6b1 : decide (0 < l0.length) = true := decide_eq_true (by omega)
       clear c6
       by_cases c7 : 0 ≤ x4_1
       ·
        rw [if_pos c7] at H
        have c7b0 : decide (0 ≤ x4_1) = true := decide_eq_true c7
        clear c7
        by_cases c8 : x4_1 < (((rd_T34 l0 0).f0).length : Int)
        ·
         rw [if_pos c8] at H
         have c8b0 : decide (x4_1 < (((rd_T34 l0 0).f0).length : Int)) = true := decide_eq_true c8
         clear c8
         have H' := Aside0.mk H
         clear H
         have q108 : 0 < (l0.length : Int) := of_decide_eq_true (by assumption)
         obtain ⟨ad108, A108_0, c108_0, e108, hx108_0, hl108_0, hi108_0⟩ := rp_T34 HR0.out q108
         obtain rfl : ad106 = ad108 := (by injection e108)
         have HR108_0 := Aside0.mk hi108_0
         have HC108_0 := Aside0.mk hl108_0
         clear hi108_0 hl108_0
         have p109 : 0 ≤ (x4_1 : Int) := of_decide_eq_true (by assumption)
         have q109 : x4_1 < (((rd_T34 l0 0).f0).length : Int) := of_decide_eq_true (by assumption)
         obtain ⟨ad109, e109, hx109_0, hx109_1, hx109_2, hx109_3, hx109_4⟩ := at_T89 HR108_0.out x4_1 p109 q109
         cases e109
         replace p109 := eq_true p109
         replace q109 := eq_true q109
         have HR110 := Aside0.mk (show Kd.C k89 w (some (Addr.add ad109 (x4_1.toNat * 5))) [rd_T89 ((rd_T34 l0 0).f0) x4_1].length [rd_T89 ((rd_T34 l0 0).f0) x4_1] from Kd.C_el k89 z89 HR108_0.out (x4_1 : Int) (of_eq_true p109) (of_eq_true q109))
         go_wp2
         go_loopg [6] k1 (fun kq v6 w' => ∃ (x6_2 : Int), v6 = .int .i64 x6_2 ∧ Aside0 (spec_l06Ok.l1 kq l0 (((rd_T34 l0 0).f0).length : Int) x4_1 [rd_T89 ((rd_T34 l0 0).f0) x4_1] x6_2 = some r) ∧ Aside0 (kq ≤ k1) ∧ Drawn0 w w')
         case atStart => exact ⟨(0), (by first | rfl | (simp; done) | (simp [*]; done) | (simp [isE_]; done)), H', ⟨Nat.le_refl _⟩, by repeat (first | exact Drawn0.refl _ | apply Drawn0.step)⟩
         case round =>
          clear H'
          try clear c1
          try clear p1
          try clear q1
          try clear hx1
          try clear c2
          try clear c2b0
          try clear c2b1
          try clear p2
          try clear c4
          try clear c5
          try clear c5b0
          try clear c6
          try clear c6b0
          try clear c6b1
          try clear c7
          try clear c7b0
          try clear c8
          try clear c8b0
          try clear hx106_0
          try clear hx108_0
          try clear hx109_0
          try clear hx109_1
          try clear hx109_2
          try clear hx109_3
          try clear hx109_4
          try clear p109
          try clear p2
          try clear q1
          try clear q106
          try clear q108
          try clear q109
          obtain ⟨x6_2, rfl, HA, HK2, ⟨m2, rfl⟩⟩ := hrel
          cases gk with
          | zero => exact absurd HA.out (by simp [spec_l06Ok.l1])
          | succ k2 =>
           have H := HA.out
           clear HA
           simp only [spec_l06Ok.l1] at H
           (repeat (first | rw [rd1_T89] at H))
           by_cases c9 : x6_2 < 3
           ·
            rw [if_pos c9] at H
            have c9b0 : decide (x6_2 < 3) = true := decide_eq_true c9
            clear c9
            by_cases c10 : 0 < ([rd_T89 ((rd_T34 l0 0).f0) x4_1].length : Int)
            ·
             rw [if_pos c10] at H
             have c10b0 : decide (0 < ([rd_T89 ((rd_T34 l0 0).f0) x4_1].length : Int)) = true := decide_eq_true c10
             have c10b1 : decide (0 < [rd_T89 ((rd_T34 l0 0).f0) x4_1].length) = true := decide_eq_true (by omega)
             clear c10
             by_cases c11 : 0 ≤ x6_2
             ·
              rw [if_pos c11] at H
              have c11b0 : decide (0 ≤ x6_2) = true := decide_eq_true c11
              clear c11
              replace H := Option.bind_eq_some_iff.mp H
              obtain ⟨t113, A120, H⟩ := H
              replace H : (if t113 = true then (spec_l06Ok.l1 k2 l0 (((rd_T34 l0 0).f0).length : Int) x4_1 [rd_T89 ((rd_T34 l0 0).f0) x4_1] (wrap64 (x6_2 + 1))) else (some false)) = some r := H
              have A12 := Aside0.mk A120
              clear A120
              by_cases c13 : t113 = true
              ·
               subst c13
               have H1 : (spec_l06Ok.l1 k2 l0 (((rd_T34 l0 0).f0).length : Int) x4_1 [rd_T89 ((rd_T34 l0 0).f0) x4_1] (wrap64 (x6_2 + 1))) = some r := by first | (rw [if_pos rfl] at H; exact H) | rfl
               clear H
               have H := H1
               clear H1
               have H' := Aside0.mk H
               clear H
               have q111 : 0 < ([rd_T89 ((rd_T34 l0 0).f0) x4_1].length : Int) := of_decide_eq_true (by assumption)
               obtain ⟨ad111, e111, hx111_0, hx111_1, hx111_2, hx111_3, hx111_4⟩ := rp_T89 HR110.out q111
               (try simp only [rd1_T89] at hx111_0 hx111_1 hx111_2 hx111_3 hx111_4)
               obtain rfl : (Addr.add ad109 (x4_1.toNat * 5)) = ad111 := (by injection e111)
               have p112 : 0 ≤ (x6_2 : Int) := of_decide_eq_true (by assumption)
               have q112 : (x6_2 : Int) < 3 := of_decide_eq_true (by assumption)
               have hx112_0 := cell_arr3 hx111_2 hx111_3 hx111_4 x6_2 p112 q112
               (try simp only [Nat.zero_add, Nat.add_zero] at hx112_0)
               replace p112 := eq_true p112
               replace q112 := eq_true q112
               go_wp2_with (first | ((with_reducible refine gate_callee (f := 109) rfl ?_); refine goesL_ (some 39) rfl rfl Try.func109 (by kernel_rfl) rfl #[.int .i64 (wrap64 (rd [(rd_T89 ((rd_T34 l0 0).f0) x4_1).f2.f0, (rd_T89 ((rd_T34 l0 0).f0) x4_1).f2.f1, (rd_T89 ((rd_T34 l0 0).f0) x4_1).f2.f2] x6_2)), .int .i64 0, .int .i64 (wrap64 ((((rd_T34 l0 0).f0).length : Int) - 1))] rfl (by (try simp only [List.map_toArray, List.map_cons, List.map_nil]); first | done | rfl | (simp only [List.length_drop, List.length_take]; rfl)) ?_; (with_reducible refine (spec_l00In.calls (wrap64 (rd [(rd_T89 ((rd_T34 l0 0).f0) x4_1).f2.f0, (rd_T89 ((rd_T34 l0 0).f0) x4_1).f2.f1, (rd_T89 ((rd_T34 l0 0).f0) x4_1).f2.f2] x6_2)) 0 (wrap64 ((((rd_T34 l0 0).f0).length : Int) - 1)) true _ A12.out).mono ?_); rintro e w' ⟨rfl, ⟨nd, rfl⟩⟩; refine ⟨_, rfl, ?_⟩))
               go_roundg k2
               case measure => have := HK1.out; have := HK2.out; omega
               case rel => exact ⟨(wrap64 (x6_2 + 1)), (by first | rfl | (simp; done) | (simp [*]; done) | (simp [isE_]; done)), H', ⟨by have := HK1.out; have := HK2.out; omega⟩, by repeat (first | exact Drawn0.refl _ | apply Drawn0.step)⟩
              ·
               replace c13 := Bool.eq_false_iff.mpr c13
               subst c13
               have H1 : (some false) = some r := by first | (rw [if_neg (show ¬ (false = true) by decide)] at H; exact H) | rfl
               clear H
               have H := H1
               clear H1
               obtain rfl := Option.some.inj H
               have q111 : 0 < ([rd_T89 ((rd_T34 l0 0).f0) x4_1].length : Int) := of_decide_eq_true (by assumption)
               obtain ⟨ad111, e111, hx111_0, hx111_1, hx111_2, hx111_3, hx111_4⟩ := rp_T89 HR110.out q111
               (try simp only [rd1_T89] at hx111_0 hx111_1 hx111_2 hx111_3 hx111_4)
               obtain rfl : (Addr.add ad109 (x4_1.toNat * 5)) = ad111 := (by injection e111)
               have p112 : 0 ≤ (x6_2 : Int) := of_decide_eq_true (by assumption)
               have q112 : (x6_2 : Int) < 3 := of_decide_eq_true (by assumption)
               have hx112_0 := cell_arr3 hx111_2 hx111_3 hx111_4 x6_2 p112 q112
               (try simp only [Nat.zero_add, Nat.add_zero] at hx112_0)
               replace p112 := eq_true p112
               replace q112 := eq_true q112
               go_wp2_with (first | ((with_reducible refine gate_callee (f := 109) rfl ?_); refine goesL_ (some 39) rfl rfl Try.func109 (by kernel_rfl) rfl #[.int .i64 (wrap64 (rd [(rd_T89 ((rd_T34 l0 0).f0) x4_1).f2.f0, (rd_T89 ((rd_T34 l0 0).f0) x4_1).f2.f1, (rd_T89 ((rd_T34 l0 0).f0) x4_1).f2.f2] x6_2)), .int .i64 0, .int .i64 (wrap64 ((((rd_T34 l0 0).f0).length : Int) - 1))] rfl (by (try simp only [List.map_toArray, List.map_cons, List.map_nil]); first | done | rfl | (simp only [List.length_drop, List.length_take]; rfl)) ?_; (with_reducible refine (spec_l00In.calls (wrap64 (rd [(rd_T89 ((rd_T34 l0 0).f0) x4_1).f2.f0, (rd_T89 ((rd_T34 l0 0).f0) x4_1).f2.f1, (rd_T89 ((rd_T34 l0 0).f0) x4_1).f2.f2] x6_2)) 0 (wrap64 ((((rd_T34 l0 0).f0).length : Int) - 1)) false _ A12.out).mono ?_); rintro e w' ⟨rfl, ⟨nd, rfl⟩⟩; refine ⟨_, rfl, ?_⟩))
               go_ret
               exact ⟨by first | rfl | (simp; done) | (simp [*]; done) | (simp [isE_]; done), by repeat (first | exact Drawn0.refl _ | apply Drawn0.step)⟩
             ·
              rw [if_neg c11] at H
              exact absurd H (by simp)
            ·
             rw [if_neg c10] at H
             exact absurd H (by simp)
           ·
            rw [if_neg c9] at H
            have c9b0 : decide (x6_2 < 3) = false := decide_eq_false c9
            clear c9
            by_cases c14 : 0 < ([rd_T89 ((rd_T34 l0 0).f0) x4_1].length : Int)
            ·
             rw [if_pos c14] at H
             have c14b0 : decide (0 < ([rd_T89 ((rd_T34 l0 0).f0) x4_1].length : Int)) = true := decide_eq_true c14
             have c14b1 : decide (0 < [rd_T89 ((rd_T34 l0 0).f0) x4_1].length) = true := decide_eq_true (by omega)
             clear c14
             by_cases c15 : ((rd_T89 ((rd_T34 l0 0).f0) x4_1).f0) = 1
             ·
              rw [if_pos c15] at H
              have c15b0 : (((rd_T89 ((rd_T34 l0 0).f0) x4_1).f0) == 1) = true := beq_iff_eq.mpr c15
              have c15b1 : (((rd_T89 ((rd_T34 l0 0).f0) x4_1).f0) != 1) = false := bne_eq_false_iff_eq.mpr c15
              clear c15
              by_cases c16 : ((rd_T89 ((rd_T34 l0 0).f0) x4_1).f1) = 0
              ·
               rw [if_pos c16] at H
               have c16b0 : (((rd_T89 ((rd_T34 l0 0).f0) x4_1).f1) == 0) = true := beq_iff_eq.mpr c16
               have c16b1 : (((rd_T89 ((rd_T34 l0 0).f0) x4_1).f1) != 0) = false := bne_eq_false_iff_eq.mpr c16
               clear c16
               have H' := Aside0.mk H
               clear H
               have q114 : 0 < ([rd_T89 ((rd_T34 l0 0).f0) x4_1].length : Int) := of_decide_eq_true (by assumption)
               obtain ⟨ad114, e114, hx114_0, hx114_1, hx114_2, hx114_3, hx114_4⟩ := rp_T89 HR110.out q114
               (try simp only [rd1_T89] at hx114_0 hx114_1 hx114_2 hx114_3 hx114_4)
               obtain rfl : (Addr.add ad109 (x4_1.toNat * 5)) = ad114 := (by injection e114)
               go_wp2
               go_roundg k2
               case measure => have := HK1.out; have := HK2.out; omega
               case rel => exact ⟨(wrap64 (x4_1 + 1)), (by first | rfl | (simp; done) | (simp [*]; done) | (simp [isE_]; done)), H', ⟨by have := HK1.out; have := HK2.out; omega⟩, by repeat (first | exact Drawn0.refl _ | apply Drawn0.step)⟩
              ·
               rw [if_neg c16] at H
               have c16b0 : (((rd_T89 ((rd_T34 l0 0).f0) x4_1).f1) == 0) = false := beq_eq_false_iff_ne.mpr c16
               have c16b1 : (((rd_T89 ((rd_T34 l0 0).f0) x4_1).f1) != 0) = true := bne_iff_ne.mpr c16
               obtain rfl := Option.some.inj H
               have q114 : 0 < ([rd_T89 ((rd_T34 l0 0).f0) x4_1].length : Int) := of_decide_eq_true (by assumption)
               obtain ⟨ad114, e114, hx114_0, hx114_1, hx114_2, hx114_3, hx114_4⟩ := rp_T89 HR110.out q114
               (try simp only [rd1_T89] at hx114_0 hx114_1 hx114_2 hx114_3 hx114_4)
               obtain rfl : (Addr.add ad109 (x4_1.toNat * 5)) = ad114 := (by injection e114)
               go_wp2
               go_ret
               exact ⟨by first | rfl | (simp; done) | (simp [*]; done) | (simp [isE_]; done), by repeat (first | exact Drawn0.refl _ | apply Drawn0.step)⟩
             ·
              rw [if_neg c15] at H
              have c15b0 : (((rd_T89 ((rd_T34 l0 0).f0) x4_1).f0) == 1) = false := beq_eq_false_iff_ne.mpr c15
              have c15b1 : (((rd_T89 ((rd_T34 l0 0).f0) x4_1).f0) != 1) = true := bne_iff_ne.mpr c15
              by_cases c17 : ((rd_T89 ((rd_T34 l0 0).f0) x4_1).f0) = 2
              ·
               rw [if_pos c17] at H
               have c17b0 : (((rd_T89 ((rd_T34 l0 0).f0) x4_1).f0) == 2) = true := beq_iff_eq.mpr c17
               have c17b1 : (((rd_T89 ((rd_T34 l0 0).f0) x4_1).f0) != 2) = false := bne_eq_false_iff_eq.mpr c17
               clear c17
               by_cases c18 : ((rd_T89 ((rd_T34 l0 0).f0) x4_1).f1) < (-1)
               ·
                rw [if_pos c18] at H
                have c18b0 : decide (((rd_T89 ((rd_T34 l0 0).f0) x4_1).f1) < (-1)) = true := decide_eq_true c18
                clear c18
                obtain rfl := Option.some.inj H
                have q114 : 0 < ([rd_T89 ((rd_T34 l0 0).f0) x4_1].length : Int) := of_decide_eq_true (by assumption)
                obtain ⟨ad114, e114, hx114_0, hx114_1, hx114_2, hx114_3, hx114_4⟩ := rp_T89 HR110.out q114
                (try simp only [rd1_T89] at hx114_0 hx114_1 hx114_2 hx114_3 hx114_4)
                obtain rfl : (Addr.add ad109 (x4_1.toNat * 5)) = ad114 := (by injection e114)
                go_wp2
                go_ret
                exact ⟨by first | rfl | (simp; done) | (simp [*]; done) | (simp [isE_]; done), by repeat (first | exact Drawn0.refl _ | apply Drawn0.step)⟩
               ·
                rw [if_neg c18] at H
                have c18b0 : decide (((rd_T89 ((rd_T34 l0 0).f0) x4_1).f1) < (-1)) = false := decide_eq_false c18
                clear c18
                by_cases c19 : ((rd_T89 ((rd_T34 l0 0).f0) x4_1).f1) > 1
                ·
                 rw [if_pos c19] at H
                 have c19b0 : decide (1 < ((rd_T89 ((rd_T34 l0 0).f0) x4_1).f1)) = true := decide_eq_true c19
                 clear c19
                 obtain rfl := Option.some.inj H
                 have q114 : 0 < ([rd_T89 ((rd_T34 l0 0).f0) x4_1].length : Int) := of_decide_eq_true (by assumption)
                 obtain ⟨ad114, e114, hx114_0, hx114_1, hx114_2, hx114_3, hx114_4⟩ := rp_T89 HR110.out q114
                 (try simp only [rd1_T89] at hx114_0 hx114_1 hx114_2 hx114_3 hx114_4)
                 obtain rfl : (Addr.add ad109 (x4_1.toNat * 5)) = ad114 := (by injection e114)
                 go_wp2
                 go_ret
                 exact ⟨by first | rfl | (simp; done) | (simp [*]; done) | (simp [isE_]; done), by repeat (first | exact Drawn0.refl _ | apply Drawn0.step)⟩
                ·
                 rw [if_neg c19] at H
                 have c19b0 : decide (1 < ((rd_T89 ((rd_T34 l0 0).f0) x4_1).f1)) = false := decide_eq_false c19
                 clear c19
                 by_cases c20 : ((rd_T89 ((rd_T34 l0 0).f0) x4_1).f2.f1) = 0
                 ·
                  rw [if_pos c20] at H
                  have c20b0 : (((rd_T89 ((rd_T34 l0 0).f0) x4_1).f2.f1) == 0) = true := beq_iff_eq.mpr c20
                  have c20b1 : (((rd_T89 ((rd_T34 l0 0).f0) x4_1).f2.f1) != 0) = false := bne_eq_false_iff_eq.mpr c20
                  clear c20
                  by_cases c21 : ((rd_T89 ((rd_T34 l0 0).f0) x4_1).f2.f2) = 0
                  ·
                   rw [if_pos c21] at H
                   have c21b0 : (((rd_T89 ((rd_T34 l0 0).f0) x4_1).f2.f2) == 0) = true := beq_iff_eq.mpr c21
                   have c21b1 : (((rd_T89 ((rd_T34 l0 0).f0) x4_1).f2.f2) != 0) = false := bne_eq_false_iff_eq.mpr c21
                   clear c21
                   have H' := Aside0.mk H
                   clear H
                   have q114 : 0 < ([rd_T89 ((rd_T34 l0 0).f0) x4_1].length : Int) := of_decide_eq_true (by assumption)
                   obtain ⟨ad114, e114, hx114_0, hx114_1, hx114_2, hx114_3, hx114_4⟩ := rp_T89 HR110.out q114
                   (try simp only [rd1_T89] at hx114_0 hx114_1 hx114_2 hx114_3 hx114_4)
                   obtain rfl : (Addr.add ad109 (x4_1.toNat * 5)) = ad114 := (by injection e114)
                   go_wp2
                   go_roundg k2
                   case measure => have := HK1.out; have := HK2.out; omega
                   case rel => exact ⟨(wrap64 (x4_1 + 1)), (by first | rfl | (simp; done) | (simp [*]; done) | (simp [isE_]; done)), H', ⟨by have := HK1.out; have := HK2.out; omega⟩, by repeat (first | exact Drawn0.refl _ | apply Drawn0.step)⟩
                  ·
                   rw [if_neg c21] at H
                   have c21b0 : (((rd_T89 ((rd_T34 l0 0).f0) x4_1).f2.f2) == 0) = false := beq_eq_false_iff_ne.mpr c21
                   have c21b1 : (((rd_T89 ((rd_T34 l0 0).f0) x4_1).f2.f2) != 0) = true := bne_iff_ne.mpr c21
                   obtain rfl := Option.some.inj H
                   have q114 : 0 < ([rd_T89 ((rd_T34 l0 0).f0) x4_1].length : Int) := of_decide_eq_true (by assumption)
                   obtain ⟨ad114, e114, hx114_0, hx114_1, hx114_2, hx114_3, hx114_4⟩ := rp_T89 HR110.out q114
                   (try simp only [rd1_T89] at hx114_0 hx114_1 hx114_2 hx114_3 hx114_4)
                   obtain rfl : (Addr.add ad109 (x4_1.toNat * 5)) = ad114 := (by injection e114)
                   go_wp2
                   go_ret
                   exact ⟨by first | rfl | (simp; done) | (simp [*]; done) | (simp [isE_]; done), by repeat (first | exact Drawn0.refl _ | apply Drawn0.step)⟩
                 ·
                  rw [if_neg c20] at H
                  have c20b0 : (((rd_T89 ((rd_T34 l0 0).f0) x4_1).f2.f1) == 0) = false := beq_eq_false_iff_ne.mpr c20
                  have c20b1 : (((rd_T89 ((rd_T34 l0 0).f0) x4_1).f2.f1) != 0) = true := bne_iff_ne.mpr c20
                  obtain rfl := Option.some.inj H
                  have q114 : 0 < ([rd_T89 ((rd_T34 l0 0).f0) x4_1].length : Int) := of_decide_eq_true (by assumption)
                  obtain ⟨ad114, e114, hx114_0, hx114_1, hx114_2, hx114_3, hx114_4⟩ := rp_T89 HR110.out q114
                  (try simp only [rd1_T89] at hx114_0 hx114_1 hx114_2 hx114_3 hx114_4)
                  obtain rfl : (Addr.add ad109 (x4_1.toNat * 5)) = ad114 := (by injection e114)
                  go_wp2
                  go_ret
                  exact ⟨by first | rfl | (simp; done) | (simp [*]; done) | (simp [isE_]; done), by repeat (first | exact Drawn0.refl _ | apply Drawn0.step)⟩
              ·
               rw [if_neg c17] at H
               have c17b0 : (((rd_T89 ((rd_T34 l0 0).f0) x4_1).f0) == 2) = false := beq_eq_false_iff_ne.mpr c17
               have c17b1 : (((rd_T89 ((rd_T34 l0 0).f0) x4_1).f0) != 2) = true := bne_iff_ne.mpr c17
               obtain rfl := Option.some.inj H
               have q114 : 0 < ([rd_T89 ((rd_T34 l0 0).f0) x4_1].length : Int) := of_decide_eq_true (by assumption)
               obtain ⟨ad114, e114, hx114_0, hx114_1, hx114_2, hx114_3, hx114_4⟩ := rp_T89 HR110.out q114
               (try simp only [rd1_T89] at hx114_0 hx114_1 hx114_2 hx114_3 hx114_4)
               obtain rfl : (Addr.add ad109 (x4_1.toNat * 5)) = ad114 := (by injection e114)
               go_wp2
               go_ret
               exact ⟨by first | rfl | (simp; done) | (simp [*]; done) | (simp [isE_]; done), by repeat (first | exact Drawn0.refl _ | apply Drawn0.step)⟩
            ·
             rw [if_neg c14] at H
             exact absurd H (by simp)
        ·
         rw [if_neg c8] at H
         exact absurd H (by simp)
       ·
        rw [if_neg c7] at H
        exact absurd H (by simp)
      ·
       rw [if_neg c6] at H
       exact absurd H (by simp)
     ·
      rw [if_neg c5] at H
      have c5b0 : decide (x4_1 < (((rd_T34 l0 0).f0).length : Int)) = false := decide_eq_false c5
      clear c5
      obtain rfl := Option.some.inj H
      go_wp2
      go_ret
      exact ⟨by first | rfl | (simp; done) | (simp [*]; done) | (simp [isE_]; done), by repeat (first | exact Drawn0.refl _ | apply Drawn0.step)⟩
  ·
   replace c4 := Bool.eq_false_iff.mpr c4
   subst c4
   have H1 : (some false) = some r := by first | (rw [if_neg (show ¬ (false = true) by decide)] at H; exact H) | rfl
   clear H
   have H := H1
   clear H1
   obtain rfl := Option.some.inj H
   have q106 : 0 < (l0.length : Int) := of_decide_eq_true (by assumption)
   obtain ⟨ad106, A106_0, c106_0, e106, hx106_0, hl106_0, hi106_0⟩ := rp_T34 HR0.out q106
   cases e106
   have HR106_0 := Aside0.mk hi106_0
   have HC106_0 := Aside0.mk hl106_0
   clear hi106_0 hl106_0
   go_enter Try.func66, Try.ntmps66
   go_wp2_with (first | ((with_reducible refine gate_callee (f := 109) rfl ?_); refine goesL_ (some 13) rfl rfl Try.func109 (by kernel_rfl) rfl #[.int .i64 (((rd_T34 l0 0).f0).length : Int), .int .i64 1, .int .i64 60] rfl (by (try simp only [List.map_toArray, List.map_cons, List.map_nil]); first | done | rfl | (simp only [List.length_drop, List.length_take]; rfl)) ?_; (with_reducible refine (spec_l00In.calls (((rd_T34 l0 0).f0).length : Int) 1 60 false _ A3.out).mono ?_); rintro e w' ⟨rfl, ⟨nd, rfl⟩⟩; refine ⟨_, rfl, ?_⟩))
   go_ret
   exact ⟨by first | rfl | (simp; done) | (simp [*]; done) | (simp [isE_]; done), by repeat (first | exact Drawn0.refl _ | apply Drawn0.step)⟩
 ·
  rw [if_neg c2] at H
  exact absurd H (by simp)
/-! ### spec_l03Digits: function 135 -/
def spec_l03Digits.l0 : Nat → List Int → Int → Option (Bool)
 | 0, _, _ => none
 | k + 1, x0, x3 => if x3 < (x0.length : Int) then (if 0 ≤ x3 then (if (rd x0 x3) < (-1) then (some false) else (if (rd x0 x3) > 1 then (some false) else (spec_l03Digits.l0 k x0 (wrap64 (x3 + 1))))) else (none)) else (some true)
def spec_l03Digits.f (k : Nat) (l0 : List Int) : Option (Bool) := spec_l03Digits.l0 k l0 0
theorem spec_l03Digits.mono_l : ∀ k, (∀ y0 y1, LeO (spec_l03Digits.l0 k y0 y1) (spec_l03Digits.l0 (k + 1) y0 y1))
 | 0 => fun _ _ r h => by simp [spec_l03Digits.l0] at h
 | k + 1 => by
  have ih0 := spec_l03Digits.mono_l k
  ·
   intro y0 y1
   unfold spec_l03Digits.l0
   repeat' first
   | (with_reducible exact ih0 _ _)
   | (with_reducible exact LeO.refl _)
   | (with_reducible exact LeO.none _)
   | (with_reducible refine LeO.ite ?_ ?_)
   | (with_reducible refine LeO.bind ?_ (fun _ => ?_))
   | exact ih0 _ _
   | exact LeO.none _
   | refine LeO.ite ?_ ?_
   | refine LeO.bind ?_ (fun _ => ?_)
theorem spec_l03Digits.mono : ∀ a0 k, LeO (spec_l03Digits.f k a0) (spec_l03Digits.f (k + 1) a0) := by
 intro a0 k
 have ih0 := spec_l03Digits.mono_l k
 unfold spec_l03Digits.f
 repeat' first
   | (with_reducible exact ih0 _ _)
   | (with_reducible exact LeO.refl _)
   | (with_reducible exact LeO.none _)
   | (with_reducible refine LeO.ite ?_ ?_)
   | (with_reducible refine LeO.bind ?_ (fun _ => ?_))
   | exact ih0 _ _
   | exact LeO.none _
   | refine LeO.ite ?_ ?_
   | refine LeO.bind ?_ (fun _ => ?_)
set_option maxHeartbeats 8000000 in
set_option maxRecDepth 100000 in
theorem spec_l03Digits.calls (k : Nat) (A0 : Option Addr) (c0 : Nat) (l0 : List Int) (r : Bool) (w : World) (hr0 : Kd.C (Kd.int .i8) w A0 l0.length l0) (hc0 : l0.length ≤ c0) (h : spec_l03Digits.f k l0 = some r) :
  Calls Try.prog 135 #[.slice A0 l0.length c0] w fun e w' => e = .returned (.bool r) ∧ Drawn0 w w' := by
 have HR0 := Aside0.mk hr0
 have HC0 := Aside0.mk hc0
 clear hr0 hc0
 have H : (spec_l03Digits.l0 k l0 0) = some r := h
 clear h
 have H' := Aside0.mk H
 clear H
 go_enter Try.func135, Try.ntmps135
 go_wp2
 go_loopg [3] k (fun kq v3 w' => ∃ (x3_1 : Int), v3 = .int .i64 x3_1 ∧ Aside0 (spec_l03Digits.l0 kq l0 x3_1 = some r) ∧ Aside0 (kq ≤ k) ∧ Drawn0 w w')
 case atStart => exact ⟨(0), (by first | rfl | (simp; done) | (simp [*]; done) | (simp [isE_]; done)), H', ⟨Nat.le_refl _⟩, by repeat (first | exact Drawn0.refl _ | apply Drawn0.step)⟩
 case round =>
  clear H'
  try clear c1
  obtain ⟨x3_1, rfl, HA, HK1, ⟨m1, rfl⟩⟩ := hrel
  cases gk with
  | zero => exact absurd HA.out (by simp [spec_l03Digits.l0])
  | succ k1 =>
   have H := HA.out
   clear HA
   simp only [spec_l03Digits.l0] at H
   by_cases c2 : x3_1 < (l0.length : Int)
   ·
    rw [if_pos c2] at H
    have c2b0 : decide (x3_1 < (l0.length : Int)) = true := decide_eq_true c2
    clear c2
    by_cases c3 : 0 ≤ x3_1
    ·
     rw [if_pos c3] at H
     have c3b0 : decide (0 ≤ x3_1) = true := decide_eq_true c3
     clear c3
     by_cases c4 : (rd l0 x3_1) < (-1)
     ·
      rw [if_pos c4] at H
      have c4b0 : decide ((rd l0 x3_1) < (-1)) = true := decide_eq_true c4
      clear c4
      obtain rfl := Option.some.inj H
      have p115 : 0 ≤ (x3_1 : Int) := of_decide_eq_true (by assumption)
      have q115 : x3_1 < (l0.length : Int) := of_decide_eq_true (by assumption)
      obtain ⟨ad115, e115, hx115_0⟩ := Kd.at_int HR0.out x3_1 p115 q115
      cases e115
      replace p115 := eq_true p115
      replace q115 := eq_true q115
      go_wp2
      go_ret
      exact ⟨by first | rfl | (simp; done) | (simp [*]; done) | (simp [isE_]; done), by repeat (first | exact Drawn0.refl _ | apply Drawn0.step)⟩
     ·
      rw [if_neg c4] at H
      have c4b0 : decide ((rd l0 x3_1) < (-1)) = false := decide_eq_false c4
      clear c4
      by_cases c5 : (rd l0 x3_1) > 1
      ·
       rw [if_pos c5] at H
       have c5b0 : decide (1 < (rd l0 x3_1)) = true := decide_eq_true c5
       clear c5
       obtain rfl := Option.some.inj H
       have p115 : 0 ≤ (x3_1 : Int) := of_decide_eq_true (by assumption)
       have q115 : x3_1 < (l0.length : Int) := of_decide_eq_true (by assumption)
       obtain ⟨ad115, e115, hx115_0⟩ := Kd.at_int HR0.out x3_1 p115 q115
       cases e115
       replace p115 := eq_true p115
       replace q115 := eq_true q115
       have p116 : 0 ≤ (x3_1 : Int) := of_decide_eq_true (by assumption)
       have q116 : x3_1 < (l0.length : Int) := of_decide_eq_true (by assumption)
       obtain ⟨ad116, e116, hx116_0⟩ := Kd.at_int HR0.out x3_1 p116 q116
       obtain rfl : ad115 = ad116 := (by injection e116)
       replace p116 := eq_true p116
       replace q116 := eq_true q116
       go_wp2
       go_ret
       exact ⟨by first | rfl | (simp; done) | (simp [*]; done) | (simp [isE_]; done), by repeat (first | exact Drawn0.refl _ | apply Drawn0.step)⟩
      ·
       rw [if_neg c5] at H
       have c5b0 : decide (1 < (rd l0 x3_1)) = false := decide_eq_false c5
       clear c5
       have H' := Aside0.mk H
       clear H
       have p115 : 0 ≤ (x3_1 : Int) := of_decide_eq_true (by assumption)
       have q115 : x3_1 < (l0.length : Int) := of_decide_eq_true (by assumption)
       obtain ⟨ad115, e115, hx115_0⟩ := Kd.at_int HR0.out x3_1 p115 q115
       cases e115
       replace p115 := eq_true p115
       replace q115 := eq_true q115
       have p116 : 0 ≤ (x3_1 : Int) := of_decide_eq_true (by assumption)
       have q116 : x3_1 < (l0.length : Int) := of_decide_eq_true (by assumption)
       obtain ⟨ad116, e116, hx116_0⟩ := Kd.at_int HR0.out x3_1 p116 q116
       obtain rfl : ad115 = ad116 := (by injection e116)
       replace p116 := eq_true p116
       replace q116 := eq_true q116
       go_wp2
       go_roundg k1
       case measure => have := HK1.out; omega
       case rel => exact ⟨(wrap64 (x3_1 + 1)), (by first | rfl | (simp; done) | (simp [*]; done) | (simp [isE_]; done)), H', ⟨by have := HK1.out; omega⟩, by repeat (first | exact Drawn0.refl _ | apply Drawn0.step)⟩
    ·
     rw [if_neg c3] at H
     exact absurd H (by simp)
   ·
    rw [if_neg c2] at H
    have c2b0 : decide (x3_1 < (l0.length : Int)) = false := decide_eq_false c2
    clear c2
    obtain rfl := Option.some.inj H
    go_wp2
    go_ret
    exact ⟨by first | rfl | (simp; done) | (simp [*]; done) | (simp [isE_]; done), by repeat (first | exact Drawn0.refl _ | apply Drawn0.step)⟩
/-! ### spec_l03Ok: function 98 -/
def spec_l03Ok.f (k : Nat) (l0 : List (S36)) : Option (Bool) := if 0 < (l0.length : Int) then (if (((rd_T36 l0 0).f0).length : Int) ≤ 16 then ((spec_l00In.f (((rd_T36 l0 0).f1).length : Int) 1 14).bind fun t118 => (if t118 = true then ((spec_l03Digits.f k ((rd_T36 l0 0).f0)).bind fun t119 => (if t119 = true then ((spec_l03Digits.f k ((rd_T36 l0 0).f1)).bind fun t120 => (some t120)) else (some false))) else (some false))) else (some false)) else (none)
theorem spec_l03Ok.mono : ∀ a0 k, LeO (spec_l03Ok.f k a0) (spec_l03Ok.f (k + 1) a0) := by
 intro a0 k
 unfold spec_l03Ok.f
 repeat' first
   | (with_reducible exact spec_l03Digits.mono _ _)
   | (with_reducible exact LeO.refl _)
   | (with_reducible exact LeO.none _)
   | (with_reducible refine LeO.ite ?_ ?_)
   | (with_reducible refine LeO.bind ?_ (fun _ => ?_))
   | exact LeO.none _
   | refine LeO.ite ?_ ?_
   | refine LeO.bind ?_ (fun _ => ?_)
set_option maxHeartbeats 8000000 in
set_option maxRecDepth 100000 in
theorem spec_l03Ok.calls (k : Nat) (A0 : Option Addr) (c0 : Nat) (l0 : List (S36)) (r : Bool) (w : World) (hr0 : Kd.C k36 w A0 l0.length l0) (hc0 : l0.length ≤ c0) (h : spec_l03Ok.f k l0 = some r) :
  Calls Try.prog 98 #[.pointer A0] w fun e w' => e = .returned (.bool r) ∧ Drawn0 w w' := by
 have HR0 := Aside0.mk hr0
 have HC0 := Aside0.mk hc0
 clear hr0 hc0
 have H : (if 0 < (l0.length : Int) then (if (((rd_T36 l0 0).f0).length : Int) ≤ 16 then ((spec_l00In.f (((rd_T36 l0 0).f1).length : Int) 1 14).bind fun t118 => (if t118 = true then ((spec_l03Digits.f k ((rd_T36 l0 0).f0)).bind fun t119 => (if t119 = true then ((spec_l03Digits.f k ((rd_T36 l0 0).f1)).bind fun t120 => (some t120)) else (some false))) else (some false))) else (some false)) else (none)) = some r := h
 clear h
 by_cases c2 : 0 < (l0.length : Int)
 ·
  rw [if_pos c2] at H
  have c2b0 : decide (0 < (l0.length : Int)) = true := decide_eq_true c2
  have c2b1 : decide (0 < l0.length) = true := decide_eq_true (by omega)
  clear c2
  by_cases c3 : (((rd_T36 l0 0).f0).length : Int) ≤ 16
  ·
   rw [if_pos c3] at H
   have c3b0 : decide ((((rd_T36 l0 0).f0).length : Int) ≤ 16) = true := decide_eq_true c3
   have c3b1 : decide (((rd_T36 l0 0).f0).length ≤ 16) = true := decide_eq_true (by omega)
   clear c3
   replace H := Option.bind_eq_some_iff.mp H
   obtain ⟨t118, A40, H⟩ := H
   replace H : (if t118 = true then ((spec_l03Digits.f k ((rd_T36 l0 0).f0)).bind fun t119 => (if t119 = true then ((spec_l03Digits.f k ((rd_T36 l0 0).f1)).bind fun t120 => (some t120)) else (some false))) else (some false)) = some r := H
   have A4 := Aside0.mk A40
   clear A40
   by_cases c5 : t118 = true
   ·
    subst c5
    have H1 : ((spec_l03Digits.f k ((rd_T36 l0 0).f0)).bind fun t119 => (if t119 = true then ((spec_l03Digits.f k ((rd_T36 l0 0).f1)).bind fun t120 => (some t120)) else (some false))) = some r := by first | (rw [if_pos rfl] at H; exact H) | rfl
    clear H
    have H := H1
    clear H1
    replace H := Option.bind_eq_some_iff.mp H
    obtain ⟨t119, A60, H⟩ := H
    replace H : (if t119 = true then ((spec_l03Digits.f k ((rd_T36 l0 0).f1)).bind fun t120 => (some t120)) else (some false)) = some r := H
    have A6 := Aside0.mk A60
    clear A60
    by_cases c7 : t119 = true
    ·
     subst c7
     have H1 : ((spec_l03Digits.f k ((rd_T36 l0 0).f1)).bind fun t120 => (some t120)) = some r := by first | (rw [if_pos rfl] at H; exact H) | rfl
     clear H
     have H := H1
     clear H1
     replace H := Option.bind_eq_some_iff.mp H
     obtain ⟨t120, A80, H⟩ := H
     replace H : (some t120) = some r := H
     have A8 := Aside0.mk A80
     clear A80
     obtain rfl := Option.some.inj H
     have q117 : 0 < (l0.length : Int) := of_decide_eq_true (by assumption)
     obtain ⟨ad117, A117_0, c117_0, A117_1, c117_1, e117, hx117_0, hx117_1, hl117_0, hi117_0, hl117_1, hi117_1⟩ := rp_T36 HR0.out q117
     cases e117
     have HR117_0 := Aside0.mk hi117_0
     have HC117_0 := Aside0.mk hl117_0
     clear hi117_0 hl117_0
     have HR117_1 := Aside0.mk hi117_1
     have HC117_1 := Aside0.mk hl117_1
     clear hi117_1 hl117_1
     go_enter Try.func98, Try.ntmps98
     go_wp2_with (first | (go_at_call 109; (with_reducible refine (spec_l00In.calls (((rd_T36 l0 0).f1).length : Int) 1 14 true _ A4.out).mono ?_); rintro e w' ⟨rfl, ⟨nd, rfl⟩⟩) | (go_at_call 135; (with_reducible refine (spec_l03Digits.calls k _ _ ((rd_T36 l0 0).f0) true _ ?side1 ?side2 A6.out).mono ?_); (case side1 => repeat (first | exact HR117_0.out | (with_reducible refine Kd.C_alloc ?_ _) | (with_reducible refine Kd.C_drewN ?_ _) | (with_reducible refine Kd.C_drew ?_))); (case side2 => exact HC117_0.out); rintro e w' ⟨rfl, ⟨nd, rfl⟩⟩) | (go_at_call 135; (with_reducible refine (spec_l03Digits.calls k _ _ ((rd_T36 l0 0).f1) t120 _ ?side1 ?side2 A8.out).mono ?_); (case side1 => repeat (first | exact HR117_1.out | (with_reducible refine Kd.C_alloc ?_ _) | (with_reducible refine Kd.C_drewN ?_ _) | (with_reducible refine Kd.C_drew ?_))); (case side2 => exact HC117_1.out); rintro e w' ⟨rfl, ⟨nd, rfl⟩⟩))
     go_ret
     exact ⟨by first | rfl | (simp; done) | (simp [*]; done) | (simp [isE_]; done), by repeat (first | exact Drawn0.refl _ | apply Drawn0.step)⟩
    ·
     replace c7 := Bool.eq_false_iff.mpr c7
     subst c7
     have H1 : (some false) = some r := by first | (rw [if_neg (show ¬ (false = true) by decide)] at H; exact H) | rfl
     clear H
     have H := H1
     clear H1
     obtain rfl := Option.some.inj H
     have q117 : 0 < (l0.length : Int) := of_decide_eq_true (by assumption)
     obtain ⟨ad117, A117_0, c117_0, A117_1, c117_1, e117, hx117_0, hx117_1, hl117_0, hi117_0, hl117_1, hi117_1⟩ := rp_T36 HR0.out q117
     cases e117
     have HR117_0 := Aside0.mk hi117_0
     have HC117_0 := Aside0.mk hl117_0
     clear hi117_0 hl117_0
     have HR117_1 := Aside0.mk hi117_1
     have HC117_1 := Aside0.mk hl117_1
     clear hi117_1 hl117_1
     go_enter Try.func98, Try.ntmps98
     go_wp2_with (first | (go_at_call 109; (with_reducible refine (spec_l00In.calls (((rd_T36 l0 0).f1).length : Int) 1 14 true _ A4.out).mono ?_); rintro e w' ⟨rfl, ⟨nd, rfl⟩⟩) | (go_at_call 135; (with_reducible refine (spec_l03Digits.calls k _ _ ((rd_T36 l0 0).f0) false _ ?side1 ?side2 A6.out).mono ?_); (case side1 => repeat (first | exact HR117_0.out | (with_reducible refine Kd.C_alloc ?_ _) | (with_reducible refine Kd.C_drewN ?_ _) | (with_reducible refine Kd.C_drew ?_))); (case side2 => exact HC117_0.out); rintro e w' ⟨rfl, ⟨nd, rfl⟩⟩))
     go_ret
     exact ⟨by first | rfl | (simp; done) | (simp [*]; done) | (simp [isE_]; done), by repeat (first | exact Drawn0.refl _ | apply Drawn0.step)⟩
   ·
    replace c5 := Bool.eq_false_iff.mpr c5
    subst c5
    have H1 : (some false) = some r := by first | (rw [if_neg (show ¬ (false = true) by decide)] at H; exact H) | rfl
    clear H
    have H := H1
    clear H1
    obtain rfl := Option.some.inj H
    have q117 : 0 < (l0.length : Int) := of_decide_eq_true (by assumption)
    obtain ⟨ad117, A117_0, c117_0, A117_1, c117_1, e117, hx117_0, hx117_1, hl117_0, hi117_0, hl117_1, hi117_1⟩ := rp_T36 HR0.out q117
    cases e117
    have HR117_0 := Aside0.mk hi117_0
    have HC117_0 := Aside0.mk hl117_0
    clear hi117_0 hl117_0
    have HR117_1 := Aside0.mk hi117_1
    have HC117_1 := Aside0.mk hl117_1
    clear hi117_1 hl117_1
    go_enter Try.func98, Try.ntmps98
    go_wp2_with (first | (go_at_call 109; (with_reducible refine (spec_l00In.calls (((rd_T36 l0 0).f1).length : Int) 1 14 false _ A4.out).mono ?_); rintro e w' ⟨rfl, ⟨nd, rfl⟩⟩))
    go_ret
    exact ⟨by first | rfl | (simp; done) | (simp [*]; done) | (simp [isE_]; done), by repeat (first | exact Drawn0.refl _ | apply Drawn0.step)⟩
  ·
   rw [if_neg c3] at H
   have c3b0 : decide ((((rd_T36 l0 0).f0).length : Int) ≤ 16) = false := decide_eq_false c3
   have c3b1 : decide (((rd_T36 l0 0).f0).length ≤ 16) = false := decide_eq_false (by omega)
   clear c3
   obtain rfl := Option.some.inj H
   have q117 : 0 < (l0.length : Int) := of_decide_eq_true (by assumption)
   obtain ⟨ad117, A117_0, c117_0, A117_1, c117_1, e117, hx117_0, hx117_1, hl117_0, hi117_0, hl117_1, hi117_1⟩ := rp_T36 HR0.out q117
   cases e117
   have HR117_0 := Aside0.mk hi117_0
   have HC117_0 := Aside0.mk hl117_0
   clear hi117_0 hl117_0
   have HR117_1 := Aside0.mk hi117_1
   have HC117_1 := Aside0.mk hl117_1
   clear hi117_1 hl117_1
   go_enter Try.func98, Try.ntmps98
   go_wp2
   go_ret
   exact ⟨by first | rfl | (simp; done) | (simp [*]; done) | (simp [isE_]; done), by repeat (first | exact Drawn0.refl _ | apply Drawn0.step)⟩
 ·
  rw [if_neg c2] at H
  exact absurd H (by simp)
end Go.Proofs.Ytpfnohdnaocpdaa.PT

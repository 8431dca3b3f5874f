import Derived.Test.YtenhgmddpkiliaaPBx0
import Derived.Test.YtenhgmddpkiliaaPBx2
namespace Go.Proofs.Ytenhgmddpkiliaa.PB
open Go.RowKit Go.Proofs.YtenhgmddpkiliaaW.PrintWords Go.Proofs.YtenhgmddpkiliaaW.PrintLast Go.Proofs.YtenhgmddpkiliaaW.PrintMore Go.Proofs.YtenhgmddpkiliaaRP
attribute [local go_sem] max2_int min2_int max_two min_two max_three min_three max_four min_four Go.Proofs.YtenhgmddpkiliaaRP.max_eight Go.Proofs.YtenhgmddpkiliaaRP.tmod_len   -- for this text's walks alone
set_option linter.unusedVariables false
set_option linter.unusedSimpArgs false
theorem z3_1_ {P : Prop} (h : P := by repeat (first | (with_reducible first | exact HB.out | apply below_alloc | apply pw_below_drewN | apply below_drew1) | exact HB.out)) : P := h
theorem z3_2_ {P : Prop} (h : P := by (with_reducible repeat (first | apply Kd.Q_alloc | apply Kd.Q_drewN | apply Kd.Q_drew)); exact HO176.out) : P := h
theorem z3_3_ {P : Prop} (h : P := by (with_reducible repeat (first | apply Kd.R_alloc | apply Kd.R_drewN | apply Kd.R_drew)); exact HO_6.out) : P := h
theorem z3_4_ {P : Prop} (h : P := by first | rfl | (simp; done) | (simp [*]; done) | (simp [isE_]; done)) : P := h
theorem z3_5_ {P : Prop} (h : P := by (with_reducible repeat (first | apply Kd.R_alloc | apply Kd.R_drewN | apply Kd.R_drew)); exact HO181.out) : P := h
theorem z3_6_ {P : Prop} (h : P := by repeat (first | exact Drawn0.refl _ | apply Drawn0.step)) : P := h
theorem z3_7_ {P : Prop} (h : P := by (with_reducible repeat (first | apply Kd.R_alloc | apply Kd.R_drewN | apply Kd.R_drew)); exact HO169.out) : P := h
theorem z3_8_ {P : Prop} (h : P := by (with_reducible repeat (first | apply Kd.Q_alloc | apply Kd.Q_drewN | apply Kd.Q_drew)); exact Kd.Q_mono HO176.out (fun _ hk => hk.2)) : P := h
theorem z3_9_ {P : Prop} (h : P := by (with_reducible repeat (first | apply Kd.R_alloc | apply Kd.R_drewN | apply Kd.R_drew)); exact HO_5.out) : P := h
theorem z3_10_ {P : Prop} (h : P := by (try simp only [List.map_toArray, List.map_cons, List.map_nil]); first | done | rfl | (simp only [List.length_drop, List.length_take]; rfl)) : P := h
theorem z3_11_ {P : Prop} (h : P := by (with_reducible repeat (first | apply Kd.R_alloc | apply Kd.R_drewN | apply Kd.R_drew)); exact HO228.out) : P := h
theorem z3_12_ {P : Prop} (h : P := by first | rfl | (simp [errW_none, errW_some] <;> rfl) | (simp [*, errW_none, errW_some] <;> rfl)) : P := h
/-! ### spec_l07Needs: function 81 -/
def spec_l07Needs.l0 : Nat → List (S45) → Int → List Bool → List Int → Option (List Bool × Bool)
 | 0, _, _, _, _ => none
 | k + 1, x0, x1, x6, x7 => if (x7.length : Int) > 0 then (if 0 < (x7.length : Int) then (if 1 ≤ (x7.length : Int) then ((some (x7.drop (1 : Int).toNat : List Int)).bind fun y174 => (if (rd x7 0) < 0 then (spec_l07Needs.l0 k x0 x1 x6 y174) else (if 0 ≤ (rd x7 0) then (if (rd x7 0) < (x6.length : Int) then (if rdOf false x6 (rd x7 0) = true then (spec_l07Needs.l0 k x0 x1 x6 y174) else ((spec_l07Uses.f k x0 (rd x7 0)).bind fun t179 => (if y174.length + t179.length < 17592186044416 then (spec_l07Needs.l0 k x0 x1 (x6.set ((rd x7 0) : Int).toNat true) (y174 ++ t179)) else (none)))) else (none)) else (none)))) else (none)) else (none)) else (if 0 ≤ x1 then (if x1 < (x6.length : Int) then (some (x6, !(rdOf false x6 x1))) else (none)) else (none))
def spec_l07Needs.f (k : Nat) (l0 : List (S45)) (a1 : Int) : Option (List Bool × Bool) := if 0 ≤ (l0.length : Int) then (if ((l0.length : Int) : Int).toNat ≤ 281474976710656 then ((spec_l07Uses.f k l0 a1).bind fun t170 => (spec_l07Needs.l0 k l0 a1 (List.replicate ((l0.length : Int) : Int).toNat false) t170)) else (none)) else (none)
theorem spec_l07Needs.mono_l : ∀ k, (∀ y0 y1 y2 y3, LeO (spec_l07Needs.l0 k y0 y1 y2 y3) (spec_l07Needs.l0 (k + 1) y0 y1 y2 y3))
 | 0 => fun _ _ _ _ r h => by simp [spec_l07Needs.l0] at h
 | k + 1 => by
  have ih0 := spec_l07Needs.mono_l k
  ·
   intro y0 y1 y2 y3
   unfold spec_l07Needs.l0
   repeat' first
   | (with_reducible exact ih0 _ _ _ _)
   | (with_reducible exact spec_l07Uses.mono _ _ _)
   | (with_reducible exact LeO.refl _)
   | (with_reducible exact LeO.none _)
   | (with_reducible refine LeO.ite ?_ ?_)
   | (with_reducible refine LeO.bind ?_ (fun _ => ?_))
   | exact ih0 _ _ _ _
   | exact LeO.none _
   | refine LeO.ite ?_ ?_
   | refine LeO.bind ?_ (fun _ => ?_)
theorem spec_l07Needs.mono : ∀ a0 a1 k, LeO (spec_l07Needs.f k a0 a1) (spec_l07Needs.f (k + 1) a0 a1) := by
 intro a0 a1 k
 have ih0 := spec_l07Needs.mono_l k
 unfold spec_l07Needs.f
 repeat' first
   | (with_reducible exact ih0 _ _ _ _)
   | (with_reducible exact spec_l07Uses.mono _ _ _)
   | (with_reducible exact LeO.refl _)
   | (with_reducible exact LeO.none _)
   | (with_reducible refine LeO.ite ?_ ?_)
   | (with_reducible refine LeO.bind ?_ (fun _ => ?_))
   | exact ih0 _ _ _ _
   | exact LeO.none _
   | refine LeO.ite ?_ ?_
   | refine LeO.bind ?_ (fun _ => ?_)
set_option maxHeartbeats 8000000 in
set_option maxRecDepth 100000 in
theorem spec_l07Needs.calls (k : Nat) (A0 : Option Addr) (c0 : Nat) (l0 : List (S45)) (a1 : Int) (r1 : List Bool) (r2 : Bool) (w : World) (hr0 : Kd.C k45 w A0 l0.length l0) (hc0 : l0.length ≤ c0) (h : spec_l07Needs.f k l0 a1 = some (r1, r2)) :
  Calls Try.prog 81 #[.slice A0 l0.length c0, .int .i64 a1] w fun e w' => ∃ v0_ : Value, e = .returned (.tuple #[v0_, .bool r2]) ∧ Kd.R Kd.bool 4 w' w.heap.size (fun _ => True) v0_ r1 ∧ Below w.heap.size w w' := by
 have HR0 := A_ hr0
 have HC0 := A_ hc0
 clear hr0 hc0
 have HB := A_ (Below.refl w.heap.size w)
 have H : (if 0 ≤ (l0.length : Int) then (if ((l0.length : Int) : Int).toNat ≤ 281474976710656 then ((spec_l07Uses.f k l0 a1).bind fun t170 => (spec_l07Needs.l0 k l0 a1 (List.replicate ((l0.length : Int) : Int).toNat false) t170)) else (none)) else (none)) = some (r1, r2) := h
 clear h
 by_cases c3 : 0 ≤ (l0.length : Int)
 ·
  rw [if_pos c3] at H
  have c3b0 := eq_true c3
  have c3b1 := decide_eq_true c3
  clear c3
  by_cases c4 : ((l0.length : Int) : Int).toNat ≤ 281474976710656
  ·
   rw [if_pos c4] at H
   have c4b0 := eq_true c4
   have c4b1 := decide_eq_true c4
   clear c4
   obtain ⟨y167, hy167⟩ : ∃ y_ : List Bool, y_ = (List.replicate ((l0.length : Int) : Int).toNat false) := ⟨_, rfl⟩
   replace H : ((spec_l07Uses.f k l0 a1).bind fun t170 => (spec_l07Needs.l0 k l0 a1 y167 t170)) = some (r1, r2) := by first | (rw [hy167]; with_reducible exact H) | (have H2_ := (Option.bind_some _ _).symm.trans H; rw [hy167]; with_reducible exact H2_) | (have H2_ := (Option.bind_some _ _).symm.trans H; with_reducible exact H2_) | with_reducible exact H | (rw [hy167]; exact H) | exact H
   have Ny167 := A_ hy167
   clear hy167
   replace H := Option.bind_eq_some_iff.mp H
   obtain ⟨t170, A50, H⟩ := H
   try dsimp only at H
   have A5 := A_ A50
   clear A50
   have H' := A_ H
   clear H
   go_enter Try.func81, Try.ntmps81
   go_wp2_with (first | ((with_reducible refine gate_dst (N := 11) rfl ?_); refine Kd.R_make Kd.bool _ 4 rfl (N := 11) rfl 77 _ _ rfl (l0.length : Int) rfl rfl Try.underlying77 (.bool false) 1 info4 rfl (by decide) (by omega) false (ok := fun _ => True) (okp := fun _ => True) rfl (fun _ hk => hk) trivial (of_decide_eq_true (by assumption)) (Nat.le_trans (Nat.mul_le_mul_right _ (of_decide_eq_true (by assumption) : (l0.length : Int).toNat ≤ 281474976710656)) (by omega)) (Below.refl _ _) (Nat.le_refl _) ?_; intro v168 w6 ho7 hb hg_ hnew_; clear hg_ hnew_; (first | rw [← Ny167.out] at ho7 | (simp only [Int.reduceToNat] at ho7; rw [← Ny167.out] at ho7)); have _ := A_ (Kd.R_lower ho7 (below_size z3_1_)); have _ := A_ (below_step z3_1_ hb); clear HB; rename_i HO169 HB; clear hb ho7) | (go_at_call 104; (with_reducible refine (spec_l07Uses.calls k _ _ l0 a1 t170 _ ?side1 ?side2 A5.out).mono ?_); (case side1 => have hx_ := (Kd.C_below HR0.out HB.out); exact kc_); (case side2 => exact HC0.out); rintro e w8 ⟨v171, rfl, ho0, hb⟩; have _ := A_ (Kd.R_below z3_7_ hb); have _ := A_ (Kd.R_lower ho0 (below_size z3_1_)); have _ := A_ (below_step z3_1_ hb); clear HO169 HB; rename_i HO169 HO172 HB; (try clear hb); (try clear ho0)))
   repeat (go_quiet (first | ((with_reducible refine gate_dst (N := 11) rfl ?_); refine Kd.R_make Kd.bool _ 4 rfl (N := 11) rfl 77 _ _ rfl (l0.length : Int) rfl rfl Try.underlying77 (.bool false) 1 info4 rfl (by decide) (by omega) false (ok := fun _ => True) (okp := fun _ => True) rfl (fun _ hk => hk) trivial (of_decide_eq_true (by assumption)) (Nat.le_trans (Nat.mul_le_mul_right _ (of_decide_eq_true (by assumption) : (l0.length : Int).toNat ≤ 281474976710656)) (by omega)) (Below.refl _ _) (Nat.le_refl _) ?_; intro v168 w6 ho7 hb hg_ hnew_; clear hg_ hnew_; (first | rw [← Ny167.out] at ho7 | (simp only [Int.reduceToNat] at ho7; rw [← Ny167.out] at ho7)); have _ := A_ (Kd.R_lower ho7 (below_size z3_1_)); have _ := A_ (below_step z3_1_ hb); clear HB; rename_i HO169 HB; clear hb ho7) | (go_at_call 104; (with_reducible refine (spec_l07Uses.calls k _ _ l0 a1 t170 _ ?side1 ?side2 A5.out).mono ?_); (case side1 => have hx_ := (Kd.C_below HR0.out HB.out); exact kc_); (case side2 => exact HC0.out); rintro e w8 ⟨v171, rfl, ho0, hb⟩; have _ := A_ (Kd.R_below z3_7_ hb); have _ := A_ (Kd.R_lower ho0 (below_size z3_1_)); have _ := A_ (below_step z3_1_ hb); clear HO169 HB; rename_i HO169 HO172 HB; (try clear hb); (try clear ho0))); try go_wp2_with (first | ((with_reducible refine gate_dst (N := 11) rfl ?_); refine Kd.R_make Kd.bool _ 4 rfl (N := 11) rfl 77 _ _ rfl (l0.length : Int) rfl rfl Try.underlying77 (.bool false) 1 info4 rfl (by decide) (by omega) false (ok := fun _ => True) (okp := fun _ => True) rfl (fun _ hk => hk) trivial (of_decide_eq_true (by assumption)) (Nat.le_trans (Nat.mul_le_mul_right _ (of_decide_eq_true (by assumption) : (l0.length : Int).toNat ≤ 281474976710656)) (by omega)) (Below.refl _ _) (Nat.le_refl _) ?_; intro v168 w6 ho7 hb hg_ hnew_; clear hg_ hnew_; (first | rw [← Ny167.out] at ho7 | (simp only [Int.reduceToNat] at ho7; rw [← Ny167.out] at ho7)); have _ := A_ (Kd.R_lower ho7 (below_size z3_1_)); have _ := A_ (below_step z3_1_ hb); clear HB; rename_i HO169 HB; clear hb ho7) | (go_at_call 104; (with_reducible refine (spec_l07Uses.calls k _ _ l0 a1 t170 _ ?side1 ?side2 A5.out).mono ?_); (case side1 => have hx_ := (Kd.C_below HR0.out HB.out); exact kc_); (case side2 => exact HC0.out); rintro e w8 ⟨v171, rfl, ho0, hb⟩; have _ := A_ (Kd.R_below z3_7_ hb); have _ := A_ (Kd.R_lower ho0 (below_size z3_1_)); have _ := A_ (below_step z3_1_ hb); clear HO169 HB; rename_i HO169 HO172 HB; (try clear hb); (try clear ho0))))
   go_loopg [7] k (fun kq v7 w' => ∃ (x6_1 : List Bool) (x7_1 : List Int), Aside0 (spec_l07Needs.l0 kq l0 a1 x6_1 x7_1 = some (r1, r2)) ∧ Aside0 (kq ≤ k) ∧ Aside0 (Kd.R Kd.bool 4 w' w.heap.size (fun _ => True) v168 x6_1) ∧ Aside0 (Kd.Q (Kd.int .i64) 2 w' w.heap.size (fun _ => True) v7 x7_1) ∧ Aside0 (Below w.heap.size w w'))
   case atStart => exact ⟨(y167), (t170), H', ⟨Nat.le_refl _⟩, ⟨z3_7_⟩, ⟨Kd.Q_of_R (by (with_reducible repeat (first | apply Kd.R_alloc | apply Kd.R_drewN | apply Kd.R_drew)); exact HO172.out)⟩, ⟨z3_1_⟩⟩
   case round =>
    clear H'
    try clear p2
    try clear c3
    try clear c3b0
    try clear c3b1
    try clear c4
    try clear c4b0
    try clear c4b1
    try clear c8
    obtain ⟨x6_1, x7_1, HA, HK1, HO_6, HO_7, HB⟩ := hrel
    cases gk with
    | zero => exact absurd HA.out (by simp [spec_l07Needs.l0])
    | succ k1 =>
     have H := HA.out
     clear HA
     simp only [spec_l07Needs.l0] at H
     by_cases c9 : (x7_1.length : Int) > 0
     ·
      rw [if_pos c9] at H
      have c9b0 := decide_eq_true c9
      have c9b1 : decide (0 < x7_1.length) = true := decide_eq_true (by omega)
      clear c9
      by_cases c10 : 0 < (x7_1.length : Int)
      ·
       rw [if_pos c10] at H
       have c10b0 := decide_eq_true c10
       have c10b1 : decide (0 < x7_1.length) = true := decide_eq_true (by omega)
       clear c10
       by_cases c11 : 1 ≤ (x7_1.length : Int)
       ·
        rw [if_pos c11] at H
        have c11b0 := eq_true c11
        have c11b1 := decide_eq_true c11
        clear c11
        obtain ⟨y174, hy174⟩ : ∃ y_ : List Int, y_ = (x7_1.drop (1 : Int).toNat) := ⟨_, rfl⟩
        replace H : (if (rd x7_1 0) < 0 then (spec_l07Needs.l0 k1 l0 a1 x6_1 y174) else (if 0 ≤ (rd x7_1 0) then (if (rd x7_1 0) < (x6_1.length : Int) then (if rdOf false x6_1 (rd x7_1 0) = true then (spec_l07Needs.l0 k1 l0 a1 x6_1 y174) else ((spec_l07Uses.f k1 l0 (rd x7_1 0)).bind fun t179 => (if y174.length + t179.length < 17592186044416 then (spec_l07Needs.l0 k1 l0 a1 (x6_1.set ((rd x7_1 0) : Int).toNat true) (y174 ++ t179)) else (none)))) else (none)) else (none))) = some (r1, r2) := by first | (rw [hy174]; with_reducible exact H) | (have H2_ := (Option.bind_some _ _).symm.trans H; rw [hy174]; with_reducible exact H2_) | (have H2_ := (Option.bind_some _ _).symm.trans H; with_reducible exact H2_) | with_reducible exact H | (rw [hy174]; exact H) | exact H
        have Ny174 := A_ hy174
        clear hy174
        by_cases c12 : (rd x7_1 0) < 0
        ·
         rw [if_pos c12] at H
         have c12b0 := decide_eq_true c12
         clear c12
         have H' := A_ H
         clear H
         obtain ⟨Ao13, co13, eo13, _⟩ := Kd.Q_slice HO_7.out
         subst eo13
         have p173 : 0 ≤ (0 : Int) := (by omega)
         have q173 : 0 < (x7_1.length : Int) := of_decide_eq_true (by assumption)
         obtain ⟨ad173, e173, hx173_0⟩ := Kd.at_int (Kd.Q_reads' HO_7.out).2.2 0 p173 q173
         cases e173
         have qi173 : (0 < x7_1.length) = True := eq_true (by omega)
         (try rw [show ((0 : Int)).toNat = 0 from rfl] at hx173_0)
         (try rw [Addr.add_zero'] at hx173_0)
         replace p173 := eq_true p173
         replace q173 := eq_true q173
         have q14 : (1 : Int) ≤ ((x7_1.length : Int) : Int) := of_decide_eq_true (by assumption)
         obtain ⟨i014, hi014, _, hsz14, _⟩ := info_parts info2
         have hcut14 := cut_from (P := Try.prog) 57 2 .i64 Try.underlying57 hi014 1 hsz14 (some ad173) x7_1.length co13 1 (by omega) q14
         have hr14 := Kd.Q_drop (k := (1 : Int).toNat) HO_7.out (by omega)
         obtain ⟨A14, hA14⟩ : ∃ A1, A1 = (if co13 = (1 : Int).toNat then (some ad173) else ((some ad173) : Option Addr).map (·.add ((1 : Int).toNat * 1))) := ⟨_, rfl⟩
         obtain ⟨c14, hc14⟩ : ∃ c1, c1 = co13 - (1 : Int).toNat := ⟨_, rfl⟩
         have hy14 : y174.length = x7_1.length - (1 : Int).toNat := (by rw [Ny174.out, List.length_drop])
         rw [← Ny174.out] at hr14
         rw [← hy14, ← hA14, ← hc14] at hcut14
         replace hr14 : Kd.Q (Kd.int .i64) 2 wr w.heap.size (fun _ => True) (.slice A14 y174.length c14) y174 := (by rw [hA14, hc14, hy14]; exact hr14)
         have HE14 : Aside0 ((Value.slice A14 y174.length c14).ownBlock = (.slice (some ad173) x7_1.length co13 : Value).ownBlock) := ⟨(by rw [hA14]; split <;> (cases ((some ad173) : Option Addr) <;> rfl))⟩
         clear hy14 hi014 hsz14 HO_7 hA14 hc14
         have HO176 := A_ hr14
         clear hr14
         replace q14 := eq_true q14
         go_wp2
         repeat (go_quiet (fail); try go_wp2)
         go_roundg k1
         case measure => have := HK1.out; omega
         case rel => exact ⟨(x6_1), (y174), H', ⟨(by have := HK1.out; omega)⟩, ⟨z3_3_⟩, ⟨z3_2_⟩, ⟨z3_1_⟩⟩
        ·
         rw [if_neg c12] at H
         have c12b0 := decide_eq_false c12
         clear c12
         by_cases c15 : 0 ≤ (rd x7_1 0)
         ·
          rw [if_pos c15] at H
          have c15b0 := decide_eq_true c15
          clear c15
          by_cases c16 : (rd x7_1 0) < (x6_1.length : Int)
          ·
           rw [if_pos c16] at H
           have c16b0 := decide_eq_true c16
           clear c16
           obtain ⟨bq17, hbq17⟩ : ∃ b_ : Bool, b_ = (rdOf false x6_1 (rd x7_1 0)) := ⟨_, rfl⟩
           replace H : (if bq17 = true then (spec_l07Needs.l0 k1 l0 a1 x6_1 y174) else ((spec_l07Uses.f k1 l0 (rd x7_1 0)).bind fun t179 => (if y174.length + t179.length < 17592186044416 then (spec_l07Needs.l0 k1 l0 a1 (x6_1.set ((rd x7_1 0) : Int).toNat true) (y174 ++ t179)) else (none)))) = some (r1, r2) := by rw [← hbq17] at H; exact H
           have Nbq17 := A_ hbq17
           clear hbq17
           by_cases c18 : bq17 = true
           ·
            subst c18
            have H1 := H; rw [if_pos rfl] at H1
            clear H
            have H := H1
            clear H1
            have H' := A_ H
            clear H
            obtain ⟨Ao19, co19, eo19, _⟩ := Kd.Q_slice HO_7.out
            subst eo19
            have p173 : 0 ≤ (0 : Int) := (by omega)
            have q173 : 0 < (x7_1.length : Int) := of_decide_eq_true (by assumption)
            obtain ⟨ad173, e173, hx173_0⟩ := Kd.at_int (Kd.Q_reads' HO_7.out).2.2 0 p173 q173
            cases e173
            have qi173 : (0 < x7_1.length) = True := eq_true (by omega)
            (try rw [show ((0 : Int)).toNat = 0 from rfl] at hx173_0)
            (try rw [Addr.add_zero'] at hx173_0)
            replace p173 := eq_true p173
            replace q173 := eq_true q173
            have q20 : (1 : Int) ≤ ((x7_1.length : Int) : Int) := of_decide_eq_true (by assumption)
            obtain ⟨i020, hi020, _, hsz20, _⟩ := info_parts info2
            have hcut20 := cut_from (P := Try.prog) 57 2 .i64 Try.underlying57 hi020 1 hsz20 (some ad173) x7_1.length co19 1 (by omega) q20
            have hr20 := Kd.Q_drop (k := (1 : Int).toNat) HO_7.out (by omega)
            obtain ⟨A20, hA20⟩ : ∃ A1, A1 = (if co19 = (1 : Int).toNat then (some ad173) else ((some ad173) : Option Addr).map (·.add ((1 : Int).toNat * 1))) := ⟨_, rfl⟩
            obtain ⟨c20, hc20⟩ : ∃ c1, c1 = co19 - (1 : Int).toNat := ⟨_, rfl⟩
            have hy20 : y174.length = x7_1.length - (1 : Int).toNat := (by rw [Ny174.out, List.length_drop])
            rw [← Ny174.out] at hr20
            rw [← hy20, ← hA20, ← hc20] at hcut20
            replace hr20 : Kd.Q (Kd.int .i64) 2 wr w.heap.size (fun _ => True) (.slice A20 y174.length c20) y174 := (by rw [hA20, hc20, hy20]; exact hr20)
            have HE20 : Aside0 ((Value.slice A20 y174.length c20).ownBlock = (.slice (some ad173) x7_1.length co19 : Value).ownBlock) := ⟨(by rw [hA20]; split <;> (cases ((some ad173) : Option Addr) <;> rfl))⟩
            clear hy20 hi020 hsz20 HO_7 hA20 hc20
            have HO176 := A_ hr20
            clear hr20
            replace q20 := eq_true q20
            obtain ⟨Ao21, co21, eo21⟩ := Kd.R_slice HO_6.out
            subst eo21
            have p177 : 0 ≤ ((rd x7_1 0) : Int) := of_decide_eq_true (by assumption)
            have q177 : (rd x7_1 0) < (x6_1.length : Int) := of_decide_eq_true (by assumption)
            obtain ⟨ad177, e177, hx177_0⟩ := Kd.at_bool (Kd.R_reads' HO_6.out).2.2 (rd x7_1 0) p177 q177
            (try rw [← Nbq17.out] at hx177_0)
            cases e177
            replace p177 := eq_true p177
            replace q177 := eq_true q177
            go_wp2
            repeat (go_quiet (fail); try go_wp2)
            go_roundg k1
            case measure => have := HK1.out; omega
            case rel => exact ⟨(x6_1), (y174), H', ⟨(by have := HK1.out; omega)⟩, ⟨z3_3_⟩, ⟨z3_2_⟩, ⟨z3_1_⟩⟩
           ·
            replace c18 := Bool.eq_false_iff.mpr c18
            subst c18
            have H1 := H; rw [if_neg (show ¬ (false = true) by decide)] at H1
            clear H
            have H := H1
            clear H1
            obtain ⟨y178, hy178⟩ : ∃ y_ : List Bool, y_ = (x6_1.set ((rd x7_1 0) : Int).toNat true) := ⟨_, rfl⟩
            replace H : ((spec_l07Uses.f k1 l0 (rd x7_1 0)).bind fun t179 => (if y174.length + t179.length < 17592186044416 then (spec_l07Needs.l0 k1 l0 a1 y178 (y174 ++ t179)) else (none))) = some (r1, r2) := by first | (rw [hy178]; with_reducible exact H) | (have H2_ := (Option.bind_some _ _).symm.trans H; rw [hy178]; with_reducible exact H2_) | (have H2_ := (Option.bind_some _ _).symm.trans H; with_reducible exact H2_) | with_reducible exact H | (rw [hy178]; exact H) | exact H
            have Ny178 := A_ hy178
            clear hy178
            replace H := Option.bind_eq_some_iff.mp H
            obtain ⟨t179, A230, H⟩ := H
            try dsimp only at H
            have A23 := A_ A230
            clear A230
            by_cases c24 : y174.length + t179.length < 17592186044416
            ·
             rw [if_pos c24] at H
             have LMc24 := A_ c24
             clear c24
             obtain ⟨y182, hy182⟩ : ∃ y_ : List Int, y_ = (y174 ++ t179) := ⟨_, rfl⟩
             replace H : (spec_l07Needs.l0 k1 l0 a1 y178 y182) = some (r1, r2) := by first | (rw [hy182]; with_reducible exact H) | (have H2_ := (Option.bind_some _ _).symm.trans H; rw [hy182]; with_reducible exact H2_) | (have H2_ := (Option.bind_some _ _).symm.trans H; with_reducible exact H2_) | with_reducible exact H | (rw [hy182]; exact H) | exact H
             have Ny182 := A_ hy182
             clear hy182
             have H' := A_ H
             clear H
             obtain ⟨Ao25, co25, eo25, _⟩ := Kd.Q_slice HO_7.out
             subst eo25
             have p173 : 0 ≤ (0 : Int) := (by omega)
             have q173 : 0 < (x7_1.length : Int) := of_decide_eq_true (by assumption)
             obtain ⟨ad173, e173, hx173_0⟩ := Kd.at_int (Kd.Q_reads' HO_7.out).2.2 0 p173 q173
             cases e173
             have qi173 : (0 < x7_1.length) = True := eq_true (by omega)
             (try rw [show ((0 : Int)).toNat = 0 from rfl] at hx173_0)
             (try rw [Addr.add_zero'] at hx173_0)
             replace p173 := eq_true p173
             replace q173 := eq_true q173
             have q26 : (1 : Int) ≤ ((x7_1.length : Int) : Int) := of_decide_eq_true (by assumption)
             obtain ⟨i026, hi026, _, hsz26, _⟩ := info_parts info2
             have hcut26 := cut_from (P := Try.prog) 57 2 .i64 Try.underlying57 hi026 1 hsz26 (some ad173) x7_1.length co25 1 (by omega) q26
             have hr26 := Kd.Q_drop (k := (1 : Int).toNat) HO_7.out (by omega)
             obtain ⟨A26, hA26⟩ : ∃ A1, A1 = (if co25 = (1 : Int).toNat then (some ad173) else ((some ad173) : Option Addr).map (·.add ((1 : Int).toNat * 1))) := ⟨_, rfl⟩
             obtain ⟨c26, hc26⟩ : ∃ c1, c1 = co25 - (1 : Int).toNat := ⟨_, rfl⟩
             have hy26 : y174.length = x7_1.length - (1 : Int).toNat := (by rw [Ny174.out, List.length_drop])
             rw [← Ny174.out] at hr26
             rw [← hy26, ← hA26, ← hc26] at hcut26
             replace hr26 : Kd.Q (Kd.int .i64) 2 wr w.heap.size (fun _ => True) (.slice A26 y174.length c26) y174 := (by rw [hA26, hc26, hy26]; exact hr26)
             have HE26 : Aside0 ((Value.slice A26 y174.length c26).ownBlock = (.slice (some ad173) x7_1.length co25 : Value).ownBlock) := ⟨(by rw [hA26]; split <;> (cases ((some ad173) : Option Addr) <;> rfl))⟩
             clear hy26 hi026 hsz26 HO_7 hA26 hc26
             have HO176 := A_ hr26
             clear hr26
             replace q26 := eq_true q26
             obtain ⟨Ao27, co27, eo27⟩ := Kd.R_slice HO_6.out
             subst eo27
             have p177 : 0 ≤ ((rd x7_1 0) : Int) := of_decide_eq_true (by assumption)
             have q177 : (rd x7_1 0) < (x6_1.length : Int) := of_decide_eq_true (by assumption)
             obtain ⟨ad177, e177, hx177_0⟩ := Kd.at_bool (Kd.R_reads' HO_6.out).2.2 (rd x7_1 0) p177 q177
             (try rw [← Nbq17.out] at hx177_0)
             cases e177
             replace p177 := eq_true p177
             replace q177 := eq_true q177
             have p22 : 0 ≤ ((rd x7_1 0) : Int) := of_decide_eq_true (by assumption)
             have q22 : ((rd x7_1 0) : Int) < ((x6_1.length : Int) : Int) := of_decide_eq_true (by assumption)
             obtain ⟨go22, co22, eo22, gb22, gl22, cl22, HG22⟩ := Kd.R_form HO_6.out (by omega)
             (first | cases eo22 | (injection eo22 with ea_ en_ ec_; (first | subst ea_ | (injection ea_ with ea_; subst ea_)); subst ec_; clear en_))
             have GB22 := A_ gb22
             have GG22 := A_ HG22
             clear gb22 gl22 HG22
             (first | simp only [add_plain] at hx177_0 | skip)
             obtain ⟨hx22_0, hf22_0⟩ := Kd.R_celln false HO_6.out ((rd x7_1 0) : Int) p22 q22
             replace p22 := eq_true p22
             replace q22 := eq_true q22
             have HP28 := Kd.R_putg HO_6.out ((rd x7_1 0) : Int) true
             go_wp2_with (first | ((with_reducible refine gate_store (t := 4) (p := 33) rfl ?_); (try (rw [drewN_self wr]; generalize hq_ : World.drewN wr _ = wr; have _ := A_ (Kd.R_at hq_ HO_6.out); have _ := A_ (Kd.Q_at hq_ HO176.out); have _ := A_ (below_at hq_ HB.out); clear hq_ HO_6 HO176 HB; rename_i HO_6 HO176 HB; (try (have HP28 := Kd.R_putg HO_6.out ((rd x7_1 0) : Int) true)))); refine store_event (t := 4) (p := 33) (v := ?vo_w29) (w1 := (wr.setCell ⟨go22, ((rd x7_1 0) : Int).toNat, none⟩ (.bool true))) ?hg ?ho ?hn ?hr ?_; (case ho => rfl); (case hg => rfl); (case hn => rfl); (case hr => first | (go_simp; done) | (go_simp; rfl)); intro w29 hw; have hg : wr.grownBy w29 (some go22) := (by rw [hw]; exact HP28.2); have hp_ : Kd.R Kd.bool 4 w29 w.heap.size (fun _ => True) (.slice (some ⟨go22, 0, none⟩) x6_1.length co27) y178 := (by rw [hw, Ny178.out]; exact HP28.1); clear HP28; have _ := A_ (hp_); have _ := A_ (Kd.Q_over' (v := (.slice (some ⟨go22, 0, none⟩) x6_1.length co27)) z3_2_ (Kd.R_typed HO_6.out) (by decide) hg); have _ := A_ ((by rw [hw]; exact below_set (HB.out) GB22.out : Below w.heap.size w w29)); clear HO_6 HO176 HB; rename_i HO_6 HO176 HB; clear hg hw hp_) | (go_at_call 104; (with_reducible refine (spec_l07Uses.calls k1 _ _ l0 (rd x7_1 0) t179 _ ?side1 ?side2 A23.out).mono ?_); (case side1 => have hx_ := (Kd.C_below HR0.out HB.out); exact kc_); (case side2 => exact HC0.out); rintro e w30 ⟨v180, rfl, ho0, hb⟩; have _ := A_ (Kd.R_below z3_3_ hb); have _ := A_ (Kd.Q_elder' z3_2_ (Kd.R_base ho0) hb); have _ := A_ (Kd.R_lower (Kd.R_new' ho0 (Kd.Q_lt z3_2_)) (below_size z3_1_)); have _ := A_ (below_step z3_1_ hb); clear HO_6 HO176 HB; rename_i HO_6 HO176 HO181 HB; (try clear hb); (try clear ho0); obtain ⟨Ao32, co32, eo32⟩ := Kd.R_slice HO181.out; subst eo32) | ((with_reducible refine gate_builtin (b := .append) (xs := #[.tmp 34, .tmp 37]) rfl ?_); at_builtin; refine Kd.Q_append_rows (Kd.int .i64) (w0 := w) w.heap.size rfl (.tmp 34) (.tmp 37) 57 2 (.int .i64 0) 8 rfl Try.underlying57 info2 rfl (by decide) (by omega) (.slice A26 y174.length c26) y174 t179 _ _ _ (fun k_ => some k_ ≠ (.slice Ao32 t179.length co32 : Value).ownBlock) (fun _ => False) rfl rfl ?aO ?aR (fun _ _ h => h) (fun _ h => h.elim) ?aF ?aB ?aS ?aL ?_; (case aR => have hx_ := (Kd.R_reads' HO181.out).2.2; exact kc_); (case aB => exact z3_1_); (case aF => exact (fun k_ hk => Kd.fresh' (Kd.R_lt z3_5_) k_ hk)); (case aO => exact z3_8_); (case aS => exact (below_size z3_1_)); (case aL => have := LMc24.out; omega); intro v183 w31 ho hb hg hat; rw [← Ny182.out] at ho; have _ := A_ (Kd.R_over' z3_3_ (Kd.Q_typed z3_2_) (by decide) hg); have _ := A_ (Kd.R_after (ok := (fun _ => True)) z3_5_ hg hat); have _ := A_ (hb); have _ := A_ (ho); clear HO_6 HO181 HB HO176; rename_i HO_6 HO181 HB HO184; clear ho hb hg hat))
             repeat (go_quiet (first | ((with_reducible refine gate_store (t := 4) (p := 33) rfl ?_); (try (rw [drewN_self wr]; generalize hq_ : World.drewN wr _ = wr; have _ := A_ (Kd.R_at hq_ HO_6.out); have _ := A_ (Kd.Q_at hq_ HO176.out); have _ := A_ (below_at hq_ HB.out); clear hq_ HO_6 HO176 HB; rename_i HO_6 HO176 HB; (try (have HP28 := Kd.R_putg HO_6.out ((rd x7_1 0) : Int) true)))); refine store_event (t := 4) (p := 33) (v := ?vo_w29) (w1 := (wr.setCell ⟨go22, ((rd x7_1 0) : Int).toNat, none⟩ (.bool true))) ?hg ?ho ?hn ?hr ?_; (case ho => rfl); (case hg => rfl); (case hn => rfl); (case hr => first | (go_simp; done) | (go_simp; rfl)); intro w29 hw; have hg : wr.grownBy w29 (some go22) := (by rw [hw]; exact HP28.2); have hp_ : Kd.R Kd.bool 4 w29 w.heap.size (fun _ => True) (.slice (some ⟨go22, 0, none⟩) x6_1.length co27) y178 := (by rw [hw, Ny178.out]; exact HP28.1); clear HP28; have _ := A_ (hp_); have _ := A_ (Kd.Q_over' (v := (.slice (some ⟨go22, 0, none⟩) x6_1.length co27)) z3_2_ (Kd.R_typed HO_6.out) (by decide) hg); have _ := A_ ((by rw [hw]; exact below_set (HB.out) GB22.out : Below w.heap.size w w29)); clear HO_6 HO176 HB; rename_i HO_6 HO176 HB; clear hg hw hp_) | (go_at_call 104; (with_reducible refine (spec_l07Uses.calls k1 _ _ l0 (rd x7_1 0) t179 _ ?side1 ?side2 A23.out).mono ?_); (case side1 => have hx_ := (Kd.C_below HR0.out HB.out); exact kc_); (case side2 => exact HC0.out); rintro e w30 ⟨v180, rfl, ho0, hb⟩; have _ := A_ (Kd.R_below z3_3_ hb); have _ := A_ (Kd.Q_elder' z3_2_ (Kd.R_base ho0) hb); have _ := A_ (Kd.R_lower (Kd.R_new' ho0 (Kd.Q_lt z3_2_)) (below_size z3_1_)); have _ := A_ (below_step z3_1_ hb); clear HO_6 HO176 HB; rename_i HO_6 HO176 HO181 HB; (try clear hb); (try clear ho0); obtain ⟨Ao32, co32, eo32⟩ := Kd.R_slice HO181.out; subst eo32) | ((with_reducible refine gate_builtin (b := .append) (xs := #[.tmp 34, .tmp 37]) rfl ?_); at_builtin; refine Kd.Q_append_rows (Kd.int .i64) (w0 := w) w.heap.size rfl (.tmp 34) (.tmp 37) 57 2 (.int .i64 0) 8 rfl Try.underlying57 info2 rfl (by decide) (by omega) (.slice A26 y174.length c26) y174 t179 _ _ _ (fun k_ => some k_ ≠ (.slice Ao32 t179.length co32 : Value).ownBlock) (fun _ => False) rfl rfl ?aO ?aR (fun _ _ h => h) (fun _ h => h.elim) ?aF ?aB ?aS ?aL ?_; (case aR => have hx_ := (Kd.R_reads' HO181.out).2.2; exact kc_); (case aB => exact z3_1_); (case aF => exact (fun k_ hk => Kd.fresh' (Kd.R_lt z3_5_) k_ hk)); (case aO => exact z3_8_); (case aS => exact (below_size z3_1_)); (case aL => have := LMc24.out; omega); intro v183 w31 ho hb hg hat; rw [← Ny182.out] at ho; have _ := A_ (Kd.R_over' z3_3_ (Kd.Q_typed z3_2_) (by decide) hg); have _ := A_ (Kd.R_after (ok := (fun _ => True)) z3_5_ hg hat); have _ := A_ (hb); have _ := A_ (ho); clear HO_6 HO181 HB HO176; rename_i HO_6 HO181 HB HO184; clear ho hb hg hat)); try go_wp2_with (first | ((with_reducible refine gate_store (t := 4) (p := 33) rfl ?_); (try (rw [drewN_self wr]; generalize hq_ : World.drewN wr _ = wr; have _ := A_ (Kd.R_at hq_ HO_6.out); have _ := A_ (Kd.Q_at hq_ HO176.out); have _ := A_ (below_at hq_ HB.out); clear hq_ HO_6 HO176 HB; rename_i HO_6 HO176 HB; (try (have HP28 := Kd.R_putg HO_6.out ((rd x7_1 0) : Int) true)))); refine store_event (t := 4) (p := 33) (v := ?vo_w29) (w1 := (wr.setCell ⟨go22, ((rd x7_1 0) : Int).toNat, none⟩ (.bool true))) ?hg ?ho ?hn ?hr ?_; (case ho => rfl); (case hg => rfl); (case hn => rfl); (case hr => first | (go_simp; done) | (go_simp; rfl)); intro w29 hw; have hg : wr.grownBy w29 (some go22) := (by rw [hw]; exact HP28.2); have hp_ : Kd.R Kd.bool 4 w29 w.heap.size (fun _ => True) (.slice (some ⟨go22, 0, none⟩) x6_1.length co27) y178 := (by rw [hw, Ny178.out]; exact HP28.1); clear HP28; have _ := A_ (hp_); have _ := A_ (Kd.Q_over' (v := (.slice (some ⟨go22, 0, none⟩) x6_1.length co27)) z3_2_ (Kd.R_typed HO_6.out) (by decide) hg); have _ := A_ ((by rw [hw]; exact below_set (HB.out) GB22.out : Below w.heap.size w w29)); clear HO_6 HO176 HB; rename_i HO_6 HO176 HB; clear hg hw hp_) | (go_at_call 104; (with_reducible refine (spec_l07Uses.calls k1 _ _ l0 (rd x7_1 0) t179 _ ?side1 ?side2 A23.out).mono ?_); (case side1 => have hx_ := (Kd.C_below HR0.out HB.out); exact kc_); (case side2 => exact HC0.out); rintro e w30 ⟨v180, rfl, ho0, hb⟩; have _ := A_ (Kd.R_below z3_3_ hb); have _ := A_ (Kd.Q_elder' z3_2_ (Kd.R_base ho0) hb); have _ := A_ (Kd.R_lower (Kd.R_new' ho0 (Kd.Q_lt z3_2_)) (below_size z3_1_)); have _ := A_ (below_step z3_1_ hb); clear HO_6 HO176 HB; rename_i HO_6 HO176 HO181 HB; (try clear hb); (try clear ho0); obtain ⟨Ao32, co32, eo32⟩ := Kd.R_slice HO181.out; subst eo32) | ((with_reducible refine gate_builtin (b := .append) (xs := #[.tmp 34, .tmp 37]) rfl ?_); at_builtin; refine Kd.Q_append_rows (Kd.int .i64) (w0 := w) w.heap.size rfl (.tmp 34) (.tmp 37) 57 2 (.int .i64 0) 8 rfl Try.underlying57 info2 rfl (by decide) (by omega) (.slice A26 y174.length c26) y174 t179 _ _ _ (fun k_ => some k_ ≠ (.slice Ao32 t179.length co32 : Value).ownBlock) (fun _ => False) rfl rfl ?aO ?aR (fun _ _ h => h) (fun _ h => h.elim) ?aF ?aB ?aS ?aL ?_; (case aR => have hx_ := (Kd.R_reads' HO181.out).2.2; exact kc_); (case aB => exact z3_1_); (case aF => exact (fun k_ hk => Kd.fresh' (Kd.R_lt z3_5_) k_ hk)); (case aO => exact z3_8_); (case aS => exact (below_size z3_1_)); (case aL => have := LMc24.out; omega); intro v183 w31 ho hb hg hat; rw [← Ny182.out] at ho; have _ := A_ (Kd.R_over' z3_3_ (Kd.Q_typed z3_2_) (by decide) hg); have _ := A_ (Kd.R_after (ok := (fun _ => True)) z3_5_ hg hat); have _ := A_ (hb); have _ := A_ (ho); clear HO_6 HO181 HB HO176; rename_i HO_6 HO181 HB HO184; clear ho hb hg hat)))
             go_roundg k1
             case measure => have := HK1.out; omega
             case rel => exact ⟨(y178), (y182), H', ⟨(by have := HK1.out; omega)⟩, ⟨z3_3_⟩, ⟨(by (with_reducible repeat (first | apply Kd.Q_alloc | apply Kd.Q_drewN | apply Kd.Q_drew)); exact Kd.Q_mono HO184.out (fun _ hk => trivial))⟩, ⟨z3_1_⟩⟩
            ·
             rw [if_neg c24] at H
             exact absurd H (by simp)
          ·
           rw [if_neg c16] at H
           exact absurd H (by simp)
         ·
          rw [if_neg c15] at H
          exact absurd H (by simp)
       ·
        rw [if_neg c11] at H
        exact absurd H (by simp)
      ·
       rw [if_neg c10] at H
       exact absurd H (by simp)
     ·
      rw [if_neg c9] at H
      have c9b0 := decide_eq_false c9
      have c9b1 : decide (0 < x7_1.length) = false := decide_eq_false (by omega)
      clear c9
      by_cases c33 : 0 ≤ a1
      ·
       rw [if_pos c33] at H
       have c33b0 := decide_eq_true c33
       clear c33
       by_cases c34 : a1 < (x6_1.length : Int)
       ·
        rw [if_pos c34] at H
        have c34b0 := decide_eq_true c34
        clear c34
        simp only [Option.some.injEq, Prod.mk.injEq] at H
        obtain ⟨rfl, rfl⟩ := H
        obtain ⟨Ao35, co35, eo35, _⟩ := Kd.Q_slice HO_7.out
        subst eo35
        obtain ⟨Ao36, co36, eo36⟩ := Kd.R_slice HO_6.out
        subst eo36
        have p185 : 0 ≤ (a1 : Int) := of_decide_eq_true (by assumption)
        have q185 : a1 < (x6_1.length : Int) := of_decide_eq_true (by assumption)
        obtain ⟨ad185, e185, hx185_0⟩ := Kd.at_bool (Kd.R_reads' HO_6.out).2.2 a1 p185 q185
        cases e185
        replace p185 := eq_true p185
        replace q185 := eq_true q185
        go_wp2
        repeat (go_quiet (fail); try go_wp2)
        go_ret2
        exact ⟨_, z3_12_, z3_3_, z3_1_⟩
       ·
        rw [if_neg c34] at H
        exact absurd H (by simp)
      ·
       rw [if_neg c33] at H
       exact absurd H (by simp)
  ·
   rw [if_neg c4] at H
   exact absurd H (by simp)
 ·
  rw [if_neg c3] at H
  exact absurd H (by simp)
/-! ### spec_l07Name: function 88 -/
def spec_l07Name.l0 : Nat → ByteArray → Int → Option (Bool)
 | 0, _, _ => none
 | k + 1, x0, x3 => if x3 < (x0.size : Int) then (if 0 ≤ x3 then (if (bt x0 x3) < 97 then (some false) else (if (bt x0 x3) > 122 then (some false) else (spec_l07Name.l0 k x0 (wrap64 (x3 + 1))))) else (none)) else (if x0.toList = ([] : List UInt8) then (some false) else (some (decide ((x0.size : Int) ≤ 8))))
def spec_l07Name.f (k : Nat) (a0 : ByteArray) : Option (Bool) := spec_l07Name.l0 k a0 0
theorem spec_l07Name.mono_l : ∀ k, (∀ y0 y1, LeO (spec_l07Name.l0 k y0 y1) (spec_l07Name.l0 (k + 1) y0 y1))
 | 0 => fun _ _ r h => by simp [spec_l07Name.l0] at h
 | k + 1 => by
  have ih0 := spec_l07Name.mono_l k
  ·
   intro y0 y1
   unfold spec_l07Name.l0
   repeat' first
   | (with_reducible exact ih0 _ _)
   | (with_reducible exact LeO.refl _)
   | (with_reducible exact LeO.none _)
   | (with_reducible refine LeO.ite ?_ ?_)
   | (with_reducible refine LeO.bind ?_ (fun _ => ?_))
   | exact ih0 _ _
   | exact LeO.none _
   | refine LeO.ite ?_ ?_
   | refine LeO.bind ?_ (fun _ => ?_)
theorem spec_l07Name.mono : ∀ a0 k, LeO (spec_l07Name.f k a0) (spec_l07Name.f (k + 1) a0) := by
 intro a0 k
 have ih0 := spec_l07Name.mono_l k
 unfold spec_l07Name.f
 repeat' first
   | (with_reducible exact ih0 _ _)
   | (with_reducible exact LeO.refl _)
   | (with_reducible exact LeO.none _)
   | (with_reducible refine LeO.ite ?_ ?_)
   | (with_reducible refine LeO.bind ?_ (fun _ => ?_))
   | exact ih0 _ _
   | exact LeO.none _
   | refine LeO.ite ?_ ?_
   | refine LeO.bind ?_ (fun _ => ?_)
set_option maxHeartbeats 8000000 in
set_option maxRecDepth 100000 in
theorem spec_l07Name.calls (k : Nat) (a0 : ByteArray) (r : Bool) (w : World) (h : spec_l07Name.f k a0 = some r) :
  Calls Try.prog 88 #[.string a0] w fun e w' => e = .returned (.bool r) ∧ Drawn0 w w' := by
 have H : (spec_l07Name.l0 k a0 0) = some r := h
 clear h
 have H' := A_ H
 clear H
 go_enter Try.func88, Try.ntmps88
 go_wp2
 go_loopg [3] k (fun kq v3 w' => ∃ (x3_1 : Int), v3 = .int .i64 x3_1 ∧ Aside0 (spec_l07Name.l0 kq a0 x3_1 = some r) ∧ Aside0 (kq ≤ k) ∧ Drawn0 w w')
 case atStart => exact ⟨(0), z3_4_, H', ⟨Nat.le_refl _⟩, z3_6_⟩
 case round =>
  clear H'
  obtain ⟨x3_1, rfl, HA, HK1, ⟨m1, rfl⟩⟩ := hrel
  cases gk with
  | zero => exact absurd HA.out (by simp [spec_l07Name.l0])
  | succ k1 =>
   have H := HA.out
   clear HA
   simp only [spec_l07Name.l0] at H
   by_cases c2 : x3_1 < (a0.size : Int)
   ·
    rw [if_pos c2] at H
    have c2b0 := decide_eq_true c2
    clear c2
    by_cases c3 : 0 ≤ x3_1
    ·
     rw [if_pos c3] at H
     have c3b0 := decide_eq_true c3
     clear c3
     by_cases c5 : (bt a0 x3_1) < 97
     ·
      rw [if_pos c5] at H
      have c5b0 := decide_eq_true c5
      clear c5
      obtain rfl := Option.some.inj H
      have p4 : 0 ≤ (x3_1 : Int) := of_decide_eq_true (by assumption)
      have q4 : x3_1 < (a0.size : Int) := of_decide_eq_true (by assumption)
      have hx4 := bt_at a0 x3_1
      replace p4 := eq_true p4
      replace q4 := eq_true q4
      go_wp2
      go_ret
      exact ⟨z3_4_, z3_6_⟩
     ·
      rw [if_neg c5] at H
      have c5b0 := decide_eq_false c5
      clear c5
      by_cases c7 : (bt a0 x3_1) > 122
      ·
       rw [if_pos c7] at H
       have c7b0 := decide_eq_true c7
       clear c7
       obtain rfl := Option.some.inj H
       have p4 : 0 ≤ (x3_1 : Int) := of_decide_eq_true (by assumption)
       have q4 : x3_1 < (a0.size : Int) := of_decide_eq_true (by assumption)
       have hx4 := bt_at a0 x3_1
       replace p4 := eq_true p4
       replace q4 := eq_true q4
       have p6 : 0 ≤ (x3_1 : Int) := of_decide_eq_true (by assumption)
       have q6 : x3_1 < (a0.size : Int) := of_decide_eq_true (by assumption)
       have hx6 := bt_at a0 x3_1
       replace p6 := eq_true p6
       replace q6 := eq_true q6
       go_wp2
       go_ret
       exact ⟨z3_4_, z3_6_⟩
      ·
       rw [if_neg c7] at H
       have c7b0 := decide_eq_false c7
       clear c7
       have H' := A_ H
       clear H
       have p4 : 0 ≤ (x3_1 : Int) := of_decide_eq_true (by assumption)
       have q4 : x3_1 < (a0.size : Int) := of_decide_eq_true (by assumption)
       have hx4 := bt_at a0 x3_1
       replace p4 := eq_true p4
       replace q4 := eq_true q4
       have p6 : 0 ≤ (x3_1 : Int) := of_decide_eq_true (by assumption)
       have q6 : x3_1 < (a0.size : Int) := of_decide_eq_true (by assumption)
       have hx6 := bt_at a0 x3_1
       replace p6 := eq_true p6
       replace q6 := eq_true q6
       go_wp2
       go_roundg k1
       case measure => have := HK1.out; omega
       case rel => exact ⟨(wrap64 (x3_1 + 1)), z3_4_, H', ⟨(by have := HK1.out; omega)⟩, z3_6_⟩
    ·
     rw [if_neg c3] at H
     exact absurd H (by simp)
   ·
    rw [if_neg c2] at H
    have c2b0 := decide_eq_false c2
    clear c2
    by_cases c8 : a0.toList = ([] : List UInt8)
    ·
     rw [if_pos c8] at H
     have c8b0 := beq_iff_eq.mpr c8
     have c8b1 := bne_eq_false_iff_eq.mpr c8
     clear c8
     obtain rfl := Option.some.inj H
     go_wp2
     go_ret
     exact ⟨z3_4_, z3_6_⟩
    ·
     rw [if_neg c8] at H
     have c8b0 : (a0.toList == ([] : List UInt8)) = false := beq_eq_false_iff_ne.mpr c8
     have c8b1 : (a0.toList != ([] : List UInt8)) = true := bne_iff_ne.mpr c8
     obtain rfl := Option.some.inj H
     go_wp2
     go_ret
     exact ⟨z3_4_, z3_6_⟩
/-! ### spec_l00In: function 107 -/
def spec_l00In.f (a0 : Int) (a1 : Int) (a2 : Int) : Option (Bool) := if a0 ≥ a1 then (some (decide (a0 ≤ a2))) else (some false)
set_option maxHeartbeats 8000000 in
set_option maxRecDepth 100000 in
theorem spec_l00In.calls (a0 : Int) (a1 : Int) (a2 : Int) (r : Bool) (w : World) (h : spec_l00In.f a0 a1 a2 = some r) :
  Calls Try.prog 107 #[.int .i64 a0, .int .i64 a1, .int .i64 a2] w fun e w' => e = .returned (.bool r) ∧ Drawn0 w w' := by
 have H : (if a0 ≥ a1 then (some (decide (a0 ≤ a2))) else (some false)) = some r := h
 clear h
 by_cases c4 : a0 ≥ a1
 ·
  rw [if_pos c4] at H
  have c4b0 := decide_eq_true c4
  clear c4
  obtain rfl := Option.some.inj H
  go_enter Try.func107, Try.ntmps107
  go_wp2
  go_ret
  exact ⟨z3_4_, z3_6_⟩
 ·
  rw [if_neg c4] at H
  have c4b0 := decide_eq_false c4
  clear c4
  obtain rfl := Option.some.inj H
  go_enter Try.func107, Try.ntmps107
  go_wp2
  go_ret
  exact ⟨z3_4_, z3_6_⟩
/-! ### spec_l07Users: function 86 -/
def spec_l07Users.l0 : Nat → List (S45) → Int → List Bool → Int → Option (List Bool)
 | 0, _, _, _, _ => none
 | k + 1, x0, x1, x5, x6 => if x6 < (x0.length : Int) then ((spec_l07Needs.f k x0 x6).bind fun bt225 => (if 0 ≤ x1 then (if x1 < (bt225.1.length : Int) then (if x5.length < 140737488355328 then (spec_l07Users.l0 k x0 x1 (x5 ++ [rdOf false bt225.1 x1]) (wrap64 (x6 + 1))) else (none)) else (none)) else (none))) else (some x5)
def spec_l07Users.f (k : Nat) (l0 : List (S45)) (a1 : Int) : Option (List Bool) := spec_l07Users.l0 k l0 a1 (([] : List Bool)) 0
theorem spec_l07Users.mono_l : ∀ k, (∀ y0 y1 y2 y3, LeO (spec_l07Users.l0 k y0 y1 y2 y3) (spec_l07Users.l0 (k + 1) y0 y1 y2 y3))
 | 0 => fun _ _ _ _ r h => by simp [spec_l07Users.l0] at h
 | k + 1 => by
  have ih0 := spec_l07Users.mono_l k
  ·
   intro y0 y1 y2 y3
   unfold spec_l07Users.l0
   repeat' first
   | (with_reducible exact ih0 _ _ _ _)
   | (with_reducible exact spec_l07Needs.mono _ _ _)
   | (with_reducible exact LeO.refl _)
   | (with_reducible exact LeO.none _)
   | (with_reducible refine LeO.ite ?_ ?_)
   | (with_reducible refine LeO.bind ?_ (fun _ => ?_))
   | exact ih0 _ _ _ _
   | exact LeO.none _
   | refine LeO.ite ?_ ?_
   | refine LeO.bind ?_ (fun _ => ?_)
theorem spec_l07Users.mono : ∀ a0 a1 k, LeO (spec_l07Users.f k a0 a1) (spec_l07Users.f (k + 1) a0 a1) := by
 intro a0 a1 k
 have ih0 := spec_l07Users.mono_l k
 unfold spec_l07Users.f
 repeat' first
   | (with_reducible exact ih0 _ _ _ _)
   | (with_reducible exact spec_l07Needs.mono _ _ _)
   | (with_reducible exact LeO.refl _)
   | (with_reducible exact LeO.none _)
   | (with_reducible refine LeO.ite ?_ ?_)
   | (with_reducible refine LeO.bind ?_ (fun _ => ?_))
   | exact ih0 _ _ _ _
   | exact LeO.none _
   | refine LeO.ite ?_ ?_
   | refine LeO.bind ?_ (fun _ => ?_)
set_option maxHeartbeats 8000000 in
set_option maxRecDepth 100000 in
theorem spec_l07Users.calls (k : Nat) (A0 : Option Addr) (c0 : Nat) (l0 : List (S45)) (a1 : Int) (r : List Bool) (w : World) (hr0 : Kd.C k45 w A0 l0.length l0) (hc0 : l0.length ≤ c0) (h : spec_l07Users.f k l0 a1 = some r) :
  Calls Try.prog 86 #[.slice A0 l0.length c0, .int .i64 a1] w fun e w' => ∃ v0_ : Value, e = .returned (v0_) ∧ Kd.R Kd.bool 4 w' w.heap.size (fun _ => True) v0_ r ∧ Below w.heap.size w w' := by
 have HR0 := A_ hr0
 have HC0 := A_ hc0
 clear hr0 hc0
 have HB := A_ (Below.refl w.heap.size w)
 have H : (spec_l07Users.l0 k l0 a1 (([] : List Bool)) 0) = some r := h
 clear h
 obtain ⟨y222, hy222⟩ : ∃ y_ : List Bool, y_ = (([] : List Bool)) := ⟨_, rfl⟩
 replace H : (spec_l07Users.l0 k l0 a1 y222 0) = some r := by first | (rw [hy222]; with_reducible exact H) | (have H2_ := (Option.bind_some _ _).symm.trans H; rw [hy222]; with_reducible exact H2_) | (have H2_ := (Option.bind_some _ _).symm.trans H; with_reducible exact H2_) | with_reducible exact H | (rw [hy222]; exact H) | exact H
 have Ny222 := A_ hy222
 clear hy222
 have H' := A_ H
 clear H
 go_enter Try.func86, Try.ntmps86
 go_wp2_with (first | ((with_reducible refine gate_dst (N := 9) rfl ?_); refine Kd.R_lit Kd.bool _ 4 ?hg (N := 9) ?hd (xs := ([] : List Bool)) (inner := []) (ok := fun _ => True) (okp := fun _ => True) ?hr ?hp (fun _ hk => hk) trivial (Below.refl _ _) (Nat.le_refl _) (by simp) ?_; (case hd => rfl); (case hg => rfl); (case hr => first | (go_simp; done) | (go_simp; rfl)); (case hp => exact (Reps.none _ _)); intro v223 w3 ho4 hb hg_ hnew_; clear hg_ hnew_; (first | rw [← Ny222.out] at ho4 | (simp only [Int.reduceToNat] at ho4; rw [← Ny222.out] at ho4)); have _ := A_ (Kd.R_lower ho4 (below_size z3_1_)); have _ := A_ (below_step z3_1_ hb); clear HB; rename_i HO224 HB; clear hb ho4))
 go_loopg [5, 6] k (fun kq v5 v6 w' => ∃ (x5_1 : List Bool) (x6_1 : Int), v6 = .int .i64 x6_1 ∧ Aside0 (spec_l07Users.l0 kq l0 a1 x5_1 x6_1 = some r) ∧ Aside0 (kq ≤ k) ∧ Aside0 (Kd.R Kd.bool 4 w' w.heap.size (fun _ => True) v5 x5_1) ∧ Aside0 (Below w.heap.size w w'))
 case atStart => exact ⟨(y222), (0), z3_4_, H', ⟨Nat.le_refl _⟩, ⟨(by (with_reducible repeat (first | apply Kd.R_alloc | apply Kd.R_drewN | apply Kd.R_drew)); exact HO224.out)⟩, ⟨z3_1_⟩⟩
 case round =>
  clear H'
  try clear p2
  obtain ⟨x5_1, x6_1, rfl, HA, HK1, HO_5, HB⟩ := hrel
  cases gk with
  | zero => exact absurd HA.out (by simp [spec_l07Users.l0])
  | succ k1 =>
   have H := HA.out
   clear HA
   simp only [spec_l07Users.l0] at H
   by_cases c5 : x6_1 < (l0.length : Int)
   ·
    rw [if_pos c5] at H
    have c5b0 := decide_eq_true c5
    clear c5
    replace H := Option.bind_eq_some_iff.mp H
    obtain ⟨⟨t225, t226⟩, A60, H⟩ := H
    try dsimp only at H
    have A6 := A_ A60
    clear A60
    by_cases c7 : 0 ≤ a1
    ·
     rw [if_pos c7] at H
     have c7b0 := decide_eq_true c7
     clear c7
     by_cases c8 : a1 < (t225.length : Int)
     ·
      rw [if_pos c8] at H
      have c8b0 := decide_eq_true c8
      clear c8
      by_cases c9 : x5_1.length < 140737488355328
      ·
       rw [if_pos c9] at H
       have LMc9 := A_ c9
       clear c9
       obtain ⟨y230, hy230⟩ : ∃ y_ : List Bool, y_ = (x5_1 ++ [rdOf false t225 a1]) := ⟨_, rfl⟩
       replace H : (spec_l07Users.l0 k1 l0 a1 y230 (wrap64 (x6_1 + 1))) = some r := by first | (rw [hy230]; with_reducible exact H) | (have H2_ := (Option.bind_some _ _).symm.trans H; rw [hy230]; with_reducible exact H2_) | (have H2_ := (Option.bind_some _ _).symm.trans H; with_reducible exact H2_) | with_reducible exact H | (rw [hy230]; exact H) | exact H
       have Ny230 := A_ hy230
       clear hy230
       have H' := A_ H
       clear H
       go_wp2_with (first | ((with_reducible refine gate_callee (f := 81) rfl ?_); refine goesL_ (some 19) rfl rfl Try.func81 (by kernel_rfl) rfl #[.slice A0 l0.length c0, .int .i64 x6_1] rfl z3_10_ ?_; (with_reducible refine (spec_l07Needs.calls k1 _ _ l0 x6_1 t225 t226 _ ?side1 ?side2 A6.out).mono ?_); (case side1 => have hx_ := (Kd.C_below HR0.out HB.out); exact kc_); (case side2 => exact HC0.out); rintro e w10 ⟨v227, rfl, ho0, hb⟩; refine ⟨_, rfl, ?_⟩; have _ := A_ (Kd.R_elder' z3_9_ (Kd.R_base ho0) hb); have _ := A_ (Kd.R_lower (Kd.R_new' ho0 (Kd.R_lt z3_9_)) (below_size z3_1_)); have _ := A_ (below_step z3_1_ hb); clear HO_5 HB; rename_i HO_5 HO228 HB; (try clear hb); (try clear ho0); obtain ⟨Ao11, co11, eo11⟩ := Kd.R_slice HO228.out; subst eo11; have p229 : 0 ≤ (a1 : Int) := of_decide_eq_true (by assumption); have q229 : a1 < (t225.length : Int) := of_decide_eq_true (by assumption); obtain ⟨ad229, e229, hx229_0⟩ := Kd.at_bool (Kd.R_reads' HO228.out).2.2 a1 p229 q229; cases e229; replace p229 := eq_true p229; replace q229 := eq_true q229) | ((with_reducible refine gate_builtin (b := .append) (xs := #[.tmp 22, .tmp 27]) rfl ?_); at_builtin; refine Kd.R_append Kd.bool (w0 := w) w.heap.size rfl (.tmp 22) (.tmp 27) 77 4 (.bool false) 1 rfl Try.underlying77 info4 rfl (by decide) (by omega) u5 x5_1 (rdOf false t225 a1) [.bool (rdOf false t225 a1)] (fun k_ => some k_ ≠ (.slice (some ad229) t225.length co11 : Value).ownBlock) (fun _ => False) rfl rfl ?aP (fun _ hk => hk.elim) ?aF ?aO ?aB ?aS ?aL ?_; (case aP => exact rfl); (case aB => exact z3_1_); (case aF => exact (fun k_ hk => Kd.fresh' (Kd.R_lt z3_11_) k_ hk)); (case aO => exact (by (with_reducible repeat (first | apply Kd.R_alloc | apply Kd.R_drewN | apply Kd.R_drew)); exact Kd.R_mono HO_5.out (fun _ hk => hk.2))); (case aS => exact (below_size z3_1_)); (case aL => have := LMc9.out; omega); intro v231 w12 ho hb hg hat; rw [← Ny230.out] at ho; have _ := A_ (Kd.R_after (ok := (fun _ => True)) z3_11_ hg hat); have _ := A_ (hb); have _ := A_ (ho); clear HO228 HB HO_5; rename_i HO228 HB HO232; clear ho hb hg hat))
       go_roundg k1
       case measure => have := HK1.out; omega
       case rel => exact ⟨(y230), (wrap64 (x6_1 + 1)), z3_4_, H', ⟨(by have := HK1.out; omega)⟩, ⟨(by (with_reducible repeat (first | apply Kd.R_alloc | apply Kd.R_drewN | apply Kd.R_drew)); exact Kd.R_mono HO232.out (fun _ hk => trivial))⟩, ⟨z3_1_⟩⟩
      ·
       rw [if_neg c9] at H
       exact absurd H (by simp)
     ·
      rw [if_neg c8] at H
      exact absurd H (by simp)
    ·
     rw [if_neg c7] at H
     exact absurd H (by simp)
   ·
    rw [if_neg c5] at H
    have c5b0 := decide_eq_false c5
    clear c5
    obtain rfl := Option.some.inj H
    go_wp2
    go_ret
    exact ⟨_, z3_12_, z3_9_, z3_1_⟩
/-! ### spec_l02Places: function 112 -/
def spec_l02Places.f (a0 : Int) : Option (Bool) := (spec_l00In.f a0 0 64).bind fun t233 => (some t233)
set_option maxHeartbeats 8000000 in
set_option maxRecDepth 100000 in
theorem spec_l02Places.calls (a0 : Int) (r : Bool) (w : World) (h : spec_l02Places.f a0 = some r) :
  Calls Try.prog 112 #[.int .i64 a0] w fun e w' => e = .returned (.bool r) ∧ Drawn0 w w' := by
 have H : ((spec_l00In.f a0 0 64).bind fun t233 => (some t233)) = some r := h
 clear h
 replace H := Option.bind_eq_some_iff.mp H
 obtain ⟨t233, A20, H⟩ := H
 try dsimp only at H
 have A2 := A_ A20
 clear A20
 obtain rfl := Option.some.inj H
 go_enter Try.func112, Try.ntmps112
 go_wp2_with (first | ((with_reducible refine gate_callee (f := 107) rfl ?_); refine goesL_ (some 4) rfl rfl Try.func107 (by kernel_rfl) rfl #[.int .i64 a0, .int .i64 0, .int .i64 64] rfl z3_10_ ?_; (with_reducible refine (spec_l00In.calls a0 0 64 t233 _ A2.out).mono ?_); rintro e w' ⟨rfl, ⟨nd, rfl⟩⟩; refine ⟨_, rfl, ?_⟩))
 go_ret
 exact ⟨z3_4_, z3_6_⟩
end Go.Proofs.Ytenhgmddpkiliaa.PB

/- l06Table by hand, at its good way; the others are printed. -/
import Derived.Test.YtpfnohdnaocpdaaPTx2
import Derived.Test.YtpfnohdnaocpdaaPTx3
import Derived.Test.YtpfnohdnaocpdaaPTx1
import Derived.Test.YtpfnohdnaocpdaaPTrowsS
namespace Go.Proofs.Ytpfnohdnaocpdaa.PT
open Go.RowKit Go.Proofs.YtpfnohdnaocpdaaW.PrintWords Go.Proofs.YtpfnohdnaocpdaaW.PrintLast Go.Proofs.YtpfnohdnaocpdaaW.PrintMore Go.Lib Go.Proofs.YtpfnohdnaocpdaaRP
attribute [local go_sem] max2_int min2_int max_two min_two max_three min_three max_four min_four Go.Proofs.YtpfnohdnaocpdaaRP.max_eight Go.Proofs.YtpfnohdnaocpdaaRP.tmod_len
set_option linter.unusedVariables false
set_option linter.unusedSimpArgs false
theorem rowsS_calls (l : List S89) (hk : okT l = true) (W0 : World) (tp : Addr) (A0 : Option Addr) (c0 : Nat) (htp : W0.cell? tp = some (.slice A0 l.length c0)) (hr0 : Kd.C k89 W0 A0 l.length l) : ∀ (k : Nat) (out : List S151) (a n : Int) (qs ts : List Int) (vo va vt : Value) (r1 : List S151) (r2 : Bool) (w : World), rowsS k l out a n qs ts = some (r1, r2) → RR w W0.heap.size vo out → RI w W0.heap.size va qs → RI w W0.heap.size vt ts → Below W0.heap.size W0 w →
    Calls Try.prog 138 #[.pointer (some tp), .int .i16 a, va, vt, .int .i64 n, vo] w fun e w' => RowsPost W0.heap.size r1 r2 W0 w e w' := by
  intro k
  induction k with
  | zero => intro out a n qs ts vo va vt r1 r2 w h; exact absurd h (by simp [rowsS])
  | succ k ih =>
    intro out a n qs ts vo va vt r1 r2 w h ho ha ht hb
    rw [rowsS_succ] at h
    obtain ⟨⟨af, tf⟩, htl, he⟩ := Option.bind_eq_some_iff.mp h
    exact rowsS_one l hk W0 tp A0 c0 htp hr0 out a n qs ts vo va vt r1 r2 w ho ha ht hb k af tf htl (fun o b q t => rowsS k l o b n q t) he (fun o b d ts t u v vt w' ht1 h1 h2 h3 h4 => ih o b n (qs ++ [d]) ts u v vt t.1 t.2 w' ht1 h1 h2 h3 h4)
def tabS (k : Nat) (l0 : List S34) (n : Int) : Option (List S151 × Int) := if 0 < l0.length ∧ okT (rd_T34 l0 0).f0 = true then ((rowsS k (rd_T34 l0 0).f0 [] 0 n [] []).bind fun r => if r.2 = true then some (r.1, 0) else some ([], 3)) else none
theorem tabS_mono (k : Nat) (l0 : List S34) (n : Int) : LeO (tabS k l0 n) (tabS (k + 1) l0 n) := by
  unfold tabS
  exact LeO.ite (LeO.bind (rowsS_mono _ _ _ _ _ _ _) fun _ => LeO.refl _) (LeO.refl _)
set_option maxHeartbeats 8000000 in
set_option maxRecDepth 100000 in
theorem tabS_good (k : Nat) (A0 : Option Addr) (c0 : Nat) (l0 : List S34) (n : Int) (r1 : List S151) (r2 : Int) (w : World) (hr0 : Kd.C k34 w A0 l0.length l0) (hc0 : l0.length ≤ c0) (a3 : spec_l06Ok.f k l0 = some true) (a5 : spec_l00In.f n 0 20 = some true) (a7 : spec_l06Productive.f k l0 = some true) (h : tabS k l0 n = some (r1, r2)) :
    Calls Try.prog 101 #[.pointer A0, .int .i64 n] w fun e w' => ∃ v0_ : Value, e = .returned (.tuple #[v0_, .int .i64 r2]) ∧ Kd.S k151 151 w' w.heap.size (fun _ => True) v0_ r1 ∧ Below w.heap.size w w' := by
  unfold tabS at h
  by_cases hk : 0 < l0.length ∧ okT (rd_T34 l0 0).f0 = true
  case neg => rw [if_neg hk] at h; exact absurd h (by simp)
  rw [if_pos hk] at h
  obtain ⟨hl, hk⟩ := hk
  obtain ⟨⟨o, good⟩, hr, h⟩ := Option.bind_eq_some_iff.mp h
  obtain ⟨ad, At, ct, e0, x0, xl, xc⟩ := rp_T34 hr0 (by omega)
  subst e0
  have HR0 := Aside0.mk hr0
  have HXC := Aside0.mk xc
  have HX0 := Aside0.mk x0
  have A3 := Aside0.mk a3
  have A5 := Aside0.mk a5
  have A7 := Aside0.mk a7
  have HRW := Aside0.mk hr
  have HKT := Aside0.mk hk
  clear hr0 hc0 a3 a5 a7 hr hk xc x0 xl hl
  have HB := Aside0.mk (Below.refl w.heap.size w)
  go_enter Try.func101, Try.ntmps101
  go_upto_region 7 with (first
      | (go_at_call 66
         (with_reducible refine (spec_l06Ok.calls k _ (l0).length l0 true _ ?s1 ?s2 A3.out).mono ?_)
         (case s1 => repeat (first | exact (Kd.C_below HR0.out HB.out) | (with_reducible refine Kd.C_alloc ?_ _) | (with_reducible refine Kd.C_drewN ?_ _) | (with_reducible refine Kd.C_drew ?_)))
         (case s2 => exact Nat.le_refl _)
         rintro e w' ⟨rfl, ⟨nd, rfl⟩⟩)
      | (go_at_call 109
         (with_reducible refine (spec_l00In.calls n 0 20 true _ A5.out).mono ?_)
         rintro e w' ⟨rfl, ⟨nd, rfl⟩⟩)
      | (go_at_call 118
         (with_reducible refine (spec_l06Productive.calls k _ (l0).length l0 true _ ?s1 ?s2 A7.out).mono ?_)
         (case s1 => repeat (first | exact (Kd.C_below HR0.out HB.out) | (with_reducible refine Kd.C_alloc ?_ _) | (with_reducible refine Kd.C_drewN ?_ _) | (with_reducible refine Kd.C_drew ?_)))
         (case s2 => exact Nat.le_refl _)
         rintro e w9 ⟨rfl, hb⟩
         have n1_ := Aside0.mk (below_step (show Below w.heap.size w _ from by repeat (first | exact HB.out | apply below_alloc | apply pw_below_drewN | apply below_drew1)) hb)
         clear HB
         have HB := n1_
         clear n1_ hb)
      | fail)
  have HTP := Aside0.mk (cel HB.out HX0.out)
  have HR9 := Aside0.mk (Kd.C_below HXC.out HB.out)
  clear HR0 HXC HX0
  cases good with
  | true =>
    rw [if_pos rfl] at h
    simp only [Option.some.injEq, Prod.mk.injEq] at h
    obtain ⟨rfl, rfl⟩ := h
    go_wp2_with (first
      | ((with_reducible refine gate_dst (N := 22) rfl ?_); refine Kd.R_lit (Kd.int .i8) _ 86 ?hg (N := 22) ?hd (xs := ([] : List Int)) (inner := []) (ok := fun _ => True) (okp := fun _ => True) ?hr ?hp (fun _ hk => hk) trivial (Below.refl _ _) (Nat.le_refl _) (by simp) ?_; (case hd => rfl); (case hg => rfl); (case hr => first | (go_simp; done) | (go_simp; rfl)); (case hp => exact (Reps.none _ _))
         intro v1 wa ho_ hb_ hg_ hnew_
         have O1 := Aside0.mk ho_
         have F1 := Aside0.mk hb_
         clear ho_ hb_ hg_ hnew_)
      | ((with_reducible refine gate_dst (N := 23) rfl ?_); refine Kd.R_lit (Kd.int .i8) _ 86 ?hg (N := 23) ?hd (xs := ([] : List Int)) (inner := []) (ok := fun _ => True) (okp := fun _ => True) ?hr ?hp (fun _ hk => hk) trivial (Below.refl _ _) (Nat.le_refl _) (by simp) ?_; (case hd => rfl); (case hg => rfl); (case hr => first | (go_simp; done) | (go_simp; rfl)); (case hp => exact (Reps.none _ _))
         intro v2 wb ho_ hb_ hg_ hnew_
         have O2 := Aside0.mk ho_
         have F2 := Aside0.mk hb_
         clear ho_ hb_ hg_ hnew_)
      | ((with_reducible refine gate_dst (N := 25) rfl ?_); refine Kd.S_lit k151 _ 151 ?hg (N := 25) ?hd (xs := ([] : List (S151))) (inner := []) (ok := fun _ => True) (okp := fun _ => True) ?hr ?hp (fun _ hk => hk) trivial (Below.refl _ _) (Nat.le_refl _) (by simp) ?_; (case hd => rfl); (case hg => rfl); (case hr => first | (go_simp; done) | (go_simp; rfl)); (case hp => exact (Reps.none _ _))
         intro v3 wc ho_ hb_ hg_ hnew_
         have O3 := Aside0.mk ho_
         have F3 := Aside0.mk hb_
         clear ho_ hb_ hg_ hnew_)
      | (go_at_call 138
         have FA := Aside0.mk (F1.out.trans ((F2.out.trans (F3.out.mono F2.out.size)).mono F1.out.size))
         have s1_ := F1.out.size
         have s2_ := F2.out.size
         (with_reducible refine (rowsS_calls _ HKT.out w9 ad At ct HTP.out HR9.out k [] 0 n [] [] v3 v1 v2 o true wc HRW.out (Kd.S_lower O3.out (Nat.le_trans s1_ s2_)) (Kd.R_below O1.out (F2.out.trans (F3.out.mono F2.out.size))) (Kd.R_lower (Kd.R_below O2.out F3.out) s1_) FA.out).mono ?_)
         rintro e w10 ⟨v10, rfl, hR10, hb10, hk10, hs10⟩
         have R10 := Aside0.mk hR10
         have B10 := Aside0.mk (HB.out.trans (hb10.mono HB.out.size))
         clear hR10 hb10 hk10 hs10 s1_ s2_)
      | fail)
    go_ret2
    exact ⟨_, rfl, Kd.S_lower (R10.out (by first | rfl | trivial)) HB.out.size, B10.out⟩
  | false =>
    rw [if_neg (by decide)] at h
    simp only [Option.some.injEq, Prod.mk.injEq] at h
    obtain ⟨rfl, rfl⟩ := h
    go_wp2_with (first
      | ((with_reducible refine gate_dst (N := 22) rfl ?_); refine Kd.R_lit (Kd.int .i8) _ 86 ?hg (N := 22) ?hd (xs := ([] : List Int)) (inner := []) (ok := fun _ => True) (okp := fun _ => True) ?hr ?hp (fun _ hk => hk) trivial (Below.refl _ _) (Nat.le_refl _) (by simp) ?_; (case hd => rfl); (case hg => rfl); (case hr => first | (go_simp; done) | (go_simp; rfl)); (case hp => exact (Reps.none _ _))
         intro v1 wa ho_ hb_ hg_ hnew_
         have O1 := Aside0.mk ho_
         have F1 := Aside0.mk hb_
         clear ho_ hb_ hg_ hnew_)
      | ((with_reducible refine gate_dst (N := 23) rfl ?_); refine Kd.R_lit (Kd.int .i8) _ 86 ?hg (N := 23) ?hd (xs := ([] : List Int)) (inner := []) (ok := fun _ => True) (okp := fun _ => True) ?hr ?hp (fun _ hk => hk) trivial (Below.refl _ _) (Nat.le_refl _) (by simp) ?_; (case hd => rfl); (case hg => rfl); (case hr => first | (go_simp; done) | (go_simp; rfl)); (case hp => exact (Reps.none _ _))
         intro v2 wb ho_ hb_ hg_ hnew_
         have O2 := Aside0.mk ho_
         have F2 := Aside0.mk hb_
         clear ho_ hb_ hg_ hnew_)
      | ((with_reducible refine gate_dst (N := 25) rfl ?_); refine Kd.S_lit k151 _ 151 ?hg (N := 25) ?hd (xs := ([] : List (S151))) (inner := []) (ok := fun _ => True) (okp := fun _ => True) ?hr ?hp (fun _ hk => hk) trivial (Below.refl _ _) (Nat.le_refl _) (by simp) ?_; (case hd => rfl); (case hg => rfl); (case hr => first | (go_simp; done) | (go_simp; rfl)); (case hp => exact (Reps.none _ _))
         intro v3 wc ho_ hb_ hg_ hnew_
         have O3 := Aside0.mk ho_
         have F3 := Aside0.mk hb_
         clear ho_ hb_ hg_ hnew_)
      | (go_at_call 138
         have FA := Aside0.mk (F1.out.trans ((F2.out.trans (F3.out.mono F2.out.size)).mono F1.out.size))
         have s1_ := F1.out.size
         have s2_ := F2.out.size
         (with_reducible refine (rowsS_calls _ HKT.out w9 ad At ct HTP.out HR9.out k [] 0 n [] [] v3 v1 v2 o false wc HRW.out (Kd.S_lower O3.out (Nat.le_trans s1_ s2_)) (Kd.R_below O1.out (F2.out.trans (F3.out.mono F2.out.size))) (Kd.R_lower (Kd.R_below O2.out F3.out) s1_) FA.out).mono ?_)
         rintro e w10 ⟨v10, rfl, hR10, hb10, hk10, hs10⟩
         have R10 := Aside0.mk hR10
         have B10 := Aside0.mk (HB.out.trans (hb10.mono HB.out.size))
         clear hR10 hb10 hk10 hs10 s1_ s2_)
      | ((with_reducible refine gate_dst (N := 31) rfl ?_); refine Kd.S_lit k151 _ 151 ?hg (N := 31) ?hd (xs := ([] : List (S151))) (inner := []) (ok := fun _ => True) (okp := fun _ => True) ?hr ?hp (fun _ hk => hk) trivial (Below.refl _ _) (Nat.le_refl _) (by simp) ?_; (case hd => rfl); (case hg => rfl); (case hr => first | (go_simp; done) | (go_simp; rfl)); (case hp => exact (Reps.none _ _))
         intro v4 w11 ho_ hb_ hg_ hnew_
         have O4 := Aside0.mk ho_
         have F4 := Aside0.mk hb_
         clear ho_ hb_ hg_ hnew_)
      | fail)
    go_ret2
    exact ⟨_, rfl, Kd.S_lower O4.out B10.out.size, B10.out.trans (F4.out.mono B10.out.size)⟩
/-! ### spec_l06Table: function 101 -/
def spec_l06Table.f (k : Nat) (l0 : List (S34)) (a1 : Int) : Option ((List (S151)) × Int) := (spec_l06Ok.f k l0).bind fun t230 => (if t230 = true then ((spec_l00In.f a1 0 20).bind fun t234 => (if t234 = true then ((spec_l06Productive.f k l0).bind fun t235 => (if t235 = true then (tabS k l0 a1) else (some ((([] : List (S151))), 4)))) else (some ((([] : List (S151))), 2)))) else (some ((([] : List (S151))), 1)))
theorem spec_l06Table.mono : ∀ a0 a1 k, LeO (spec_l06Table.f k a0 a1) (spec_l06Table.f (k + 1) a0 a1) := by
  intro a0 a1 k
  unfold spec_l06Table.f
  repeat' first
      | exact tabS_mono _ _ _
      | (with_reducible exact spec_l06Ok.mono _ _)
      | (with_reducible exact spec_l06Productive.mono _ _)
      | (with_reducible exact LeO.refl _)
      | (with_reducible exact LeO.none _)
      | (with_reducible refine LeO.ite ?_ ?_)
      | (with_reducible refine LeO.bind ?_ (fun _ => ?_))
      | exact spec_l06Ok.mono _ _
      | exact spec_l06Productive.mono _ _
      | exact LeO.none _
      | refine LeO.ite ?_ ?_
      | refine LeO.bind ?_ (fun _ => ?_)
set_option maxHeartbeats 8000000 in
set_option maxRecDepth 100000 in
theorem spec_l06Table.calls (k : Nat) (A0 : Option Addr) (c0 : Nat) (l0 : List (S34)) (a1 : Int) (r1 : List (S151)) (r2 : Int) (w : World) (hr0 : Kd.C k34 w A0 l0.length l0) (hc0 : l0.length ≤ c0) (h : spec_l06Table.f k l0 a1 = some (r1, r2)) :
    Calls Try.prog 101 #[.pointer A0, .int .i64 a1] w fun e w' => ∃ v0_ : Value, e = .returned (.tuple #[v0_, .int .i64 r2]) ∧ Kd.S k151 151 w' w.heap.size (fun _ => True) v0_ r1 ∧ Below w.heap.size w w' := by
  have HR0 := Aside0.mk hr0
  have HC0 := Aside0.mk hc0
  clear hr0 hc0
  have HB := Aside0.mk (Below.refl w.heap.size w)
  have H : ((spec_l06Ok.f k l0).bind fun t230 => (if t230 = true then ((spec_l00In.f a1 0 20).bind fun t234 => (if t234 = true then ((spec_l06Productive.f k l0).bind fun t235 => (if t235 = true then (tabS k l0 a1) else (some ((([] : List (S151))), 4)))) else (some ((([] : List (S151))), 2)))) else (some ((([] : List (S151))), 1)))) = some (r1, r2) := h
  clear h
  replace H := Option.bind_eq_some_iff.mp H
  obtain ⟨t230, A30, H⟩ := H
  replace H : (if t230 = true then ((spec_l00In.f a1 0 20).bind fun t234 => (if t234 = true then ((spec_l06Productive.f k l0).bind fun t235 => (if t235 = true then (tabS k l0 a1) else (some ((([] : List (S151))), 4)))) else (some ((([] : List (S151))), 2)))) else (some ((([] : List (S151))), 1))) = some (r1, r2) := H
  have A3 := Aside0.mk A30
  clear A30
  by_cases c4 : t230 = true
  · subst c4
    have H1 : ((spec_l00In.f a1 0 20).bind fun t234 => (if t234 = true then ((spec_l06Productive.f k l0).bind fun t235 => (if t235 = true then (tabS k l0 a1) else (some ((([] : List (S151))), 4)))) else (some ((([] : List (S151))), 2)))) = some (r1, r2) := by first | (rw [if_pos rfl] at H; exact H) | rfl
    clear H
    have H := H1
    clear H1
    replace H := Option.bind_eq_some_iff.mp H
    obtain ⟨t234, A50, H⟩ := H
    replace H : (if t234 = true then ((spec_l06Productive.f k l0).bind fun t235 => (if t235 = true then (tabS k l0 a1) else (some ((([] : List (S151))), 4)))) else (some ((([] : List (S151))), 2))) = some (r1, r2) := H
    have A5 := Aside0.mk A50
    clear A50
    by_cases c6 : t234 = true
    · subst c6
      have H1 : ((spec_l06Productive.f k l0).bind fun t235 => (if t235 = true then (tabS k l0 a1) else (some ((([] : List (S151))), 4)))) = some (r1, r2) := by first | (rw [if_pos rfl] at H; exact H) | rfl
      clear H
      have H := H1
      clear H1
      replace H := Option.bind_eq_some_iff.mp H
      obtain ⟨t235, A70, H⟩ := H
      replace H : (if t235 = true then (tabS k l0 a1) else (some ((([] : List (S151))), 4))) = some (r1, r2) := H
      have A7 := Aside0.mk A70
      clear A70
      by_cases c8 : t235 = true
      · subst c8
        exact tabS_good k A0 c0 l0 a1 r1 r2 w HR0.out HC0.out A3.out A5.out A7.out (by rw [if_pos rfl] at H; exact H)
      · replace c8 := Bool.eq_false_iff.mpr c8
        subst c8
        have H1 : (some ((([] : List (S151))), 4)) = some (r1, r2) := by first | (rw [if_neg (show ¬ (false = true) by decide)] at H; exact H) | rfl
        clear H
        have H := H1
        clear H1
        obtain ⟨y236, hy236⟩ : ∃ y_ : List (S151), y_ = (([] : List (S151))) := ⟨_, rfl⟩
        replace H : (some (y236, 4)) = some (r1, r2) := by first | (rw [hy236]; with_reducible exact H) | (have H2_ := (Option.bind_some _ _).symm.trans H; rw [hy236]; with_reducible exact H2_) | (have H2_ := (Option.bind_some _ _).symm.trans H; with_reducible exact H2_) | with_reducible exact H | (rw [hy236]; exact H) | exact H
        have Ny236 := Aside0.mk hy236
        clear hy236
        simp only [Option.some.injEq, Prod.mk.injEq] at H
        obtain ⟨rfl, rfl⟩ := H
        go_enter Try.func101, Try.ntmps101
        go_wp2_with (first | ((with_reducible refine gate_callee (f := 66) rfl ?_); refine goesL_ (some 9) rfl rfl Try.func66 (by kernel_rfl) rfl #[.pointer A0] rfl (by (try simp only [List.map_toArray, List.map_cons, List.map_nil]); first | done | rfl | (simp only [List.length_drop, List.length_take]; rfl)) ?_; (with_reducible refine (spec_l06Ok.calls k _ (l0).length l0 true _ ?side1 ?side2 A3.out).mono ?_); (case side1 => repeat (first | exact HR0.out | (with_reducible refine Kd.C_alloc ?_ _) | (with_reducible refine Kd.C_drewN ?_ _) | (with_reducible refine Kd.C_drew ?_))); (case side2 => exact Nat.le_refl _); rintro e w' ⟨rfl, ⟨nd, rfl⟩⟩; refine ⟨_, rfl, ?_⟩) | ((with_reducible refine gate_callee (f := 109) rfl ?_); refine goesL_ (some 13) rfl rfl Try.func109 (by kernel_rfl) rfl #[.int .i64 a1, .int .i64 0, .int .i64 20] rfl (by (try simp only [List.map_toArray, List.map_cons, List.map_nil]); first | done | rfl | (simp only [List.length_drop, List.length_take]; rfl)) ?_; (with_reducible refine (spec_l00In.calls a1 0 20 true _ A5.out).mono ?_); rintro e w' ⟨rfl, ⟨nd, rfl⟩⟩; refine ⟨_, rfl, ?_⟩) | ((with_reducible refine gate_callee (f := 118) rfl ?_); refine goesL_ (some 17) rfl rfl Try.func118 (by kernel_rfl) rfl #[.pointer A0] rfl (by (try simp only [List.map_toArray, List.map_cons, List.map_nil]); first | done | rfl | (simp only [List.length_drop, List.length_take]; rfl)) ?_; (with_reducible refine (spec_l06Productive.calls k _ (l0).length l0 false _ ?side1 ?side2 A7.out).mono ?_); (case side1 => repeat (first | exact HR0.out | (with_reducible refine Kd.C_alloc ?_ _) | (with_reducible refine Kd.C_drewN ?_ _) | (with_reducible refine Kd.C_drew ?_))); (case side2 => exact Nat.le_refl _); rintro e w10 ⟨rfl, hb⟩; refine ⟨_, rfl, ?_⟩; have n0_ := Aside0.mk (below_step (by repeat (first | (with_reducible first | exact HB.out | apply below_alloc | apply pw_below_drewN | apply below_drew1) | exact HB.out)) hb); clear HB; have HB := n0_; clear n0_; (try clear hb); (try clear hb2); (try clear hk); (try clear hi)) | ((with_reducible refine gate_dst (N := 19) rfl ?_); refine Kd.S_lit k151 _ 151 ?hg (N := 19) ?hd (xs := ([] : List (S151))) (inner := []) (ok := fun _ => True) (okp := fun _ => True) ?hr ?hp (fun _ hk => hk) trivial (Below.refl _ _) (Nat.le_refl _) (by simp) ?_; (case hd => rfl); (case hg => rfl); (case hr => first | (go_simp; done) | (go_simp; rfl)); (case hp => exact (Reps.none _ _)); intro v237 w11 ho12 hb hg_ hnew_; clear hg_ hnew_; (first | rw [← Ny236.out] at ho12 | (simp only [Int.reduceToNat] at ho12; rw [← Ny236.out] at ho12)); have n0_ := Aside0.mk (Kd.S_lower ho12 (below_size (by repeat (first | (with_reducible first | exact HB.out | apply below_alloc | apply pw_below_drewN | apply below_drew1) | exact HB.out)))); have n1_ := Aside0.mk (below_step (by repeat (first | (with_reducible first | exact HB.out | apply below_alloc | apply pw_below_drewN | apply below_drew1) | exact HB.out)) hb); clear HB; have HO238 := n0_; have HB := n1_; clear n0_ n1_; clear hb ho12))
        go_ret2
        exact ⟨_, by first | rfl | (simp [errW_none, errW_some] <;> rfl) | (simp [*, errW_none, errW_some] <;> rfl), by (with_reducible repeat (first | apply Kd.S_alloc | apply Kd.S_drewN | apply Kd.S_drew)); exact HO238.out, by repeat (first | (with_reducible first | exact HB.out | apply below_alloc | apply pw_below_drewN | apply below_drew1) | exact HB.out)⟩
    · replace c6 := Bool.eq_false_iff.mpr c6
      subst c6
      have H1 : (some ((([] : List (S151))), 2)) = some (r1, r2) := by first | (rw [if_neg (show ¬ (false = true) by decide)] at H; exact H) | rfl
      clear H
      have H := H1
      clear H1
      obtain ⟨y239, hy239⟩ : ∃ y_ : List (S151), y_ = (([] : List (S151))) := ⟨_, rfl⟩
      replace H : (some (y239, 2)) = some (r1, r2) := by first | (rw [hy239]; with_reducible exact H) | (have H2_ := (Option.bind_some _ _).symm.trans H; rw [hy239]; with_reducible exact H2_) | (have H2_ := (Option.bind_some _ _).symm.trans H; with_reducible exact H2_) | with_reducible exact H | (rw [hy239]; exact H) | exact H
      have Ny239 := Aside0.mk hy239
      clear hy239
      simp only [Option.some.injEq, Prod.mk.injEq] at H
      obtain ⟨rfl, rfl⟩ := H
      go_enter Try.func101, Try.ntmps101
      go_wp2_with (first | ((with_reducible refine gate_callee (f := 66) rfl ?_); refine goesL_ (some 9) rfl rfl Try.func66 (by kernel_rfl) rfl #[.pointer A0] rfl (by (try simp only [List.map_toArray, List.map_cons, List.map_nil]); first | done | rfl | (simp only [List.length_drop, List.length_take]; rfl)) ?_; (with_reducible refine (spec_l06Ok.calls k _ (l0).length l0 true _ ?side1 ?side2 A3.out).mono ?_); (case side1 => repeat (first | exact HR0.out | (with_reducible refine Kd.C_alloc ?_ _) | (with_reducible refine Kd.C_drewN ?_ _) | (with_reducible refine Kd.C_drew ?_))); (case side2 => exact Nat.le_refl _); rintro e w' ⟨rfl, ⟨nd, rfl⟩⟩; refine ⟨_, rfl, ?_⟩) | ((with_reducible refine gate_callee (f := 109) rfl ?_); refine goesL_ (some 13) rfl rfl Try.func109 (by kernel_rfl) rfl #[.int .i64 a1, .int .i64 0, .int .i64 20] rfl (by (try simp only [List.map_toArray, List.map_cons, List.map_nil]); first | done | rfl | (simp only [List.length_drop, List.length_take]; rfl)) ?_; (with_reducible refine (spec_l00In.calls a1 0 20 false _ A5.out).mono ?_); rintro e w' ⟨rfl, ⟨nd, rfl⟩⟩; refine ⟨_, rfl, ?_⟩) | ((with_reducible refine gate_dst (N := 15) rfl ?_); refine Kd.S_lit k151 _ 151 ?hg (N := 15) ?hd (xs := ([] : List (S151))) (inner := []) (ok := fun _ => True) (okp := fun _ => True) ?hr ?hp (fun _ hk => hk) trivial (Below.refl _ _) (Nat.le_refl _) (by simp) ?_; (case hd => rfl); (case hg => rfl); (case hr => first | (go_simp; done) | (go_simp; rfl)); (case hp => exact (Reps.none _ _)); intro v240 w13 ho14 hb hg_ hnew_; clear hg_ hnew_; (first | rw [← Ny239.out] at ho14 | (simp only [Int.reduceToNat] at ho14; rw [← Ny239.out] at ho14)); have n0_ := Aside0.mk (Kd.S_lower ho14 (below_size (by repeat (first | (with_reducible first | exact HB.out | apply below_alloc | apply pw_below_drewN | apply below_drew1) | exact HB.out)))); have n1_ := Aside0.mk (below_step (by repeat (first | (with_reducible first | exact HB.out | apply below_alloc | apply pw_below_drewN | apply below_drew1) | exact HB.out)) hb); clear HB; have HO241 := n0_; have HB := n1_; clear n0_ n1_; clear hb ho14))
      go_ret2
      exact ⟨_, by first | rfl | (simp [errW_none, errW_some] <;> rfl) | (simp [*, errW_none, errW_some] <;> rfl), by (with_reducible repeat (first | apply Kd.S_alloc | apply Kd.S_drewN | apply Kd.S_drew)); exact HO241.out, by repeat (first | (with_reducible first | exact HB.out | apply below_alloc | apply pw_below_drewN | apply below_drew1) | exact HB.out)⟩
  · replace c4 := Bool.eq_false_iff.mpr c4
    subst c4
    have H1 : (some ((([] : List (S151))), 1)) = some (r1, r2) := by first | (rw [if_neg (show ¬ (false = true) by decide)] at H; exact H) | rfl
    clear H
    have H := H1
    clear H1
    obtain ⟨y231, hy231⟩ : ∃ y_ : List (S151), y_ = (([] : List (S151))) := ⟨_, rfl⟩
    replace H : (some (y231, 1)) = some (r1, r2) := by first | (rw [hy231]; with_reducible exact H) | (have H2_ := (Option.bind_some _ _).symm.trans H; rw [hy231]; with_reducible exact H2_) | (have H2_ := (Option.bind_some _ _).symm.trans H; with_reducible exact H2_) | with_reducible exact H | (rw [hy231]; exact H) | exact H
    have Ny231 := Aside0.mk hy231
    clear hy231
    simp only [Option.some.injEq, Prod.mk.injEq] at H
    obtain ⟨rfl, rfl⟩ := H
    go_enter Try.func101, Try.ntmps101
    go_wp2_with (first | ((with_reducible refine gate_callee (f := 66) rfl ?_); refine goesL_ (some 9) rfl rfl Try.func66 (by kernel_rfl) rfl #[.pointer A0] rfl (by (try simp only [List.map_toArray, List.map_cons, List.map_nil]); first | done | rfl | (simp only [List.length_drop, List.length_take]; rfl)) ?_; (with_reducible refine (spec_l06Ok.calls k _ (l0).length l0 false _ ?side1 ?side2 A3.out).mono ?_); (case side1 => repeat (first | exact HR0.out | (with_reducible refine Kd.C_alloc ?_ _) | (with_reducible refine Kd.C_drewN ?_ _) | (with_reducible refine Kd.C_drew ?_))); (case side2 => exact Nat.le_refl _); rintro e w' ⟨rfl, ⟨nd, rfl⟩⟩; refine ⟨_, rfl, ?_⟩) | ((with_reducible refine gate_dst (N := 11) rfl ?_); refine Kd.S_lit k151 _ 151 ?hg (N := 11) ?hd (xs := ([] : List (S151))) (inner := []) (ok := fun _ => True) (okp := fun _ => True) ?hr ?hp (fun _ hk => hk) trivial (Below.refl _ _) (Nat.le_refl _) (by simp) ?_; (case hd => rfl); (case hg => rfl); (case hr => first | (go_simp; done) | (go_simp; rfl)); (case hp => exact (Reps.none _ _)); intro v232 w15 ho16 hb hg_ hnew_; clear hg_ hnew_; (first | rw [← Ny231.out] at ho16 | (simp only [Int.reduceToNat] at ho16; rw [← Ny231.out] at ho16)); have n0_ := Aside0.mk (Kd.S_lower ho16 (below_size (by repeat (first | (with_reducible first | exact HB.out | apply below_alloc | apply pw_below_drewN | apply below_drew1) | exact HB.out)))); have n1_ := Aside0.mk (below_step (by repeat (first | (with_reducible first | exact HB.out | apply below_alloc | apply pw_below_drewN | apply below_drew1) | exact HB.out)) hb); clear HB; have HO233 := n0_; have HB := n1_; clear n0_ n1_; clear hb ho16))
    go_ret2
    exact ⟨_, by first | rfl | (simp [errW_none, errW_some] <;> rfl) | (simp [*, errW_none, errW_some] <;> rfl), by (with_reducible repeat (first | apply Kd.S_alloc | apply Kd.S_drewN | apply Kd.S_drew)); exact HO233.out, by repeat (first | (with_reducible first | exact HB.out | apply below_alloc | apply pw_below_drewN | apply below_drew1) | exact HB.out)⟩

end Go.Proofs.Ytpfnohdnaocpdaa.PT

/- TableOf by hand, at its good way; the others are printed. -/
import Derived.Test.YtpfnohdnaocpdaaPTx3
import Derived.Test.YtpfnohdnaocpdaaPTrowsA
import Derived.Test.YtpfnohdnaocpdaaPTprod
import Derived.Test.YtpfnohdnaocpdaaPTvalidTree
namespace Go.Proofs.Ytpfnohdnaocpdaa.PT
open Go.RowKit Go.Proofs.YtpfnohdnaocpdaaW.PrintWords Go.Proofs.YtpfnohdnaocpdaaW.PrintLast Go.Proofs.YtpfnohdnaocpdaaW.PrintMore Go.Lib Go.Proofs.YtpfnohdnaocpdaaRP
attribute [local go_sem] max2_int min2_int max_two min_two max_three min_three max_four min_four Go.Proofs.YtpfnohdnaocpdaaRP.max_eight Go.Proofs.YtpfnohdnaocpdaaRP.tmod_len
set_option linter.unusedVariables false
set_option linter.unusedSimpArgs false
def tabI (k : Nat) (l : List S89) (n : Int) : Option (List S151 × Int) := if okT l = true then ((rowsI k l [] 0 n [] []).bind fun r => if r.2 = true then some (r.1, 0) else some ([], 3)) else none
theorem tabI_mono (k : Nat) (l : List S89) (n : Int) : LeO (tabI k l n) (tabI (k + 1) l n) := by
  unfold tabI
  exact LeO.ite (LeO.bind (rowsI_mono _ _ _ _ _ _ _) fun _ => LeO.refl _) (LeO.refl _)
set_option maxHeartbeats 8000000 in
set_option maxRecDepth 100000 in
theorem tabI_good (k : Nat) (A0 : Option Addr) (c0 : Nat) (l : List S89) (n : Int) (r1 : List S151) (r2 : Int) (w : World) (hr0 : Kd.C k89 w A0 l.length l) (hc0 : l.length ≤ c0) (a60 : impl_ValidTree.f l = some true) (a62 : impl_within.f n 0 20 = some true) (a102 : impl_productive.f k l = some true) (h : tabI k l n = some (r1, r2)) :
    Calls Try.prog 47 #[.agg #[.slice A0 l.length c0], .int .i64 n] w fun e w' => ∃ v0_ : Value, e = .returned (.tuple #[v0_, .int .i64 r2]) ∧ Kd.S k151 151 w' w.heap.size (fun _ => True) v0_ r1 ∧ Below w.heap.size w w' := by
  unfold tabI at h
  by_cases hk : okT l = true
  case neg => rw [if_neg hk] at h; exact absurd h (by simp)
  rw [if_pos hk] at h
  obtain ⟨⟨o, good⟩, hr, h⟩ := Option.bind_eq_some_iff.mp h
  have HR0 := Aside0.mk hr0
  have HC0 := Aside0.mk hc0
  have A60 := Aside0.mk a60
  have A62 := Aside0.mk a62
  have A102 := Aside0.mk a102
  have HRW := Aside0.mk hr
  have HKT := Aside0.mk hk
  clear hr0 hc0 a60 a62 a102 hr hk
  go_enter Try.func47, Try.ntmps47
  go_upto_region 1 with (fail)
  generalize hw1 : World.alloc w _ = w1
  have hbx1 : w1.cell? ⟨w.heap.size, 0, none⟩ = some (.slice A0 l.length c0) := by rw [← hw1]; simp
  have hgx : w.heap.size < w1.heap.size := by rw [← hw1]; simp
  have hbw : Below w.heap.size w w1 := by rw [← hw1]; exact below_alloc (Below.refl _ _) _
  have n0_ := Aside0.mk (show Kd.C k89 w1 A0 l.length l from by rw [← hw1]; exact Kd.C_alloc HR0.out _)
  clear HR0 hw1
  have HR0 := n0_
  clear n0_
  have HBX := Aside0.mk hbx1
  have HGX := Aside0.mk hgx
  have HBW := Aside0.mk hbw
  clear hbx1 hgx hbw
  have HB := Aside0.mk (Below.refl w1.heap.size w1)
  have hbx := HBX.out
  go_upto_region 7 with (first
      | (go_at_call 60
         (with_reducible refine (impl_ValidTree.calls A0 c0 l true _ ?s1 ?s2 A60.out).mono ?_)
         (case s1 => repeat (first | exact (Kd.C_below HR0.out HB.out) | (with_reducible refine Kd.C_alloc ?_ _) | (with_reducible refine Kd.C_drewN ?_ _) | (with_reducible refine Kd.C_drew ?_)))
         (case s2 => exact HC0.out)
         rintro e w7 ⟨rfl, hb⟩
         have n1_ := Aside0.mk (below_step (by repeat (first | exact HB.out | apply below_alloc | apply pw_below_drewN | apply below_drew1)) hb)
         clear HB
         have HB := n1_
         clear n1_ hb
         have hbx := (HB.out.cell (p := ⟨w.heap.size, 0, none⟩) HGX.out).trans HBX.out)
      | (go_at_call 62
         (with_reducible refine (impl_within.calls n 0 20 true _ A62.out).mono ?_)
         rintro e w' ⟨rfl, ⟨nd, rfl⟩⟩
         have n1_ := Aside0.mk (show Below w1.heap.size w1 _ from by repeat (first | exact HB.out | apply below_alloc | apply pw_below_drewN | apply below_drew1))
         clear HB
         have HB := n1_
         clear n1_
         have hbx := (HB.out.cell (p := ⟨w.heap.size, 0, none⟩) HGX.out).trans HBX.out)
      | (go_at_call 102
         (with_reducible refine (impl_productive.calls k A0 c0 l true _ ?s1 ?s2 A102.out).mono ?_)
         (case s1 => repeat (first | exact (Kd.C_below HR0.out HB.out) | (with_reducible refine Kd.C_alloc ?_ _) | (with_reducible refine Kd.C_drewN ?_ _) | (with_reducible refine Kd.C_drew ?_)))
         (case s2 => exact HC0.out)
         rintro e w8 ⟨rfl, hb⟩
         have n1_ := Aside0.mk (below_step (by repeat (first | exact HB.out | apply below_alloc | apply pw_below_drewN | apply below_drew1)) hb)
         clear HB
         have HB := n1_
         clear n1_ hb
         have hbx := (HB.out.cell (p := ⟨w.heap.size, 0, none⟩) HGX.out).trans HBX.out)
      | fail)
  have HR8 := Aside0.mk (Kd.C_below HR0.out HB.out)
  have HZ := Aside0.mk (Nat.le_trans HBW.out.size HB.out.size)
  have HW8 := Aside0.mk (HBW.out.trans (HB.out.mono HBW.out.size))
  have HS8 := Aside0.mk HB.out.size
  have HBX8 := Aside0.mk hbx
  clear HR0 HB
  cases good with
  | true =>
    rw [if_pos rfl] at h
    simp only [Option.some.injEq, Prod.mk.injEq] at h
    obtain ⟨rfl, rfl⟩ := h
    go_wp2_with (first
      | ((with_reducible refine gate_dst (N := 19) rfl ?_); refine Kd.S_lit k151 _ 151 ?hg (N := 19) ?hd (xs := ([] : List (S151))) (inner := []) (ok := fun _ => True) (okp := fun _ => True) ?hr ?hp (fun _ hk => hk) trivial (Below.refl _ _) (Nat.le_refl _) (by simp) ?_; (case hd => rfl); (case hg => rfl); (case hr => first | (go_simp; done) | (go_simp; rfl)); (case hp => exact (Reps.none _ _))
         intro v9 w9 ho9 hb9 hg9 hnew9
         have O9 := Aside0.mk ho9
         have B9 := Aside0.mk hb9
         clear ho9 hb9 hg9 hnew9 hbx
         have hbx := (B9.out.cell (p := ⟨w.heap.size, 0, none⟩) (Nat.lt_of_lt_of_le HGX.out HS8.out)).trans HBX8.out)
      | (go_at_call 103
         (with_reducible refine (rowsI_calls l HKT.out w8 A0 c0 HR8.out k [] 0 n [] [] _ (.slice none 0 0) (.slice none 0 0) o true _ HRW.out O9.out (Kd.R_nil _ _ _ _ _) (Kd.R_nil _ _ _ _ _) B9.out).mono ?_)
         rintro e w10 ⟨v10, rfl, hR10, hb10, hk10, hs10⟩
         have R10 := Aside0.mk hR10
         have B10 := Aside0.mk (HW8.out.trans (hb10.mono HZ.out))
         clear hR10 hb10 hk10 hs10)
      | fail)
    go_ret2
    exact ⟨_, rfl, Kd.S_lower (R10.out (by first | rfl | trivial)) HZ.out, B10.out⟩
  | false =>
    rw [if_neg (by decide)] at h
    simp only [Option.some.injEq, Prod.mk.injEq] at h
    obtain ⟨rfl, rfl⟩ := h
    go_wp2_with (first
      | ((with_reducible refine gate_dst (N := 19) rfl ?_); refine Kd.S_lit k151 _ 151 ?hg (N := 19) ?hd (xs := ([] : List (S151))) (inner := []) (ok := fun _ => True) (okp := fun _ => True) ?hr ?hp (fun _ hk => hk) trivial (Below.refl _ _) (Nat.le_refl _) (by simp) ?_; (case hd => rfl); (case hg => rfl); (case hr => first | (go_simp; done) | (go_simp; rfl)); (case hp => exact (Reps.none _ _))
         intro v9 w9 ho9 hb9 hg9 hnew9
         have O9 := Aside0.mk ho9
         have B9 := Aside0.mk hb9
         clear ho9 hb9 hg9 hnew9 hbx
         have hbx := (B9.out.cell (p := ⟨w.heap.size, 0, none⟩) (Nat.lt_of_lt_of_le HGX.out HS8.out)).trans HBX8.out)
      | (go_at_call 103
         (with_reducible refine (rowsI_calls l HKT.out w8 A0 c0 HR8.out k [] 0 n [] [] _ (.slice none 0 0) (.slice none 0 0) o false _ HRW.out O9.out (Kd.R_nil _ _ _ _ _) (Kd.R_nil _ _ _ _ _) B9.out).mono ?_)
         rintro e w10 ⟨v10, rfl, hR10, hb10, hk10, hs10⟩
         have R10 := Aside0.mk hR10
         have B10 := Aside0.mk (HW8.out.trans (hb10.mono HZ.out))
         clear hR10 hb10 hk10 hs10)
      | fail)
    go_ret2
    exact ⟨_, rfl, Kd.S_nil _ _ _ _ _, B10.out⟩
/-! ### impl_TableOf: function 47 -/
def impl_TableOf.f (k : Nat) (l0_0 : List (S89)) (a1 : Int) : Option ((List (S151)) × Int) := (impl_ValidTree.f l0_0).bind fun t267 => (if t267 = true then ((impl_within.f a1 0 20).bind fun t268 => (if t268 = true then ((impl_productive.f k l0_0).bind fun t269 => (if t269 = true then (tabI k l0_0 a1) else (some (([] : List (S151)), 4)))) else (some (([] : List (S151)), 2)))) else (some (([] : List (S151)), 1)))
theorem impl_TableOf.mono : ∀ a0 a1 k, LeO (impl_TableOf.f k a0 a1) (impl_TableOf.f (k + 1) a0 a1) := by
  intro a0 a1 k
  unfold impl_TableOf.f
  repeat' first
      | exact tabI_mono _ _ _
      | (with_reducible exact impl_productive.mono _ _)
      | (with_reducible exact LeO.refl _)
      | (with_reducible exact LeO.none _)
      | (with_reducible refine LeO.ite ?_ ?_)
      | (with_reducible refine LeO.bind ?_ (fun _ => ?_))
      | exact impl_productive.mono _ _
      | exact tabI_mono _ _ _
      | exact LeO.none _
      | refine LeO.ite ?_ ?_
      | refine LeO.bind ?_ (fun _ => ?_)
set_option maxHeartbeats 8000000 in
set_option maxRecDepth 100000 in
theorem impl_TableOf.calls (k : Nat) (A0_0 : Option Addr) (c0_0 : Nat) (l0_0 : List (S89)) (a1 : Int) (r1 : List (S151)) (r2 : Int) (w : World) (hr0_0 : Kd.C k89 w A0_0 l0_0.length l0_0) (hc0_0 : l0_0.length ≤ c0_0) (h : impl_TableOf.f k l0_0 a1 = some (r1, r2)) :
    Calls Try.prog 47 #[.agg #[.slice A0_0 l0_0.length c0_0], .int .i64 a1] w fun e w' => ∃ v0_ : Value, e = .returned (.tuple #[v0_, .int .i64 r2]) ∧ Kd.S k151 151 w' w.heap.size (fun _ => True) v0_ r1 ∧ Below w.heap.size w w' := by
  have hu34 := Try.underlying34
  have HR0_0 := Aside0.mk hr0_0
  have HC0_0 := Aside0.mk hc0_0
  clear hr0_0 hc0_0
  have HB := Aside0.mk (Below.refl w.heap.size w)
  have H : ((impl_ValidTree.f l0_0).bind fun t267 => (if t267 = true then ((impl_within.f a1 0 20).bind fun t268 => (if t268 = true then ((impl_productive.f k l0_0).bind fun t269 => (if t269 = true then (tabI k l0_0 a1) else (some (([] : List (S151)), 4)))) else (some (([] : List (S151)), 2)))) else (some (([] : List (S151)), 1)))) = some (r1, r2) := h
  clear h
  replace H := Option.bind_eq_some_iff.mp H
  obtain ⟨t267, A30, H⟩ := H
  replace H : (if t267 = true then ((impl_within.f a1 0 20).bind fun t268 => (if t268 = true then ((impl_productive.f k l0_0).bind fun t269 => (if t269 = true then (tabI k l0_0 a1) else (some (([] : List (S151)), 4)))) else (some (([] : List (S151)), 2)))) else (some (([] : List (S151)), 1))) = some (r1, r2) := H
  have A3 := Aside0.mk A30
  clear A30
  by_cases c4 : t267 = true
  · subst c4
    have H1 : ((impl_within.f a1 0 20).bind fun t268 => (if t268 = true then ((impl_productive.f k l0_0).bind fun t269 => (if t269 = true then (tabI k l0_0 a1) else (some (([] : List (S151)), 4)))) else (some (([] : List (S151)), 2)))) = some (r1, r2) := by first | (rw [if_pos rfl] at H; exact H) | rfl
    clear H
    have H := H1
    clear H1
    replace H := Option.bind_eq_some_iff.mp H
    obtain ⟨t268, A50, H⟩ := H
    replace H : (if t268 = true then ((impl_productive.f k l0_0).bind fun t269 => (if t269 = true then (tabI k l0_0 a1) else (some (([] : List (S151)), 4)))) else (some (([] : List (S151)), 2))) = some (r1, r2) := H
    have A5 := Aside0.mk A50
    clear A50
    by_cases c6 : t268 = true
    · subst c6
      have H1 : ((impl_productive.f k l0_0).bind fun t269 => (if t269 = true then (tabI k l0_0 a1) else (some (([] : List (S151)), 4)))) = some (r1, r2) := by first | (rw [if_pos rfl] at H; exact H) | rfl
      clear H
      have H := H1
      clear H1
      replace H := Option.bind_eq_some_iff.mp H
      obtain ⟨t269, A70, H⟩ := H
      replace H : (if t269 = true then (tabI k l0_0 a1) else (some (([] : List (S151)), 4))) = some (r1, r2) := H
      have A7 := Aside0.mk A70
      clear A70
      by_cases c8 : t269 = true
      · subst c8
        exact tabI_good k A0_0 c0_0 l0_0 a1 r1 r2 w HR0_0.out HC0_0.out A3.out A5.out A7.out (by rw [if_pos rfl] at H; exact H)
      · replace c8 := Bool.eq_false_iff.mpr c8
        subst c8
        have H1 : (some (([] : List (S151)), 4)) = some (r1, r2) := by first | (rw [if_neg (show ¬ (false = true) by decide)] at H; exact H) | rfl
        clear H
        have H := H1
        clear H1
        simp only [Option.some.injEq, Prod.mk.injEq] at H
        obtain ⟨rfl, rfl⟩ := H
        go_enter Try.func47, Try.ntmps47
        go_wp2_with (first | ((with_reducible refine gate_dst (N := 2) rfl ?_); refine box_event ?hg (N := 2) ?hd (cs := #[.slice A0_0 l0_0.length c0_0]) (t := 34) ?hr ?_; (case hd => rfl); (case hg => rfl); (case hr => first | (go_simp; done) | (go_simp; rfl)); intro gb266 hg w14 hbox hb; have n0_ := Aside0.mk (below_step (by repeat (first | (with_reducible first | exact HB.out | apply below_alloc | apply pw_below_drewN | apply below_drew1) | exact HB.out)) hb); have n1_ := Aside0.mk (hbox); have n2_ := Aside0.mk ((by rw [hg]; exact (below_size (by repeat (first | (with_reducible first | exact HB.out | apply below_alloc | apply pw_below_drewN | apply below_drew1) | exact HB.out))) : w.heap.size ≤ gb266)); have n3_ := Aside0.mk ((by rw [hg]; exact (below_size (by repeat (first | (with_reducible first | exact HB.out | apply below_alloc | apply pw_below_drewN | apply below_drew1) | exact HB.out))) : w.heap.size ≤ gb266)); clear HB; have HB := n0_; have BK266 := n1_; have GW266 := n2_; have GE266 := n3_; clear n0_ n1_ n2_ n3_; clear hb hbox hg; have hcz15_0 : w14.cell? ⟨gb266, 0, none⟩ = some (.slice A0_0 l0_0.length c0_0) := (blk_cell BK266.out 0).trans rfl; have hfz15_0 := blk_frozen BK266.out 0) | ((with_reducible refine gate_callee (f := 60) rfl ?_); refine goesL_ (some 9) rfl rfl Try.func60 (by kernel_rfl) rfl #[.agg #[.slice A0_0 l0_0.length c0_0]] rfl (by (try simp only [List.map_toArray, List.map_cons, List.map_nil]); first | done | rfl | (simp only [List.length_drop, List.length_take]; rfl)) ?_; (with_reducible refine (impl_ValidTree.calls _ _ l0_0 true _ ?side1 ?side2 A3.out).mono ?_); (case side1 => repeat (first | exact (Kd.C_below HR0_0.out HB.out) | (with_reducible refine Kd.C_alloc ?_ _) | (with_reducible refine Kd.C_drewN ?_ _) | (with_reducible refine Kd.C_drew ?_))); (case side2 => exact HC0_0.out); rintro e w16 ⟨rfl, hb⟩; refine ⟨_, rfl, ?_⟩; have n0_ := Aside0.mk (blk_below (g := gb266) (o := .cells #[.slice A0_0 l0_0.length c0_0] 34 (0, 0)) (by (with_reducible repeat (first | refine blk_drewN ?_ _ | refine blk_drew ?_ | refine blk_alloc ?_ _)); exact BK266.out) hb); have n1_ := Aside0.mk (below_step (by repeat (first | (with_reducible first | exact HB.out | apply below_alloc | apply pw_below_drewN | apply below_drew1 | refine below_set ?_ GE266.out) | exact HB.out)) hb); clear BK266; clear HB; have BK266 := n0_; have HB := n1_; clear n0_ n1_; (try clear hb); (try clear hb2); (try clear hk); (try clear hi)) | ((with_reducible refine gate_callee (f := 62) rfl ?_); refine goesL_ (some 12) rfl rfl Try.func62 (by kernel_rfl) rfl #[.int .i64 a1, .int .i64 0, .int .i64 20] rfl (by (try simp only [List.map_toArray, List.map_cons, List.map_nil]); first | done | rfl | (simp only [List.length_drop, List.length_take]; rfl)) ?_; (with_reducible refine (impl_within.calls a1 0 20 true _ A5.out).mono ?_); rintro e w' ⟨rfl, ⟨nd, rfl⟩⟩; refine ⟨_, rfl, ?_⟩; have hcz17_0 : w16.cell? ⟨gb266, 0, none⟩ = some (.slice A0_0 l0_0.length c0_0) := (blk_cell BK266.out 0).trans rfl; have hfz17_0 := blk_frozen BK266.out 0) | ((with_reducible refine gate_callee (f := 102) rfl ?_); refine goesL_ (some 15) rfl rfl Try.func102 (by kernel_rfl) rfl #[.agg #[.slice A0_0 l0_0.length c0_0]] rfl (by (try simp only [List.map_toArray, List.map_cons, List.map_nil]); first | done | rfl | (simp only [List.length_drop, List.length_take]; rfl)) ?_; (with_reducible refine (impl_productive.calls k _ _ l0_0 false _ ?side1 ?side2 A7.out).mono ?_); (case side1 => repeat (first | exact (Kd.C_below HR0_0.out (by repeat (first | (with_reducible first | exact HB.out | apply below_alloc | apply pw_below_drewN | apply below_drew1 | refine below_set ?_ GE266.out) | exact HB.out))) | (with_reducible refine Kd.C_alloc ?_ _) | (with_reducible refine Kd.C_drewN ?_ _) | (with_reducible refine Kd.C_drew ?_))); (case side2 => exact HC0_0.out); rintro e w18 ⟨rfl, hb⟩; refine ⟨_, rfl, ?_⟩; have n0_ := Aside0.mk (blk_below (g := gb266) (o := .cells #[.slice A0_0 l0_0.length c0_0] 34 (0, 0)) (by (with_reducible repeat (first | refine blk_drewN ?_ _ | refine blk_drew ?_ | refine blk_alloc ?_ _)); exact BK266.out) hb); have n1_ := Aside0.mk (below_step (by repeat (first | (with_reducible first | exact HB.out | apply below_alloc | apply pw_below_drewN | apply below_drew1 | refine below_set ?_ GE266.out) | exact HB.out)) hb); clear BK266; clear HB; have BK266 := n0_; have HB := n1_; clear n0_ n1_; (try clear hb); (try clear hb2); (try clear hk); (try clear hi)))
        go_ret2
        exact ⟨_, by first | rfl | (simp [errW_none, errW_some] <;> rfl) | (simp [*, errW_none, errW_some] <;> rfl), by first | exact Kd.S_nil _ _ _ _ _ | exact Kd.N_nil _ _ _ _ _ | exact Kd.V_nil _ _ _ _ _ | exact Kd.Q_nil _ _ _ _ _ | exact Kd.R_nil _ _ _ _ _, by repeat (first | (with_reducible first | exact HB.out | apply below_alloc | apply pw_below_drewN | apply below_drew1 | refine below_set ?_ GE266.out) | exact HB.out)⟩
    · replace c6 := Bool.eq_false_iff.mpr c6
      subst c6
      have H1 : (some (([] : List (S151)), 2)) = some (r1, r2) := by first | (rw [if_neg (show ¬ (false = true) by decide)] at H; exact H) | rfl
      clear H
      have H := H1
      clear H1
      simp only [Option.some.injEq, Prod.mk.injEq] at H
      obtain ⟨rfl, rfl⟩ := H
      go_enter Try.func47, Try.ntmps47
      go_wp2_with (first | ((with_reducible refine gate_dst (N := 2) rfl ?_); refine box_event ?hg (N := 2) ?hd (cs := #[.slice A0_0 l0_0.length c0_0]) (t := 34) ?hr ?_; (case hd => rfl); (case hg => rfl); (case hr => first | (go_simp; done) | (go_simp; rfl)); intro gb266 hg w19 hbox hb; have n0_ := Aside0.mk (below_step (by repeat (first | (with_reducible first | exact HB.out | apply below_alloc | apply pw_below_drewN | apply below_drew1) | exact HB.out)) hb); have n1_ := Aside0.mk (hbox); have n2_ := Aside0.mk ((by rw [hg]; exact (below_size (by repeat (first | (with_reducible first | exact HB.out | apply below_alloc | apply pw_below_drewN | apply below_drew1) | exact HB.out))) : w.heap.size ≤ gb266)); have n3_ := Aside0.mk ((by rw [hg]; exact (below_size (by repeat (first | (with_reducible first | exact HB.out | apply below_alloc | apply pw_below_drewN | apply below_drew1) | exact HB.out))) : w.heap.size ≤ gb266)); clear HB; have HB := n0_; have BK266 := n1_; have GW266 := n2_; have GE266 := n3_; clear n0_ n1_ n2_ n3_; clear hb hbox hg; have hcz20_0 : w19.cell? ⟨gb266, 0, none⟩ = some (.slice A0_0 l0_0.length c0_0) := (blk_cell BK266.out 0).trans rfl; have hfz20_0 := blk_frozen BK266.out 0) | ((with_reducible refine gate_callee (f := 60) rfl ?_); refine goesL_ (some 9) rfl rfl Try.func60 (by kernel_rfl) rfl #[.agg #[.slice A0_0 l0_0.length c0_0]] rfl (by (try simp only [List.map_toArray, List.map_cons, List.map_nil]); first | done | rfl | (simp only [List.length_drop, List.length_take]; rfl)) ?_; (with_reducible refine (impl_ValidTree.calls _ _ l0_0 true _ ?side1 ?side2 A3.out).mono ?_); (case side1 => repeat (first | exact (Kd.C_below HR0_0.out HB.out) | (with_reducible refine Kd.C_alloc ?_ _) | (with_reducible refine Kd.C_drewN ?_ _) | (with_reducible refine Kd.C_drew ?_))); (case side2 => exact HC0_0.out); rintro e w21 ⟨rfl, hb⟩; refine ⟨_, rfl, ?_⟩; have n0_ := Aside0.mk (blk_below (g := gb266) (o := .cells #[.slice A0_0 l0_0.length c0_0] 34 (0, 0)) (by (with_reducible repeat (first | refine blk_drewN ?_ _ | refine blk_drew ?_ | refine blk_alloc ?_ _)); exact BK266.out) hb); have n1_ := Aside0.mk (below_step (by repeat (first | (with_reducible first | exact HB.out | apply below_alloc | apply pw_below_drewN | apply below_drew1 | refine below_set ?_ GE266.out) | exact HB.out)) hb); clear BK266; clear HB; have BK266 := n0_; have HB := n1_; clear n0_ n1_; (try clear hb); (try clear hb2); (try clear hk); (try clear hi)) | ((with_reducible refine gate_callee (f := 62) rfl ?_); refine goesL_ (some 12) rfl rfl Try.func62 (by kernel_rfl) rfl #[.int .i64 a1, .int .i64 0, .int .i64 20] rfl (by (try simp only [List.map_toArray, List.map_cons, List.map_nil]); first | done | rfl | (simp only [List.length_drop, List.length_take]; rfl)) ?_; (with_reducible refine (impl_within.calls a1 0 20 false _ A5.out).mono ?_); rintro e w' ⟨rfl, ⟨nd, rfl⟩⟩; refine ⟨_, rfl, ?_⟩))
      go_ret2
      exact ⟨_, by first | rfl | (simp [errW_none, errW_some] <;> rfl) | (simp [*, errW_none, errW_some] <;> rfl), by first | exact Kd.S_nil _ _ _ _ _ | exact Kd.N_nil _ _ _ _ _ | exact Kd.V_nil _ _ _ _ _ | exact Kd.Q_nil _ _ _ _ _ | exact Kd.R_nil _ _ _ _ _, by repeat (first | (with_reducible first | exact HB.out | apply below_alloc | apply pw_below_drewN | apply below_drew1 | refine below_set ?_ GE266.out) | exact HB.out)⟩
  · replace c4 := Bool.eq_false_iff.mpr c4
    subst c4
    have H1 : (some (([] : List (S151)), 1)) = some (r1, r2) := by first | (rw [if_neg (show ¬ (false = true) by decide)] at H; exact H) | rfl
    clear H
    have H := H1
    clear H1
    simp only [Option.some.injEq, Prod.mk.injEq] at H
    obtain ⟨rfl, rfl⟩ := H
    go_enter Try.func47, Try.ntmps47
    go_wp2_with (first | ((with_reducible refine gate_dst (N := 2) rfl ?_); refine box_event ?hg (N := 2) ?hd (cs := #[.slice A0_0 l0_0.length c0_0]) (t := 34) ?hr ?_; (case hd => rfl); (case hg => rfl); (case hr => first | (go_simp; done) | (go_simp; rfl)); intro gb266 hg w22 hbox hb; have n0_ := Aside0.mk (below_step (by repeat (first | (with_reducible first | exact HB.out | apply below_alloc | apply pw_below_drewN | apply below_drew1) | exact HB.out)) hb); have n1_ := Aside0.mk (hbox); have n2_ := Aside0.mk ((by rw [hg]; exact (below_size (by repeat (first | (with_reducible first | exact HB.out | apply below_alloc | apply pw_below_drewN | apply below_drew1) | exact HB.out))) : w.heap.size ≤ gb266)); have n3_ := Aside0.mk ((by rw [hg]; exact (below_size (by repeat (first | (with_reducible first | exact HB.out | apply below_alloc | apply pw_below_drewN | apply below_drew1) | exact HB.out))) : w.heap.size ≤ gb266)); clear HB; have HB := n0_; have BK266 := n1_; have GW266 := n2_; have GE266 := n3_; clear n0_ n1_ n2_ n3_; clear hb hbox hg; have hcz23_0 : w22.cell? ⟨gb266, 0, none⟩ = some (.slice A0_0 l0_0.length c0_0) := (blk_cell BK266.out 0).trans rfl; have hfz23_0 := blk_frozen BK266.out 0) | ((with_reducible refine gate_callee (f := 60) rfl ?_); refine goesL_ (some 9) rfl rfl Try.func60 (by kernel_rfl) rfl #[.agg #[.slice A0_0 l0_0.length c0_0]] rfl (by (try simp only [List.map_toArray, List.map_cons, List.map_nil]); first | done | rfl | (simp only [List.length_drop, List.length_take]; rfl)) ?_; (with_reducible refine (impl_ValidTree.calls _ _ l0_0 false _ ?side1 ?side2 A3.out).mono ?_); (case side1 => repeat (first | exact (Kd.C_below HR0_0.out HB.out) | (with_reducible refine Kd.C_alloc ?_ _) | (with_reducible refine Kd.C_drewN ?_ _) | (with_reducible refine Kd.C_drew ?_))); (case side2 => exact HC0_0.out); rintro e w24 ⟨rfl, hb⟩; refine ⟨_, rfl, ?_⟩; have n0_ := Aside0.mk (blk_below (g := gb266) (o := .cells #[.slice A0_0 l0_0.length c0_0] 34 (0, 0)) (by (with_reducible repeat (first | refine blk_drewN ?_ _ | refine blk_drew ?_ | refine blk_alloc ?_ _)); exact BK266.out) hb); have n1_ := Aside0.mk (below_step (by repeat (first | (with_reducible first | exact HB.out | apply below_alloc | apply pw_below_drewN | apply below_drew1 | refine below_set ?_ GE266.out) | exact HB.out)) hb); clear BK266; clear HB; have BK266 := n0_; have HB := n1_; clear n0_ n1_; (try clear hb); (try clear hb2); (try clear hk); (try clear hi)))
    go_ret2
    exact ⟨_, by first | rfl | (simp [errW_none, errW_some] <;> rfl) | (simp [*, errW_none, errW_some] <;> rfl), by first | exact Kd.S_nil _ _ _ _ _ | exact Kd.N_nil _ _ _ _ _ | exact Kd.V_nil _ _ _ _ _ | exact Kd.Q_nil _ _ _ _ _ | exact Kd.R_nil _ _ _ _ _, by repeat (first | (with_reducible first | exact HB.out | apply below_alloc | apply pw_below_drewN | apply below_drew1 | refine below_set ?_ GE266.out) | exact HB.out)⟩

end Go.Proofs.Ytpfnohdnaocpdaa.PT

import Derived.Test.YtpfnohdnaocpdaaPTx0
namespace Go.Proofs.Ytpfnohdnaocpdaa.PT
open Go.RowKit Go.Proofs.YtpfnohdnaocpdaaW.PrintWords Go.Proofs.YtpfnohdnaocpdaaW.PrintLast Go.Proofs.YtpfnohdnaocpdaaW.PrintMore Go.Proofs.YtpfnohdnaocpdaaRP
attribute [local go_sem] max2_int min2_int max_two min_two max_three min_three max_four min_four Go.Proofs.YtpfnohdnaocpdaaRP.max_eight Go.Proofs.YtpfnohdnaocpdaaRP.tmod_len   -- for this text's walks alone
set_option linter.unusedVariables false
set_option linter.unusedSimpArgs false
theorem z7_1_ {P : Prop} (h : P := by repeat (first | (with_reducible first | exact HB.out | apply below_alloc | apply pw_below_drewN | apply below_drew1) | exact HB.out)) : P := h
theorem z7_2_ {P : Prop} (h : P := by first | rfl | (simp; done) | (simp [*]; done) | (simp [isE_]; done)) : P := h
theorem z7_3_ {P : Prop} (h : P := by repeat (first | exact Drawn0.refl _ | apply Drawn0.step)) : P := h
theorem z7_4_ {P : Prop} (h : P := by first | rfl | (simp [errW_none, errW_some] <;> rfl) | (simp [*, errW_none, errW_some] <;> rfl)) : P := h
theorem z7_5_ {P : Prop} (h : P := by repeat (first | (with_reducible first | exact HB.out | apply below_alloc | apply pw_below_drewN | apply below_drew1 | refine below_set ?_ GE246.out) | exact HB.out)) : P := h
theorem z7_6_ {P : Prop} (h : P := by (try simp only [List.map_toArray, List.map_cons, List.map_nil]); first | done | rfl | (simp only [List.length_drop, List.length_take]; rfl)) : P := h
/-! ### impl_tells: function 73 -/
def impl_tells.f (a0 : Int) (a1 : Int) : Option (Int × Int × Int × Int × Int) := some (2, a0, a1, 0, 0)
set_option maxHeartbeats 8000000 in
set_option maxRecDepth 100000 in
theorem impl_tells.calls (a0 : Int) (a1 : Int) (r1 : Int) (r2 : Int) (r3 : Int) (r4 : Int) (r5 : Int) (w : World) (h : impl_tells.f a0 a1 = some (r1, r2, r3, r4, r5)) :
  Calls Try.prog 73 #[.int .i8 a0, .int .i16 a1] w fun e w' => e = .returned (.agg #[.int .i8 r1, .int .i8 r2, .int .i16 r3, .int .i16 r4, .int .i16 r5]) ∧ Below w.heap.size w w' := by
 have hu89 := Try.underlying89
 have hu87 := Try.underlying87
 have HB := A_ (Below.refl w.heap.size w)
 have H : (some (2, a0, a1, 0, 0)) = some (r1, r2, r3, r4, r5) := h
 clear h
 simp only [Option.some.injEq, Prod.mk.injEq] at H
 obtain ⟨rfl, rfl, rfl, rfl, rfl⟩ := H
 go_enter Try.func73, Try.ntmps73
 go_wp2_with (first | ((with_reducible refine gate_dst (N := 4) rfl ?_); refine box_event ?hg (N := 4) ?hd (cs := #[.int .i8 0, .int .i8 0, .int .i16 0, .int .i16 0, .int .i16 0]) (t := 89) ?hr ?_; (case hd => rfl); (case hg => rfl); (case hr => first | (go_simp; done) | (go_simp; rfl)); intro gb241 hg w3 hbox hb; have _ := A_ (below_step z7_1_ hb); have _ := A_ (hbox); have _ := A_ ((by rw [hg]; exact (below_size z7_1_) : w.heap.size ≤ gb241)); have _ := A_ ((by rw [hg]; exact (below_size z7_1_) : w.heap.size ≤ gb241)); clear HB; rename_i HB BK241 GW241 GE241; clear hb hbox hg; obtain ⟨hcz4_0, hcz4_1, hcz4_2, hcz4_3, hcz4_4⟩ := bc5 BK241.out; obtain ⟨hfz4_0, hfz4_1, hfz4_2, hfz4_3, hfz4_4⟩ := bf5 BK241.out))
 refine bodyPost_ret (results_cell_row rfl _ _ gb241 89 #[.int .i8 2, .int .i8 a0, .int .i16 a1, .int .i16 0, .int .i16 0] (0, 0) _ rfl (by (with_reducible repeat (first | refine blk_drewN ?_ _ | refine blk_drew ?_ | refine blk_alloc ?_ _)); refine blk_put (cs := #[.int .i8 2, .int .i8 a0, .int .i16 a1, .int .i16 0, .int .i16 0]) ?_ 4 _ rfl; (with_reducible repeat (first | refine blk_drewN ?_ _ | refine blk_drew ?_ | refine blk_alloc ?_ _)); refine blk_put (cs := #[.int .i8 2, .int .i8 a0, .int .i16 a1, .int .i16 0, .int .i16 0]) ?_ 3 _ rfl; (with_reducible repeat (first | refine blk_drewN ?_ _ | refine blk_drew ?_ | refine blk_alloc ?_ _)); refine blk_put (cs := #[.int .i8 2, .int .i8 a0, .int .i16 0, .int .i16 0, .int .i16 0]) ?_ 2 _ rfl; (with_reducible repeat (first | refine blk_drewN ?_ _ | refine blk_drew ?_ | refine blk_alloc ?_ _)); refine blk_put (cs := #[.int .i8 2, .int .i8 0, .int .i16 0, .int .i16 0, .int .i16 0]) ?_ 1 _ rfl; (with_reducible repeat (first | refine blk_drewN ?_ _ | refine blk_drew ?_ | refine blk_alloc ?_ _)); refine blk_put (cs := #[.int .i8 0, .int .i8 0, .int .i16 0, .int .i16 0, .int .i16 0]) ?_ 0 _ rfl; (with_reducible repeat (first | refine blk_drewN ?_ _ | refine blk_drew ?_ | refine blk_alloc ?_ _)); exact BK241.out) Try.underlying89 rfl (by kernel_rfl)) rfl ?_
 exact ⟨z7_4_, (by repeat (first | (with_reducible first | exact HB.out | apply below_alloc | apply pw_below_drewN | apply below_drew1 | refine below_set ?_ GE241.out) | exact HB.out))⟩
/-! ### laws_heldForkS: function 74 -/
mutual
def laws_heldForkS.l0 : Nat → List (S89) → Int → Int → Option (Int)
 | 0, _, _, _ => none
 | k + 1, x0, x1, x5 => if x5 < (x0.length : Int) then (if 0 ≤ x5 then (if ((rd_T89 x0 x5).f0) = (IntKind.i8.wrap (x1)) then (if ((rd_T89 x0 x5).f1) = (IntKind.i8.wrap (wrap64 (x1 + 1))) then (laws_heldForkS.l1 k x0 (wrap64 ((wrap64 (x1 + 1)) + 1)) x5 0) else (some (-1))) else (some (-1))) else (none)) else (some x1)
def laws_heldForkS.l1 : Nat → List (S89) → Int → Int → Int → Option (Int)
 | 0, _, _, _, _ => none
 | k + 1, x0, x1, x5, x6 => if x6 < 3 then (if 0 ≤ x5 then (if x5 < (x0.length : Int) then (if 0 ≤ x6 then (if (rd [(rd_T89 x0 x5).f2.f0, (rd_T89 x0 x5).f2.f1, (rd_T89 x0 x5).f2.f2] x6) = (IntKind.i16.wrap (x1)) then (laws_heldForkS.l1 k x0 (wrap64 (x1 + 1)) x5 (wrap64 (x6 + 1))) else (some (-1))) else (none)) else (none)) else (none)) else (laws_heldForkS.l0 k x0 x1 (wrap64 (x5 + 1)))
end
def laws_heldForkS.f (k : Nat) (l0 : List (S89)) (a1 : Int) : Option (Int) := laws_heldForkS.l0 k l0 a1 0
theorem laws_heldForkS.mono_l : ∀ k, (∀ y0 y1 y2, LeO (laws_heldForkS.l0 k y0 y1 y2) (laws_heldForkS.l0 (k + 1) y0 y1 y2)) ∧ (∀ y0 y1 y2 y3, LeO (laws_heldForkS.l1 k y0 y1 y2 y3) (laws_heldForkS.l1 (k + 1) y0 y1 y2 y3))
 | 0 => ⟨fun _ _ _ r h => by simp [laws_heldForkS.l0] at h, fun _ _ _ _ r h => by simp [laws_heldForkS.l1] at h⟩
 | k + 1 => by
  obtain ⟨ih0, ih1⟩ := laws_heldForkS.mono_l k
  refine ⟨?_, ?_⟩
  ·
   intro y0 y1 y2
   unfold laws_heldForkS.l0
   repeat' first
   | (with_reducible exact ih0 _ _ _)
   | (with_reducible exact ih1 _ _ _ _)
   | (with_reducible exact LeO.refl _)
   | (with_reducible exact LeO.none _)
   | (with_reducible refine LeO.ite ?_ ?_)
   | (with_reducible refine LeO.bind ?_ (fun _ => ?_))
   | exact ih0 _ _ _
   | exact ih1 _ _ _ _
   | exact LeO.none _
   | refine LeO.ite ?_ ?_
   | refine LeO.bind ?_ (fun _ => ?_)
  ·
   intro y0 y1 y2 y3
   unfold laws_heldForkS.l1
   repeat' first
   | (with_reducible exact ih0 _ _ _)
   | (with_reducible exact ih1 _ _ _ _)
   | (with_reducible exact LeO.refl _)
   | (with_reducible exact LeO.none _)
   | (with_reducible refine LeO.ite ?_ ?_)
   | (with_reducible refine LeO.bind ?_ (fun _ => ?_))
   | exact ih0 _ _ _
   | exact ih1 _ _ _ _
   | exact LeO.none _
   | refine LeO.ite ?_ ?_
   | refine LeO.bind ?_ (fun _ => ?_)
theorem laws_heldForkS.mono : ∀ a0 a1 k, LeO (laws_heldForkS.f k a0 a1) (laws_heldForkS.f (k + 1) a0 a1) := by
 intro a0 a1 k
 obtain ⟨ih0, ih1⟩ := laws_heldForkS.mono_l k
 unfold laws_heldForkS.f
 repeat' first
   | (with_reducible exact ih0 _ _ _)
   | (with_reducible exact ih1 _ _ _ _)
   | (with_reducible exact LeO.refl _)
   | (with_reducible exact LeO.none _)
   | (with_reducible refine LeO.ite ?_ ?_)
   | (with_reducible refine LeO.bind ?_ (fun _ => ?_))
   | exact ih0 _ _ _
   | exact ih1 _ _ _ _
   | exact LeO.none _
   | refine LeO.ite ?_ ?_
   | refine LeO.bind ?_ (fun _ => ?_)
set_option maxHeartbeats 8000000 in
set_option maxRecDepth 100000 in
theorem laws_heldForkS.calls (k : Nat) (A0 : Option Addr) (c0 : Nat) (l0 : List (S89)) (a1 : Int) (r : Int) (w : World) (hr0 : Kd.C k89 w A0 l0.length l0) (hc0 : l0.length ≤ c0) (h : laws_heldForkS.f k l0 a1 = some r) :
  Calls Try.prog 74 #[.slice A0 l0.length c0, .int .i64 a1] w fun e w' => e = .returned (.int .i64 r) ∧ Drawn0 w w' := by
 have HR0 := A_ hr0
 have HC0 := A_ hc0
 clear hr0 hc0
 have H : (laws_heldForkS.l0 k l0 a1 0) = some r := h
 clear h
 have H' := A_ H
 clear H
 go_enter Try.func74, Try.ntmps74
 go_wp2
 go_loopg [1, 5] k (fun kq v1 v5 w' => ∃ (x1_1 : Int) (x5_1 : Int), v1 = .int .i64 x1_1 ∧ v5 = .int .i64 x5_1 ∧ Aside0 (laws_heldForkS.l0 kq l0 x1_1 x5_1 = some r) ∧ Aside0 (kq ≤ k) ∧ Drawn0 w w')
 case atStart => exact ⟨(a1), (0), z7_2_, z7_2_, H', ⟨Nat.le_refl _⟩, z7_3_⟩
 case round =>
  clear H'
  try clear p2
  obtain ⟨x1_1, x5_1, rfl, rfl, HA, HK1, ⟨m1, rfl⟩⟩ := hrel
  cases gk with
  | zero => exact absurd HA.out (by simp [laws_heldForkS.l0])
  | succ k1 =>
   have H := HA.out
   clear HA
   simp only [laws_heldForkS.l0] at H
   by_cases c3 : x5_1 < (l0.length : Int)
   ·
    rw [if_pos c3] at H
    have c3b0 := decide_eq_true c3
    clear c3
    by_cases c4 : 0 ≤ x5_1
    ·
     rw [if_pos c4] at H
     have c4b0 := decide_eq_true c4
     clear c4
     by_cases c5 : ((rd_T89 l0 x5_1).f0) = (IntKind.i8.wrap (x1_1))
     ·
      rw [if_pos c5] at H
      have c5b0 := beq_iff_eq.mpr c5
      have c5b1 := bne_eq_false_iff_eq.mpr c5
      clear c5
      by_cases c6 : ((rd_T89 l0 x5_1).f1) = (IntKind.i8.wrap (wrap64 (x1_1 + 1)))
      ·
       rw [if_pos c6] at H
       have c6b0 := beq_iff_eq.mpr c6
       have c6b1 := bne_eq_false_iff_eq.mpr c6
       clear c6
       have H' := A_ H
       clear H
       have p242 : 0 ≤ (x5_1 : Int) := of_decide_eq_true (by assumption)
       have q242 : x5_1 < (l0.length : Int) := of_decide_eq_true (by assumption)
       obtain ⟨ad242, e242, hx242_0, hx242_1, hx242_2, hx242_3, hx242_4⟩ := at_T89 HR0.out x5_1 p242 q242
       cases e242
       replace p242 := eq_true p242
       replace q242 := eq_true q242
       have p243 : 0 ≤ (x5_1 : Int) := of_decide_eq_true (by assumption)
       have q243 : x5_1 < (l0.length : Int) := of_decide_eq_true (by assumption)
       obtain ⟨ad243, e243, hx243_0, hx243_1, hx243_2, hx243_3, hx243_4⟩ := at_T89 HR0.out x5_1 p243 q243
       obtain rfl : ad242 = ad243 := (by injection e243)
       replace p243 := eq_true p243
       replace q243 := eq_true q243
       go_wp2
       go_loopg [1, 6] k1 (fun kq v1 v6 w' => ∃ (x1_2 : Int) (x6_2 : Int), v1 = .int .i64 x1_2 ∧ v6 = .int .i64 x6_2 ∧ Aside0 (laws_heldForkS.l1 kq l0 x1_2 x5_1 x6_2 = some r) ∧ Aside0 (kq ≤ k1) ∧ Drawn0 w w')
       case atStart => exact ⟨(wrap64 ((wrap64 (x1_1 + 1)) + 1)), (0), z7_2_, z7_2_, H', ⟨Nat.le_refl _⟩, z7_3_⟩
       case round =>
        clear H'
        try clear p2
        try clear q2
        try clear hx2
        try clear c3
        try clear c3b0
        try clear c4
        try clear c4b0
        try clear c5
        try clear c5b0
        try clear c5b1
        try clear c6
        try clear c6b0
        try clear c6b1
        try clear p6
        try clear hx242_0
        try clear hx242_1
        try clear hx242_2
        try clear hx242_3
        try clear hx242_4
        try clear hx243_0
        try clear hx243_1
        try clear hx243_2
        try clear hx243_3
        try clear hx243_4
        try clear p2
        try clear p242
        try clear p243
        try clear q242
        try clear q243
        obtain ⟨x1_2, x6_2, rfl, rfl, HA, HK2, ⟨m2, rfl⟩⟩ := hrel
        cases gk with
        | zero => exact absurd HA.out (by simp [laws_heldForkS.l1])
        | succ k2 =>
         have H := HA.out
         clear HA
         simp only [laws_heldForkS.l1] at H
         by_cases c7 : x6_2 < 3
         ·
          rw [if_pos c7] at H
          have c7b0 := decide_eq_true c7
          clear c7
          by_cases c8 : 0 ≤ x5_1
          ·
           rw [if_pos c8] at H
           have c8b0 := decide_eq_true c8
           clear c8
           by_cases c9 : x5_1 < (l0.length : Int)
           ·
            rw [if_pos c9] at H
            have c9b0 := decide_eq_true c9
            clear c9
            by_cases c10 : 0 ≤ x6_2
            ·
             rw [if_pos c10] at H
             have c10b0 := decide_eq_true c10
             clear c10
             by_cases c11 : (rd [(rd_T89 l0 x5_1).f2.f0, (rd_T89 l0 x5_1).f2.f1, (rd_T89 l0 x5_1).f2.f2] x6_2) = (IntKind.i16.wrap (x1_2))
             ·
              rw [if_pos c11] at H
              have c11b0 := beq_iff_eq.mpr c11
              have c11b1 := bne_eq_false_iff_eq.mpr c11
              clear c11
              have H' := A_ H
              clear H
              have p244 : 0 ≤ (x5_1 : Int) := of_decide_eq_true (by assumption)
              have q244 : x5_1 < (l0.length : Int) := of_decide_eq_true (by assumption)
              obtain ⟨ad244, e244, hx244_0, hx244_1, hx244_2, hx244_3, hx244_4⟩ := at_T89 HR0.out x5_1 p244 q244
              obtain rfl : ad242 = ad244 := (by injection e244)
              replace p244 := eq_true p244
              replace q244 := eq_true q244
              have p245 : 0 ≤ (x6_2 : Int) := of_decide_eq_true (by assumption)
              have q245 : (x6_2 : Int) < 3 := of_decide_eq_true (by assumption)
              have hx245_0 := cell_arr3 hx244_2 hx244_3 hx244_4 x6_2 p245 q245
              (try simp only [Nat.zero_add, Nat.add_zero] at hx245_0)
              replace p245 := eq_true p245
              replace q245 := eq_true q245
              go_wp2
              go_roundg k2
              case measure => have := HK1.out; have := HK2.out; omega
              case rel => exact ⟨(wrap64 (x1_2 + 1)), (wrap64 (x6_2 + 1)), z7_2_, z7_2_, H', ⟨(by have := HK1.out; have := HK2.out; omega)⟩, z7_3_⟩
             ·
              rw [if_neg c11] at H
              have c11b0 : ((rd [(rd_T89 l0 x5_1).f2.f0, (rd_T89 l0 x5_1).f2.f1, (rd_T89 l0 x5_1).f2.f2] x6_2) == (IntKind.i16.wrap (x1_2))) = false := beq_eq_false_iff_ne.mpr c11
              have c11b1 : ((rd [(rd_T89 l0 x5_1).f2.f0, (rd_T89 l0 x5_1).f2.f1, (rd_T89 l0 x5_1).f2.f2] x6_2) != (IntKind.i16.wrap (x1_2))) = true := bne_iff_ne.mpr c11
              obtain rfl := Option.some.inj H
              have p244 : 0 ≤ (x5_1 : Int) := of_decide_eq_true (by assumption)
              have q244 : x5_1 < (l0.length : Int) := of_decide_eq_true (by assumption)
              obtain ⟨ad244, e244, hx244_0, hx244_1, hx244_2, hx244_3, hx244_4⟩ := at_T89 HR0.out x5_1 p244 q244
              obtain rfl : ad242 = ad244 := (by injection e244)
              replace p244 := eq_true p244
              replace q244 := eq_true q244
              have p245 : 0 ≤ (x6_2 : Int) := of_decide_eq_true (by assumption)
              have q245 : (x6_2 : Int) < 3 := of_decide_eq_true (by assumption)
              have hx245_0 := cell_arr3 hx244_2 hx244_3 hx244_4 x6_2 p245 q245
              (try simp only [Nat.zero_add, Nat.add_zero] at hx245_0)
              replace p245 := eq_true p245
              replace q245 := eq_true q245
              go_wp2
              go_ret
              exact ⟨z7_2_, z7_3_⟩
            ·
             rw [if_neg c10] at H
             exact absurd H (by simp)
           ·
            rw [if_neg c9] at H
            exact absurd H (by simp)
          ·
           rw [if_neg c8] at H
           exact absurd H (by simp)
         ·
          rw [if_neg c7] at H
          have c7b0 := decide_eq_false c7
          clear c7
          have H' := A_ H
          clear H
          go_wp2
          go_roundg k2
          case measure => have := HK1.out; have := HK2.out; omega
          case rel => exact ⟨(x1_2), (wrap64 (x5_1 + 1)), z7_2_, z7_2_, H', ⟨(by have := HK1.out; have := HK2.out; omega)⟩, z7_3_⟩
      ·
       rw [if_neg c6] at H
       have c6b0 : (((rd_T89 l0 x5_1).f1) == (IntKind.i8.wrap (wrap64 (x1_1 + 1)))) = false := beq_eq_false_iff_ne.mpr c6
       have c6b1 : (((rd_T89 l0 x5_1).f1) != (IntKind.i8.wrap (wrap64 (x1_1 + 1)))) = true := bne_iff_ne.mpr c6
       obtain rfl := Option.some.inj H
       have p242 : 0 ≤ (x5_1 : Int) := of_decide_eq_true (by assumption)
       have q242 : x5_1 < (l0.length : Int) := of_decide_eq_true (by assumption)
       obtain ⟨ad242, e242, hx242_0, hx242_1, hx242_2, hx242_3, hx242_4⟩ := at_T89 HR0.out x5_1 p242 q242
       cases e242
       replace p242 := eq_true p242
       replace q242 := eq_true q242
       have p243 : 0 ≤ (x5_1 : Int) := of_decide_eq_true (by assumption)
       have q243 : x5_1 < (l0.length : Int) := of_decide_eq_true (by assumption)
       obtain ⟨ad243, e243, hx243_0, hx243_1, hx243_2, hx243_3, hx243_4⟩ := at_T89 HR0.out x5_1 p243 q243
       obtain rfl : ad242 = ad243 := (by injection e243)
       replace p243 := eq_true p243
       replace q243 := eq_true q243
       go_wp2
       go_ret
       exact ⟨z7_2_, z7_3_⟩
     ·
      rw [if_neg c5] at H
      have c5b0 : (((rd_T89 l0 x5_1).f0) == (IntKind.i8.wrap (x1_1))) = false := beq_eq_false_iff_ne.mpr c5
      have c5b1 : (((rd_T89 l0 x5_1).f0) != (IntKind.i8.wrap (x1_1))) = true := bne_iff_ne.mpr c5
      obtain rfl := Option.some.inj H
      have p242 : 0 ≤ (x5_1 : Int) := of_decide_eq_true (by assumption)
      have q242 : x5_1 < (l0.length : Int) := of_decide_eq_true (by assumption)
      obtain ⟨ad242, e242, hx242_0, hx242_1, hx242_2, hx242_3, hx242_4⟩ := at_T89 HR0.out x5_1 p242 q242
      cases e242
      replace p242 := eq_true p242
      replace q242 := eq_true q242
      go_wp2
      go_ret
      exact ⟨z7_2_, z7_3_⟩
    ·
     rw [if_neg c4] at H
     exact absurd H (by simp)
   ·
    rw [if_neg c3] at H
    have c3b0 := decide_eq_false c3
    clear c3
    obtain rfl := Option.some.inj H
    go_wp2
    go_ret
    exact ⟨z7_2_, z7_3_⟩
/-! ### laws_heldTree: function 31 -/
def laws_heldTree.f (k : Nat) (l0_0 : List (S89)) (a1 : Int) : Option (Int) := (laws_heldForkS.f k l0_0 a1).bind fun t247 => (if t247 < 0 then (some (-1)) else (some t247))
theorem laws_heldTree.mono : ∀ a0 a1 k, LeO (laws_heldTree.f k a0 a1) (laws_heldTree.f (k + 1) a0 a1) := by
 intro a0 a1 k
 unfold laws_heldTree.f
 repeat' first
   | (with_reducible exact laws_heldForkS.mono _ _ _)
   | (with_reducible exact LeO.refl _)
   | (with_reducible exact LeO.none _)
   | (with_reducible refine LeO.ite ?_ ?_)
   | (with_reducible refine LeO.bind ?_ (fun _ => ?_))
   | exact LeO.none _
   | refine LeO.ite ?_ ?_
   | refine LeO.bind ?_ (fun _ => ?_)
set_option maxHeartbeats 8000000 in
set_option maxRecDepth 100000 in
theorem laws_heldTree.calls (k : Nat) (A0_0 : Option Addr) (c0_0 : Nat) (l0_0 : List (S89)) (a1 : Int) (r : Int) (w : World) (hr0_0 : Kd.C k89 w A0_0 l0_0.length l0_0) (hc0_0 : l0_0.length ≤ c0_0) (h : laws_heldTree.f k l0_0 a1 = some r) :
  Calls Try.prog 31 #[.agg #[.slice A0_0 l0_0.length c0_0], .int .i64 a1] w fun e w' => e = .returned (.int .i64 r) ∧ Below w.heap.size w w' := by
 have hu34 := Try.underlying34
 have HR0_0 := A_ hr0_0
 have HC0_0 := A_ hc0_0
 clear hr0_0 hc0_0
 have HB := A_ (Below.refl w.heap.size w)
 have H : ((laws_heldForkS.f k l0_0 a1).bind fun t247 => (if t247 < 0 then (some (-1)) else (some t247))) = some r := h
 clear h
 replace H := Option.bind_eq_some_iff.mp H
 obtain ⟨t247, A30, H⟩ := H
 try dsimp only at H
 have A3 := A_ A30
 clear A30
 by_cases c4 : t247 < 0
 ·
  rw [if_pos c4] at H
  have c4b0 := decide_eq_true c4
  clear c4
  obtain rfl := Option.some.inj H
  go_enter Try.func31, Try.ntmps31
  go_wp2_with (first | ((with_reducible refine gate_dst (N := 2) rfl ?_); refine box_event ?hg (N := 2) ?hd (cs := #[.slice A0_0 l0_0.length c0_0]) (t := 34) ?hr ?_; (case hd => rfl); (case hg => rfl); (case hr => first | (go_simp; done) | (go_simp; rfl)); intro gb246 hg w5 hbox hb; have _ := A_ (below_step z7_1_ hb); have _ := A_ (hbox); have _ := A_ ((by rw [hg]; exact (below_size z7_1_) : w.heap.size ≤ gb246)); have _ := A_ ((by rw [hg]; exact (below_size z7_1_) : w.heap.size ≤ gb246)); clear HB; rename_i HB BK246 GW246 GE246; clear hb hbox hg; have hcz6_0 : w5.cell? ⟨gb246, 0, none⟩ = some (.slice A0_0 l0_0.length c0_0) := (blk_cell BK246.out 0).trans rfl; have hfz6_0 := blk_frozen BK246.out 0) | ((with_reducible refine gate_callee (f := 74) rfl ?_); refine goesL_ (some 8) rfl rfl Try.func74 (by kernel_rfl) rfl #[.slice A0_0 l0_0.length c0_0, .int .i64 a1] rfl z7_6_ ?_; (with_reducible refine (laws_heldForkS.calls k _ _ l0_0 a1 t247 _ ?side1 ?side2 A3.out).mono ?_); (case side1 => have hx_ := (Kd.C_below HR0_0.out HB.out); exact kc_); (case side2 => exact HC0_0.out); rintro e w' ⟨rfl, ⟨nd, rfl⟩⟩; refine ⟨_, rfl, ?_⟩))
  go_ret
  exact ⟨z7_4_, z7_5_⟩
 ·
  rw [if_neg c4] at H
  have c4b0 := decide_eq_false c4
  clear c4
  obtain rfl := Option.some.inj H
  go_enter Try.func31, Try.ntmps31
  go_wp2_with (first | ((with_reducible refine gate_dst (N := 2) rfl ?_); refine box_event ?hg (N := 2) ?hd (cs := #[.slice A0_0 l0_0.length c0_0]) (t := 34) ?hr ?_; (case hd => rfl); (case hg => rfl); (case hr => first | (go_simp; done) | (go_simp; rfl)); intro gb246 hg w7 hbox hb; have _ := A_ (below_step z7_1_ hb); have _ := A_ (hbox); have _ := A_ ((by rw [hg]; exact (below_size z7_1_) : w.heap.size ≤ gb246)); have _ := A_ ((by rw [hg]; exact (below_size z7_1_) : w.heap.size ≤ gb246)); clear HB; rename_i HB BK246 GW246 GE246; clear hb hbox hg; have hcz8_0 : w7.cell? ⟨gb246, 0, none⟩ = some (.slice A0_0 l0_0.length c0_0) := (blk_cell BK246.out 0).trans rfl; have hfz8_0 := blk_frozen BK246.out 0) | ((with_reducible refine gate_callee (f := 74) rfl ?_); refine goesL_ (some 8) rfl rfl Try.func74 (by kernel_rfl) rfl #[.slice A0_0 l0_0.length c0_0, .int .i64 a1] rfl z7_6_ ?_; (with_reducible refine (laws_heldForkS.calls k _ _ l0_0 a1 t247 _ ?side1 ?side2 A3.out).mono ?_); (case side1 => have hx_ := (Kd.C_below HR0_0.out HB.out); exact kc_); (case side2 => exact HC0_0.out); rintro e w' ⟨rfl, ⟨nd, rfl⟩⟩; refine ⟨_, rfl, ?_⟩))
  go_ret
  exact ⟨z7_4_, z7_5_⟩
end Go.Proofs.Ytpfnohdnaocpdaa.PT

import Derived.Test.YtpfnohdnaocpdaaPTx0
namespace Go.Proofs.Ytpfnohdnaocpdaa.PT
open Go.RowKit Go.Proofs.YtpfnohdnaocpdaaW.PrintWords Go.Proofs.YtpfnohdnaocpdaaW.PrintLast Go.Proofs.YtpfnohdnaocpdaaW.PrintMore Go.Proofs.YtpfnohdnaocpdaaRP
attribute [local go_sem] max2_int min2_int max_two min_two max_three min_three max_four min_four Go.Proofs.YtpfnohdnaocpdaaRP.max_eight Go.Proofs.YtpfnohdnaocpdaaRP.tmod_len   -- for this text's walks alone
set_option linter.unusedVariables false
set_option linter.unusedSimpArgs false
theorem z2_1_ {P : Prop} (h : P := by first | rfl | (simp; done) | (simp [*]; done) | (simp [isE_]; done)) : P := h
theorem z2_2_ {P : Prop} (h : P := by repeat (first | (with_reducible first | exact HB.out | apply below_alloc | apply pw_below_drewN | apply below_drew1) | exact HB.out)) : P := h
theorem z2_3_ {P : Prop} (h : P := by repeat (first | exact Drawn0.refl _ | apply Drawn0.step)) : P := h
theorem z2_4_ {P : Prop} (h : P := by repeat (first | (with_reducible first | exact HK.out | apply Kept.alloc | apply Kept.drewN | apply Kept.drew) | exact HK.out)) : P := h
theorem z2_5_ {P : Prop} (h : P := by (try simp only [List.map_toArray, List.map_cons, List.map_nil]); first | done | rfl | (simp only [List.length_drop, List.length_take]; rfl)) : P := h
theorem z2_6_ {P : Prop} (h : P := by (with_reducible repeat (first | apply Kd.R_alloc | apply Kd.R_drewN | apply Kd.R_drew)); exact HO_0.out) : P := h
theorem z2_7_ {P : Prop} (h : P := by first | rfl | (simp [errW_none, errW_some] <;> rfl) | (simp [*, errW_none, errW_some] <;> rfl)) : P := h
theorem z2_8_ {P : Prop} (h : P := by have := HK1.out; have := HK2.out; omega) : P := h
theorem z2_9_ {P : Prop} (h : P := by repeat (first | (with_reducible first | exact HK.out | apply Kept.alloc | apply Kept.drewN | apply Kept.drew | refine Kept.setCell ?_ (.inr GW147.out) _) | exact HK.out)) : P := h
theorem z2_10_ {P : Prop} (h : P := by repeat (first | (with_reducible first | exact HB.out | apply below_alloc | apply pw_below_drewN | apply below_drew1 | refine below_set ?_ GE154.out) | exact HB.out)) : P := h
theorem z2_11_ {P : Prop} (h : P := by (try simp only [hl0_2]); (with_reducible repeat (first | apply Kd.R_alloc | apply Kd.R_drewN | apply Kd.R_drew)); exact HO_0.out) : P := h
theorem z2_12_ {P : Prop} (h : P := by (with_reducible repeat (first | apply Kd.R_alloc | apply Kd.R_drewN | apply Kd.R_drew)); exact HO0_0.out) : P := h
theorem z2_13_ {P : Prop} (h : P := by injection e164) : P := h
/-! ### laws_markForkS: function 65 -/
mutual
def laws_markForkS.l0 : Nat → List (S89) → Int → Int → Option (Int × (List (S89)))
 | 0, _, _, _ => none
 | k + 1, x0, x1, x5 => if x5 < (x0.length : Int) then (if 0 ≤ x5 then ((some (x0.set (x5 : Int).toNat (⟨IntKind.i8.wrap (x1), (rd_T89 x0 x5).f1, (⟨(rd_T89 x0 x5).f2.f0, (rd_T89 x0 x5).f2.f1, (rd_T89 x0 x5).f2.f2⟩ : S87)⟩ : S89) : List (S89))).bind fun y143 => (laws_markForkS.l1 k (y143.set (x5 : Int).toNat (⟨(rd_T89 y143 x5).f0, IntKind.i8.wrap (wrap64 (x1 + 1)), (⟨(rd_T89 y143 x5).f2.f0, (rd_T89 y143 x5).f2.f1, (rd_T89 y143 x5).f2.f2⟩ : S87)⟩ : S89)) (wrap64 ((wrap64 (x1 + 1)) + 1)) x5 0)) else (none)) else (some (x1, x0))
def laws_markForkS.l1 : Nat → List (S89) → Int → Int → Int → Option (Int × (List (S89)))
 | 0, _, _, _, _ => none
 | k + 1, x0, x1, x5, x6 => if x6 < 3 then (if 0 ≤ x5 then (if x5 < (x0.length : Int) then (if 0 ≤ x6 then (laws_markForkS.l1 k (x0.set (x5 : Int).toNat (⟨(rd_T89 x0 x5).f0, (rd_T89 x0 x5).f1, (⟨(up 0 x6 (IntKind.i16.wrap (x1)) ((rd_T89 x0 x5).f2.f0)), (up 1 x6 (IntKind.i16.wrap (x1)) ((rd_T89 x0 x5).f2.f1)), (up 2 x6 (IntKind.i16.wrap (x1)) ((rd_T89 x0 x5).f2.f2))⟩ : S87)⟩ : S89)) (wrap64 (x1 + 1)) x5 (wrap64 (x6 + 1))) else (none)) else (none)) else (none)) else (laws_markForkS.l0 k x0 x1 (wrap64 (x5 + 1)))
end
def laws_markForkS.f (k : Nat) (l0 : List (S89)) (a1 : Int) : Option (Int × (List (S89))) := laws_markForkS.l0 k l0 a1 0
theorem laws_markForkS.mono_l : ∀ k, (∀ y0 y1 y2, LeO (laws_markForkS.l0 k y0 y1 y2) (laws_markForkS.l0 (k + 1) y0 y1 y2)) ∧ (∀ y0 y1 y2 y3, LeO (laws_markForkS.l1 k y0 y1 y2 y3) (laws_markForkS.l1 (k + 1) y0 y1 y2 y3))
 | 0 => ⟨fun _ _ _ r h => by simp [laws_markForkS.l0] at h, fun _ _ _ _ r h => by simp [laws_markForkS.l1] at h⟩
 | k + 1 => by
  obtain ⟨ih0, ih1⟩ := laws_markForkS.mono_l k
  refine ⟨?_, ?_⟩
  ·
   intro y0 y1 y2
   unfold laws_markForkS.l0
   repeat' first
   | (with_reducible exact ih0 _ _ _)
   | (with_reducible exact ih1 _ _ _ _)
   | (with_reducible exact LeO.refl _)
   | (with_reducible exact LeO.none _)
   | (with_reducible refine LeO.ite ?_ ?_)
   | (with_reducible refine LeO.bind ?_ (fun _ => ?_))
   | exact ih0 _ _ _
   | exact ih1 _ _ _ _
   | exact LeO.none _
   | refine LeO.ite ?_ ?_
   | refine LeO.bind ?_ (fun _ => ?_)
  ·
   intro y0 y1 y2 y3
   unfold laws_markForkS.l1
   repeat' first
   | (with_reducible exact ih0 _ _ _)
   | (with_reducible exact ih1 _ _ _ _)
   | (with_reducible exact LeO.refl _)
   | (with_reducible exact LeO.none _)
   | (with_reducible refine LeO.ite ?_ ?_)
   | (with_reducible refine LeO.bind ?_ (fun _ => ?_))
   | exact ih0 _ _ _
   | exact ih1 _ _ _ _
   | exact LeO.none _
   | refine LeO.ite ?_ ?_
   | refine LeO.bind ?_ (fun _ => ?_)
theorem laws_markForkS.mono : ∀ a0 a1 k, LeO (laws_markForkS.f k a0 a1) (laws_markForkS.f (k + 1) a0 a1) := by
 intro a0 a1 k
 obtain ⟨ih0, ih1⟩ := laws_markForkS.mono_l k
 unfold laws_markForkS.f
 repeat' first
   | (with_reducible exact ih0 _ _ _)
   | (with_reducible exact ih1 _ _ _ _)
   | (with_reducible exact LeO.refl _)
   | (with_reducible exact LeO.none _)
   | (with_reducible refine LeO.ite ?_ ?_)
   | (with_reducible refine LeO.bind ?_ (fun _ => ?_))
   | exact ih0 _ _ _
   | exact ih1 _ _ _ _
   | exact LeO.none _
   | refine LeO.ite ?_ ?_
   | refine LeO.bind ?_ (fun _ => ?_)
set_option maxHeartbeats 8000000 in
set_option maxRecDepth 100000 in
theorem laws_markForkS.calls (k : Nat) (P0_ : Nat → Prop) (u9000_ : Value) (l0 : List (S89)) (a1 : Int) (r1 : Int) (r2 : List (S89)) (w0 w : World) (hB : Below w0.heap.size w0 w) (ho0 : Kd.R k89 89 w w0.heap.size P0_ u9000_ l0) (h : laws_markForkS.f k l0 a1 = some (r1, r2)) :
  Calls Try.prog 65 #[u9000_, .int .i64 a1] w fun e w' => e = .returned (.int .i64 r1) ∧ Kd.R k89 89 w' w0.heap.size (fun k_ => (P0_ k_ ∨ w.heap.size ≤ k_)) u9000_ r2 ∧ Below w0.heap.size w0 w' ∧ Kept w w' (fun k_ => P0_ k_) := by
 have HO0 := A_ (show Kd.R k89 89 w w0.heap.size (fun k_ => (P0_ k_ ∨ w.heap.size ≤ k_)) u9000_ l0 from Kd.R_mono ho0 (fun k_ hk => (.inl hk)))
 have HK := A_ (Kept.refl w (fun k_ => P0_ k_))
 have HW0 := A_ hB.size
 have HB := A_ hB
 clear hB
 have H : (laws_markForkS.l0 k l0 a1 0) = some (r1, r2) := h
 clear h
 have H' := A_ H
 clear H
 go_enter Try.func65, Try.ntmps65
 go_wp2
 go_loopg [1, 5] k (fun kq v1 v5 w' => ∃ (x0_1 : List (S89)) (x1_1 : Int) (x5_1 : Int), v1 = .int .i64 x1_1 ∧ v5 = .int .i64 x5_1 ∧ Aside0 (laws_markForkS.l0 kq x0_1 x1_1 x5_1 = some (r1, r2)) ∧ Aside0 (kq ≤ k) ∧ Aside0 (Kd.R k89 89 w' w0.heap.size (fun k_ => (P0_ k_ ∨ w.heap.size ≤ k_)) u9000_ x0_1) ∧ Aside0 (Kept w w' (fun k_ => P0_ k_)) ∧ Aside0 (Below w0.heap.size w0 w'))
 case atStart => exact ⟨(l0), (a1), (0), z2_1_, z2_1_, H', ⟨Nat.le_refl _⟩, ⟨(by (with_reducible repeat (first | apply Kd.R_alloc | apply Kd.R_drewN | apply Kd.R_drew)); exact HO0.out)⟩, ⟨z2_4_⟩, ⟨z2_2_⟩⟩
 case round =>
  clear H'
  try clear p2
  obtain ⟨x0_1, x1_1, x5_1, rfl, rfl, HA, HK1, HO_0, HK, HB⟩ := hrel
  cases gk with
  | zero => exact absurd HA.out (by simp [laws_markForkS.l0])
  | succ k1 =>
   have H := HA.out
   clear HA
   simp only [laws_markForkS.l0] at H
   by_cases c3 : x5_1 < (x0_1.length : Int)
   ·
    rw [if_pos c3] at H
    have c3b0 := decide_eq_true c3
    clear c3
    by_cases c4 : 0 ≤ x5_1
    ·
     rw [if_pos c4] at H
     have c4b0 := decide_eq_true c4
     clear c4
     obtain ⟨y143, hy143⟩ : ∃ y_ : List (S89), y_ = (x0_1.set (x5_1 : Int).toNat (⟨IntKind.i8.wrap (x1_1), (rd_T89 x0_1 x5_1).f1, (⟨(rd_T89 x0_1 x5_1).f2.f0, (rd_T89 x0_1 x5_1).f2.f1, (rd_T89 x0_1 x5_1).f2.f2⟩ : S87)⟩ : S89)) := ⟨_, rfl⟩
     replace H : (laws_markForkS.l1 k1 (y143.set (x5_1 : Int).toNat (⟨(rd_T89 y143 x5_1).f0, IntKind.i8.wrap (wrap64 (x1_1 + 1)), (⟨(rd_T89 y143 x5_1).f2.f0, (rd_T89 y143 x5_1).f2.f1, (rd_T89 y143 x5_1).f2.f2⟩ : S87)⟩ : S89)) (wrap64 ((wrap64 (x1_1 + 1)) + 1)) x5_1 0) = some (r1, r2) := by first | (rw [hy143]; with_reducible exact H) | (have H2_ := (Option.bind_some _ _).symm.trans H; rw [hy143]; with_reducible exact H2_) | (have H2_ := (Option.bind_some _ _).symm.trans H; with_reducible exact H2_) | with_reducible exact H | (rw [hy143]; exact H) | exact H
     have Ny143 := A_ hy143
     clear hy143
     obtain ⟨y144, hy144⟩ : ∃ y_ : List (S89), y_ = (y143.set (x5_1 : Int).toNat (⟨(rd_T89 y143 x5_1).f0, IntKind.i8.wrap (wrap64 (x1_1 + 1)), (⟨(rd_T89 y143 x5_1).f2.f0, (rd_T89 y143 x5_1).f2.f1, (rd_T89 y143 x5_1).f2.f2⟩ : S87)⟩ : S89)) := ⟨_, rfl⟩
     replace H : (laws_markForkS.l1 k1 y144 (wrap64 ((wrap64 (x1_1 + 1)) + 1)) x5_1 0) = some (r1, r2) := by first | (rw [hy144]; with_reducible exact H) | (have H2_ := (Option.bind_some _ _).symm.trans H; rw [hy144]; with_reducible exact H2_) | (have H2_ := (Option.bind_some _ _).symm.trans H; with_reducible exact H2_) | with_reducible exact H | (rw [hy144]; exact H) | exact H
     have Ny144 := A_ hy144
     clear hy144
     have H' := A_ H
     clear H
     obtain ⟨Ao7, co7, eo7⟩ := Kd.R_slice HO_0.out
     subst eo7
     have p5 : 0 ≤ (x5_1 : Int) := of_decide_eq_true (by assumption)
     have q5 : (x5_1 : Int) < ((x0_1.length : Int) : Int) := of_decide_eq_true (by assumption)
     obtain ⟨go5, co5, eo5, gb5, gl5, cl5, HG5⟩ := Kd.R_form HO_0.out (by omega)
     (first | cases eo5 | (injection eo5 with ea_ en_ ec_; (first | subst ea_ | (injection ea_ with ea_; subst ea_)); subst ec_; clear en_))
     have GB5 := A_ gb5
     have GG5 := A_ HG5
     clear gb5 gl5 HG5
     have HMgo5 := A_ (show (P0_ go5 ∨ w.heap.size ≤ go5) from (HO_0.out.1 _ rfl))
     obtain ⟨ce5, hcl5, hM5, hcc5, hfr5⟩ := Kd.R_elem HO_0.out z89 (x5_1 : Int) p5 q5
     obtain rfl := k89_openM hM5
     have hx5_0 : wr.cell? ⟨go5, (x5_1 : Int).toNat * 5, none⟩ = some (.int .i8 ((rd_T89 x0_1 x5_1).f0)) := hcc5 0 _ rfl
     have hx5_1 : wr.cell? ⟨go5, (x5_1 : Int).toNat * 5 + 1, none⟩ = some (.int .i8 ((rd_T89 x0_1 x5_1).f1)) := hcc5 1 _ rfl
     have hx5_2 : wr.cell? ⟨go5, (x5_1 : Int).toNat * 5 + 2, none⟩ = some (.int .i16 ((rd_T89 x0_1 x5_1).f2.f0)) := hcc5 2 _ rfl
     have hx5_3 : wr.cell? ⟨go5, (x5_1 : Int).toNat * 5 + 3, none⟩ = some (.int .i16 ((rd_T89 x0_1 x5_1).f2.f1)) := hcc5 3 _ rfl
     have hx5_4 : wr.cell? ⟨go5, (x5_1 : Int).toNat * 5 + 4, none⟩ = some (.int .i16 ((rd_T89 x0_1 x5_1).f2.f2)) := hcc5 4 _ rfl
     have hf5_0 : wr.frozen? ⟨go5, (x5_1 : Int).toNat * 5, none⟩ = false := hfr5 0
     have hf5_1 : wr.frozen? ⟨go5, (x5_1 : Int).toNat * 5 + 1, none⟩ = false := hfr5 1
     have hf5_2 : wr.frozen? ⟨go5, (x5_1 : Int).toNat * 5 + 2, none⟩ = false := hfr5 2
     have hf5_3 : wr.frozen? ⟨go5, (x5_1 : Int).toNat * 5 + 3, none⟩ = false := hfr5 3
     have hf5_4 : wr.frozen? ⟨go5, (x5_1 : Int).toNat * 5 + 4, none⟩ = false := hfr5 4
     clear hcl5 hcc5 hfr5 hM5
     replace p5 := eq_true p5
     replace q5 := eq_true q5
     have HX8 := A_ (show Kd.R k89 89 wr w0.heap.size (fun k_ => (P0_ k_ ∨ w.heap.size ≤ k_)) (.slice (some ⟨go5, 0, none⟩) x0_1.length co7) x0_1 from z2_6_)
     obtain ⟨ce8, hcl8, hM8, hcc8, hfr8⟩ := Kd.R_elem HX8.out z89 (x5_1 : Int) (of_decide_eq_true (by assumption)) (by have h_ : (x5_1 : Int) < ((x0_1.length : Int) : Int) := of_decide_eq_true (by assumption); first | exact h_ | (have e_ := (Kd.R_reads' HO_0.out).1; omega) | simpa using h_)
     obtain rfl := k89_openM hM8
     have HP8 := Kd.R_seg HX8.out (x5_1 : Int) (of_decide_eq_true (by assumption)) (by have h_ : (x5_1 : Int) < ((x0_1.length : Int) : Int) := of_decide_eq_true (by assumption); first | exact h_ | (have e_ := (Kd.R_reads' HO_0.out).1; omega) | simpa using h_) (seg := [.int .i8 (IntKind.i8.wrap (x1_1))]) (j := 0) hcl8 hcc8 (show 1 ≤ 5 from by decide) (x' := (⟨IntKind.i8.wrap (x1_1), (rd_T89 x0_1 x5_1).f1, (⟨(rd_T89 x0_1 x5_1).f2.f0, (rd_T89 x0_1 x5_1).f2.f1, (rd_T89 x0_1 x5_1).f2.f2⟩ : S87)⟩ : S89)) (k89_mkM _ _ _ (⟨IntKind.i8.wrap (x1_1), (rd_T89 x0_1 x5_1).f1, (⟨(rd_T89 x0_1 x5_1).f2.f0, (rd_T89 x0_1 x5_1).f2.f1, (rd_T89 x0_1 x5_1).f2.f2⟩ : S87)⟩ : S89) ) (fun _ hk => hk)
     have hx8_0 := hcc8 0 _ rfl
     (try simp only [show (k89).sz = 5 from rfl, Nat.mul_one, Nat.add_zero] at hx8_0)
     have hf8_0 := hfr8 0
     (try simp only [show (k89).sz = 5 from rfl, Nat.mul_one, Nat.add_zero] at hf8_0)
     clear hcl8 hcc8 hfr8 hM8
     go_wp2_with (first | ((with_reducible refine gate_store (t := 86) (p := 18) rfl ?_); refine store_event (t := 86) (p := 18) (v := ?vo_w9) (w1 := (wr.setCell ⟨go5, (x5_1 : Int).toNat * 5, none⟩ (.int .i8 (IntKind.i8.wrap (x1_1))))) ?hg ?ho ?hn ?hr ?_; (case ho => rfl); (case hg => rfl); (case hn => rfl); (case hr => first | (go_simp; done) | (go_simp; rfl)); intro w9 hw; have hg : wr.grownBy w9 (some go5) := (by rw [hw]; exact HP8.2); have hp_ : Kd.R k89 89 w9 w0.heap.size (fun k_ => (P0_ k_ ∨ w.heap.size ≤ k_)) (.slice (some ⟨go5, 0, none⟩) x0_1.length co7) y143 := (by rw [hw, Ny143.out]; exact HP8.1); clear HP8; have _ := A_ (hp_); have _ := A_ ((by rw [hw]; exact below_set (HB.out) GB5.out : Below w0.heap.size w0 w9)); have _ := A_ (Kept.of_grown (S := (fun k_ => P0_ k_)) hg z2_4_ (fun k_ e_ => (HO_0.out.1 k_ e_))); clear HO_0 HB HK; rename_i HO_0 HB HK; clear hg hw hp_; have p6 : 0 ≤ (x5_1 : Int) := of_decide_eq_true (by assumption); have q6 : (x5_1 : Int) < ((x0_1.length : Int) : Int) := of_decide_eq_true (by assumption); obtain ⟨ce6, hcl6, hM6, hcc6, hfr6⟩ := Kd.R_elem HO_0.out z89 (x5_1 : Int) p6 q6; obtain rfl := k89_openM hM6; have hx6_0 : w9.cell? ⟨go5, (x5_1 : Int).toNat * 5, none⟩ = some (.int .i8 ((rd_T89 y143 x5_1).f0)) := hcc6 0 _ rfl; have hx6_1 : w9.cell? ⟨go5, (x5_1 : Int).toNat * 5 + 1, none⟩ = some (.int .i8 ((rd_T89 y143 x5_1).f1)) := hcc6 1 _ rfl; have hx6_2 : w9.cell? ⟨go5, (x5_1 : Int).toNat * 5 + 2, none⟩ = some (.int .i16 ((rd_T89 y143 x5_1).f2.f0)) := hcc6 2 _ rfl; have hx6_3 : w9.cell? ⟨go5, (x5_1 : Int).toNat * 5 + 3, none⟩ = some (.int .i16 ((rd_T89 y143 x5_1).f2.f1)) := hcc6 3 _ rfl; have hx6_4 : w9.cell? ⟨go5, (x5_1 : Int).toNat * 5 + 4, none⟩ = some (.int .i16 ((rd_T89 y143 x5_1).f2.f2)) := hcc6 4 _ rfl; have hf6_0 : w9.frozen? ⟨go5, (x5_1 : Int).toNat * 5, none⟩ = false := hfr6 0; have hf6_1 : w9.frozen? ⟨go5, (x5_1 : Int).toNat * 5 + 1, none⟩ = false := hfr6 1; have hf6_2 : w9.frozen? ⟨go5, (x5_1 : Int).toNat * 5 + 2, none⟩ = false := hfr6 2; have hf6_3 : w9.frozen? ⟨go5, (x5_1 : Int).toNat * 5 + 3, none⟩ = false := hfr6 3; have hf6_4 : w9.frozen? ⟨go5, (x5_1 : Int).toNat * 5 + 4, none⟩ = false := hfr6 4; clear hcl6 hcc6 hfr6 hM6; replace p6 := eq_true p6; replace q6 := eq_true q6; have HX10 := A_ (show Kd.R k89 89 w9 w0.heap.size (fun k_ => (P0_ k_ ∨ w.heap.size ≤ k_)) (.slice (some ⟨go5, 0, none⟩) x0_1.length co7) y143 from z2_6_); obtain ⟨ce10, hcl10, hM10, hcc10, hfr10⟩ := Kd.R_elem HX10.out z89 (x5_1 : Int) (of_decide_eq_true (by assumption)) (by have h_ : (x5_1 : Int) < ((x0_1.length : Int) : Int) := of_decide_eq_true (by assumption); first | exact h_ | (have e_ := (Kd.R_reads' HO_0.out).1; omega) | simpa using h_); obtain rfl := k89_openM hM10; have HP10 := Kd.R_seg HX10.out (x5_1 : Int) (of_decide_eq_true (by assumption)) (by have h_ : (x5_1 : Int) < ((x0_1.length : Int) : Int) := of_decide_eq_true (by assumption); first | exact h_ | (have e_ := (Kd.R_reads' HO_0.out).1; omega) | simpa using h_) (seg := [.int .i8 (IntKind.i8.wrap (wrap64 (x1_1 + 1)))]) (j := 1) hcl10 hcc10 (show 2 ≤ 5 from by decide) (x' := (⟨(rd_T89 y143 x5_1).f0, IntKind.i8.wrap (wrap64 (x1_1 + 1)), (⟨(rd_T89 y143 x5_1).f2.f0, (rd_T89 y143 x5_1).f2.f1, (rd_T89 y143 x5_1).f2.f2⟩ : S87)⟩ : S89)) (k89_mkM _ _ _ (⟨(rd_T89 y143 x5_1).f0, IntKind.i8.wrap (wrap64 (x1_1 + 1)), (⟨(rd_T89 y143 x5_1).f2.f0, (rd_T89 y143 x5_1).f2.f1, (rd_T89 y143 x5_1).f2.f2⟩ : S87)⟩ : S89) ) (fun _ hk => hk); have hx10_1 := hcc10 1 _ rfl; (try simp only [show (k89).sz = 5 from rfl, Nat.mul_one, Nat.add_zero] at hx10_1); have hf10_1 := hfr10 1; (try simp only [show (k89).sz = 5 from rfl, Nat.mul_one, Nat.add_zero] at hf10_1); clear hcl10 hcc10 hfr10 hM10) | ((with_reducible refine gate_store (t := 86) (p := 26) rfl ?_); refine store_event (t := 86) (p := 26) (v := ?vo_w11) (w1 := (w9.setCell ⟨go5, (x5_1 : Int).toNat * 5 + 1, none⟩ (.int .i8 (IntKind.i8.wrap (wrap64 (x1_1 + 1)))))) ?hg ?ho ?hn ?hr ?_; (case ho => rfl); (case hg => rfl); (case hn => rfl); (case hr => first | (go_simp; done) | (go_simp; rfl)); intro w11 hw; have hg : w9.grownBy w11 (some go5) := (by rw [hw]; exact HP10.2); have hp_ : Kd.R k89 89 w11 w0.heap.size (fun k_ => (P0_ k_ ∨ w.heap.size ≤ k_)) (.slice (some ⟨go5, 0, none⟩) x0_1.length co7) y144 := (by rw [hw, Ny144.out]; exact HP10.1); clear HP10; have _ := A_ (hp_); have _ := A_ ((by rw [hw]; exact below_set (HB.out) GB5.out : Below w0.heap.size w0 w11)); have _ := A_ (Kept.of_grown (S := (fun k_ => P0_ k_)) hg z2_4_ (fun k_ e_ => (HO_0.out.1 k_ e_))); clear HO_0 HB HK; rename_i HO_0 HB HK; clear hg hw hp_))
     go_loopg [1, 6] k1 (fun kq v1 v6 w' => ∃ (x0_2 : List (S89)) (x1_2 : Int) (x6_2 : Int), v1 = .int .i64 x1_2 ∧ v6 = .int .i64 x6_2 ∧ Aside0 (laws_markForkS.l1 kq x0_2 x1_2 x5_1 x6_2 = some (r1, r2)) ∧ Aside0 (kq ≤ k1) ∧ Aside0 (Kd.R k89 89 w' w0.heap.size (fun k_ => (P0_ k_ ∨ w.heap.size ≤ k_)) (.slice (some ⟨go5, 0, none⟩) x0_1.length co7) x0_2) ∧ Aside0 (Kept w w' (fun k_ => P0_ k_)) ∧ Aside0 (Below w0.heap.size w0 w'))
     case atStart => exact ⟨(y144), (wrap64 ((wrap64 (x1_1 + 1)) + 1)), (0), z2_1_, z2_1_, H', ⟨Nat.le_refl _⟩, ⟨z2_6_⟩, ⟨z2_4_⟩, ⟨z2_2_⟩⟩
     case round =>
      clear H'
      try clear c1
      try clear hx1
      try clear p2
      try clear c3
      try clear c3b0
      try clear c4
      try clear c4b0
      try clear c5
      try clear p5
      try clear q5
      try clear hx5
      try clear hf5
      try clear c6
      try clear p6
      try clear q6
      try clear hx6
      try clear hf6
      try clear c8
      try clear hx8
      try clear hf8
      try clear c10
      try clear hx10
      try clear hf10
      try clear hx10_1
      try clear hx5_0
      try clear hx5_1
      try clear hx5_2
      try clear hx5_3
      try clear hx5_4
      try clear hx6_0
      try clear hx6_1
      try clear hx6_2
      try clear hx6_3
      try clear hx6_4
      try clear hx8_0
      try clear p2
      try clear p5
      try clear p6
      try clear q5
      try clear q6
      obtain ⟨x0_2, x1_2, x6_2, rfl, rfl, HA, HK2, HO_0, HK, HB⟩ := hrel
      have hl0_2 := (Kd.R_reads' HO_0.out).1
      rw [hl0_2] at HO_0
      (try simp only [hl0_2])
      cases gk with
      | zero => exact absurd HA.out (by simp [laws_markForkS.l1])
      | succ k2 =>
       have H := HA.out
       clear HA
       simp only [laws_markForkS.l1] at H
       by_cases c12 : x6_2 < 3
       ·
        rw [if_pos c12] at H
        have c12b0 := decide_eq_true c12
        clear c12
        by_cases c13 : 0 ≤ x5_1
        ·
         rw [if_pos c13] at H
         have c13b0 := decide_eq_true c13
         clear c13
         by_cases c14 : x5_1 < (x0_2.length : Int)
         ·
          rw [if_pos c14] at H
          have c14b0 := decide_eq_true c14
          clear c14
          by_cases c16 : 0 ≤ x6_2
          ·
           rw [if_pos c16] at H
           have c16b0 := decide_eq_true c16
           clear c16
           obtain ⟨y146, hy146⟩ : ∃ y_ : List (S89), y_ = (x0_2.set (x5_1 : Int).toNat (⟨(rd_T89 x0_2 x5_1).f0, (rd_T89 x0_2 x5_1).f1, (⟨(up 0 x6_2 (IntKind.i16.wrap (x1_2)) ((rd_T89 x0_2 x5_1).f2.f0)), (up 1 x6_2 (IntKind.i16.wrap (x1_2)) ((rd_T89 x0_2 x5_1).f2.f1)), (up 2 x6_2 (IntKind.i16.wrap (x1_2)) ((rd_T89 x0_2 x5_1).f2.f2))⟩ : S87)⟩ : S89)) := ⟨_, rfl⟩
           replace H : (laws_markForkS.l1 k2 y146 (wrap64 (x1_2 + 1)) x5_1 (wrap64 (x6_2 + 1))) = some (r1, r2) := by first | (rw [hy146]; with_reducible exact H) | (have H2_ := (Option.bind_some _ _).symm.trans H; rw [hy146]; with_reducible exact H2_) | (have H2_ := (Option.bind_some _ _).symm.trans H; with_reducible exact H2_) | with_reducible exact H | (rw [hy146]; exact H) | exact H
           have Ny146 := A_ hy146
           clear hy146
           have H' := A_ H
           clear H
           have p15 : 0 ≤ (x5_1 : Int) := of_decide_eq_true (by assumption)
           have q15 : (x5_1 : Int) < ((x0_2.length : Int) : Int) := of_decide_eq_true (by assumption)
           obtain ⟨ce15, hcl15, hM15, hcc15, hfr15⟩ := Kd.R_elem HO_0.out z89 (x5_1 : Int) p15 q15
           obtain rfl := k89_openM hM15
           have hx15_0 : wr.cell? ⟨go5, (x5_1 : Int).toNat * 5, none⟩ = some (.int .i8 ((rd_T89 x0_2 x5_1).f0)) := hcc15 0 _ rfl
           have hx15_1 : wr.cell? ⟨go5, (x5_1 : Int).toNat * 5 + 1, none⟩ = some (.int .i8 ((rd_T89 x0_2 x5_1).f1)) := hcc15 1 _ rfl
           have hx15_2 : wr.cell? ⟨go5, (x5_1 : Int).toNat * 5 + 2, none⟩ = some (.int .i16 ((rd_T89 x0_2 x5_1).f2.f0)) := hcc15 2 _ rfl
           have hx15_3 : wr.cell? ⟨go5, (x5_1 : Int).toNat * 5 + 3, none⟩ = some (.int .i16 ((rd_T89 x0_2 x5_1).f2.f1)) := hcc15 3 _ rfl
           have hx15_4 : wr.cell? ⟨go5, (x5_1 : Int).toNat * 5 + 4, none⟩ = some (.int .i16 ((rd_T89 x0_2 x5_1).f2.f2)) := hcc15 4 _ rfl
           have hf15_0 : wr.frozen? ⟨go5, (x5_1 : Int).toNat * 5, none⟩ = false := hfr15 0
           have hf15_1 : wr.frozen? ⟨go5, (x5_1 : Int).toNat * 5 + 1, none⟩ = false := hfr15 1
           have hf15_2 : wr.frozen? ⟨go5, (x5_1 : Int).toNat * 5 + 2, none⟩ = false := hfr15 2
           have hf15_3 : wr.frozen? ⟨go5, (x5_1 : Int).toNat * 5 + 3, none⟩ = false := hfr15 3
           have hf15_4 : wr.frozen? ⟨go5, (x5_1 : Int).toNat * 5 + 4, none⟩ = false := hfr15 4
           clear hcl15 hcc15 hfr15 hM15
           replace p15 := eq_true p15
           replace q15 := eq_true q15
           have p145 : 0 ≤ (x6_2 : Int) := of_decide_eq_true (by assumption)
           have q145 : (x6_2 : Int) < 3 := of_decide_eq_true (by assumption)
           have hcs145 := A_ (show (x6_2 : Int) = 0 ∨ (x6_2 : Int) = 1 ∨ (x6_2 : Int) = 2 by omega)
           replace p145 := eq_true p145
           replace q145 := eq_true q145
           have HX17 := A_ (show Kd.R k89 89 wr w0.heap.size (fun k_ => (P0_ k_ ∨ w.heap.size ≤ k_)) (.slice (some ⟨go5, 0, none⟩) x0_2.length co7) x0_2 from z2_6_)
           obtain ⟨ce17, hcl17, hM17, hcc17, hfr17⟩ := Kd.R_elem HX17.out z89 (x5_1 : Int) (of_decide_eq_true (by assumption)) (by have h_ : (x5_1 : Int) < ((x0_2.length : Int) : Int) := of_decide_eq_true (by assumption); first | exact h_ | (have e_ := (Kd.R_reads' HO_0.out).1; omega) | simpa using h_)
           obtain rfl := k89_openM hM17
           have HP17 := Kd.R_seg HX17.out (x5_1 : Int) (of_decide_eq_true (by assumption)) (by have h_ : (x5_1 : Int) < ((x0_2.length : Int) : Int) := of_decide_eq_true (by assumption); first | exact h_ | (have e_ := (Kd.R_reads' HO_0.out).1; omega) | simpa using h_) (seg := [.int .i16 (IntKind.i16.wrap (x1_2))]) (j := 2 + (x6_2 : Int).toNat) hcl17 hcc17 (show 2 + (x6_2 : Int).toNat + 1 ≤ 5 from by have h_ := of_eq_true q145; omega) (x' := (⟨(rd_T89 x0_2 x5_1).f0, (rd_T89 x0_2 x5_1).f1, (⟨(up 0 x6_2 (IntKind.i16.wrap (x1_2)) ((rd_T89 x0_2 x5_1).f2.f0)), (up 1 x6_2 (IntKind.i16.wrap (x1_2)) ((rd_T89 x0_2 x5_1).f2.f1)), (up 2 x6_2 (IntKind.i16.wrap (x1_2)) ((rd_T89 x0_2 x5_1).f2.f2))⟩ : S87)⟩ : S89)) (by rcases hcs145.out with h_ | h_ | h_ <;> rw [h_] <;> exact (k89_mkM _ _ _ _ )) (fun _ hk => hk)
           have hx17_0 : wr.cell? ⟨go5, (x5_1 : Int).toNat * 5 + 2 + (x6_2 : Int).toNat, none⟩ = some (.int .i16 (rd [(rd_T89 x0_2 x5_1).f2.f0, (rd_T89 x0_2 x5_1).f2.f1, (rd_T89 x0_2 x5_1).f2.f2] x6_2)) := cell_arr3 (hcc17 2 _ rfl) (hcc17 3 _ rfl) (hcc17 4 _ rfl) x6_2 (of_eq_true p145) (of_eq_true q145)
           have hf17_0 : wr.frozen? ⟨go5, (x5_1 : Int).toNat * 5 + 2 + (x6_2 : Int).toNat, none⟩ = false := (by have h_ := hfr17 (2 + (x6_2 : Int).toNat); rw [← Nat.add_assoc] at h_; exact h_)
           (try rw [← Nat.add_assoc] at HP17)
           clear hcl17 hcc17 hfr17 hM17
           go_wp2_with (first | ((with_reducible refine gate_store (t := 85) (p := 40) rfl ?_); refine store_event (t := 85) (p := 40) (v := ?vo_w18) (w1 := (wr.setCell ⟨go5, (x5_1 : Int).toNat * 5 + 2 + (x6_2 : Int).toNat, none⟩ (.int .i16 (IntKind.i16.wrap (x1_2))))) ?hg ?ho ?hn ?hr ?_; (case ho => rfl); (case hg => rfl); (case hn => rfl); (case hr => first | (go_simp; done) | (go_simp; rfl)); intro w18 hw; have hg : wr.grownBy w18 (some go5) := (by rw [hw]; exact HP17.2); have hp_ : Kd.R k89 89 w18 w0.heap.size (fun k_ => (P0_ k_ ∨ w.heap.size ≤ k_)) (.slice (some ⟨go5, 0, none⟩) x0_2.length co7) y146 := (by rw [hw, Ny146.out]; exact HP17.1); clear HP17; have _ := A_ (hp_); have _ := A_ ((by rw [hw]; exact below_set (HB.out) GB5.out : Below w0.heap.size w0 w18)); have _ := A_ (Kept.of_grown (S := (fun k_ => P0_ k_)) hg z2_4_ (fun k_ e_ => (HO_0.out.1 k_ e_))); clear HO_0 HB HK; rename_i HO_0 HB HK; clear hg hw hp_))
           (try simp only [← hl0_2])
           go_roundg k2
           case measure => have := HK1.out; have := HK2.out; omega
           case rel => exact ⟨(y146), (wrap64 (x1_2 + 1)), (wrap64 (x6_2 + 1)), z2_1_, z2_1_, H', ⟨z2_8_⟩, ⟨z2_11_⟩, ⟨z2_4_⟩, ⟨z2_2_⟩⟩
          ·
           rw [if_neg c16] at H
           exact absurd H (by simp)
         ·
          rw [if_neg c14] at H
          exact absurd H (by simp)
        ·
         rw [if_neg c13] at H
         exact absurd H (by simp)
       ·
        rw [if_neg c12] at H
        have c12b0 := decide_eq_false c12
        clear c12
        have H' := A_ H
        clear H
        go_wp2
        (try simp only [← hl0_2])
        go_roundg k2
        case measure => have := HK1.out; have := HK2.out; omega
        case rel => exact ⟨(x0_2), (x1_2), (wrap64 (x5_1 + 1)), z2_1_, z2_1_, H', ⟨z2_8_⟩, ⟨z2_11_⟩, ⟨z2_4_⟩, ⟨z2_2_⟩⟩
    ·
     rw [if_neg c4] at H
     exact absurd H (by simp)
   ·
    rw [if_neg c3] at H
    have c3b0 := decide_eq_false c3
    clear c3
    simp only [Option.some.injEq, Prod.mk.injEq] at H
    obtain ⟨rfl, rfl⟩ := H
    obtain ⟨Ao19, co19, eo19⟩ := Kd.R_slice HO_0.out
    subst eo19
    go_wp2
    go_ret
    exact ⟨z2_7_, z2_6_, z2_2_, z2_4_⟩
/-! ### laws_markTree: function 23 -/
def laws_markTree.f (k : Nat) (l0_0 : List (S89)) (a1 : Int) : Option (Int × (List (S89))) := (laws_markForkS.f k l0_0 a1).bind fun bt148 => (some (bt148.1, bt148.2))
theorem laws_markTree.mono : ∀ a0 a1 k, LeO (laws_markTree.f k a0 a1) (laws_markTree.f (k + 1) a0 a1) := by
 intro a0 a1 k
 unfold laws_markTree.f
 repeat' first
   | (with_reducible exact laws_markForkS.mono _ _ _)
   | (with_reducible exact LeO.refl _)
   | (with_reducible exact LeO.none _)
   | (with_reducible refine LeO.ite ?_ ?_)
   | (with_reducible refine LeO.bind ?_ (fun _ => ?_))
   | exact LeO.none _
   | refine LeO.ite ?_ ?_
   | refine LeO.bind ?_ (fun _ => ?_)
set_option maxHeartbeats 8000000 in
set_option maxRecDepth 100000 in
theorem laws_markTree.calls (k : Nat) (P0_0_ : Nat → Prop) (u9000_ : Value) (l0_0 : List (S89)) (a1 : Int) (r1 : Int) (r2 : List (S89)) (w0 w : World) (hB : Below w0.heap.size w0 w) (ho0_0 : Kd.R k89 89 w w0.heap.size P0_0_ u9000_ l0_0) (h : laws_markTree.f k l0_0 a1 = some (r1, r2)) :
  Calls Try.prog 23 #[.agg #[u9000_], .int .i64 a1] w fun e w' => e = .returned (.int .i64 r1) ∧ Kd.R k89 89 w' w0.heap.size (fun k_ => (P0_0_ k_ ∨ w.heap.size ≤ k_)) u9000_ r2 ∧ Below w0.heap.size w0 w' ∧ Kept w w' (fun k_ => P0_0_ k_) := by
 have hu34 := Try.underlying34
 have HO0_0 := A_ (show Kd.R k89 89 w w0.heap.size (fun k_ => (P0_0_ k_ ∨ w.heap.size ≤ k_)) u9000_ l0_0 from Kd.R_mono ho0_0 (fun k_ hk => (.inl hk)))
 have HK := A_ (Kept.refl w (fun k_ => P0_0_ k_))
 have HW0 := A_ hB.size
 have HB := A_ hB
 clear hB
 have H : ((laws_markForkS.f k l0_0 a1).bind fun bt148 => (some (bt148.1, bt148.2))) = some (r1, r2) := h
 clear h
 replace H := Option.bind_eq_some_iff.mp H
 obtain ⟨⟨t148, t149⟩, A30, H⟩ := H
 try dsimp only at H
 have A3 := A_ A30
 clear A30
 simp only [Option.some.injEq, Prod.mk.injEq] at H
 obtain ⟨rfl, rfl⟩ := H
 obtain ⟨Ao4, co4, eo4⟩ := Kd.R_slice HO0_0.out
 subst eo4
 go_enter Try.func23, Try.ntmps23
 go_wp2_with (first | ((with_reducible refine gate_dst (N := 2) rfl ?_); refine box_event ?hg (N := 2) ?hd (cs := #[.slice Ao4 l0_0.length co4]) (t := 34) ?hr ?_; (case hd => rfl); (case hg => rfl); (case hr => first | (go_simp; done) | (go_simp; rfl)); intro gb147 hg w5 hbox hb; have _ := A_ (Kd.R_below z2_12_ hb); have _ := A_ (Kept.below (S := (fun k_ => P0_0_ k_)) z2_4_ hb); have _ := A_ (below_step z2_2_ hb); have _ := A_ (hbox); have _ := A_ ((by rw [hg]; exact (by first | exact HK.out.1 | exact (show Kept w _ (fun k_ => P0_0_ k_) from by repeat (first | (with_reducible first | exact HK.out | apply Kept.alloc | apply Kept.drewN | apply Kept.drew) | exact HK.out)).1) : w.heap.size ≤ gb147)); have _ := A_ ((by rw [hg]; exact (below_size z2_2_) : w0.heap.size ≤ gb147)); clear HO0_0 HK HB; rename_i HO0_0 HK HB BK147 GW147 GE147; clear hb hbox hg; have hcz6_0 : w5.cell? ⟨gb147, 0, none⟩ = some (.slice Ao4 l0_0.length co4) := (blk_cell BK147.out 0).trans rfl; have hfz6_0 := blk_frozen BK147.out 0) | ((with_reducible refine gate_callee (f := 65) rfl ?_); refine goesL_ (some 8) rfl rfl Try.func65 (by kernel_rfl) rfl #[.slice Ao4 l0_0.length co4, .int .i64 a1] rfl z2_5_ ?_; (with_reducible refine (laws_markForkS.calls k (fun k_ => some k_ = (.slice Ao4 l0_0.length co4 : Value).ownBlock) (.slice Ao4 l0_0.length co4) l0_0 a1 t148 t149 w0 _ ?side1 ?side2 A3.out).mono ?_); (case side1 => repeat (first | (with_reducible first | exact HB.out | apply below_alloc | apply pw_below_drewN | apply below_drew1 | refine below_set ?_ GE147.out) | exact HB.out)); (case side2 => exact Kd.R_tight rfl HO0_0.out); rintro e w7 ⟨rfl, hy0, hb, hkp⟩; refine ⟨_, rfl, ?_⟩; have _ := A_ (Kd.R_reok rfl hy0 (fun k_ e_ => HO0_0.out.1 k_ e_)); have _ := A_ (blk_kept (by (with_reducible repeat (first | refine blk_drewN ?_ _ | refine blk_drew ?_ | refine blk_alloc ?_ _)); exact BK147.out) hkp (fun hs_ => (fun e_ => (Kd.R_ne HO0_0.out BK147.out (by decide)) e_) hs_)); have _ := A_ (Kept.then_ (S := (fun k_ => P0_0_ k_)) z2_9_ hkp (fun k_ hs_ => (fun e_ => (HO0_0.out.1 k_ e_.symm)) hs_)); have _ := A_ (hb); clear HO0_0 BK147 HK HB; rename_i HO0_0 BK147 HK HB; (try clear hb); (try clear hkp); (try clear hy0)))
 go_ret
 exact ⟨z2_7_, z2_12_, (by repeat (first | (with_reducible first | exact HB.out | apply below_alloc | apply pw_below_drewN | apply below_drew1 | refine below_set ?_ GE147.out) | exact HB.out)), z2_9_⟩
/-! ### laws_heldForkS: function 74 -/
mutual
def laws_heldForkS.l0 : Nat → List (S89) → Int → Int → Option (Int)
 | 0, _, _, _ => none
 | k + 1, x0, x1, x5 => if x5 < (x0.length : Int) then (if 0 ≤ x5 then (if ((rd_T89 x0 x5).f0) = (IntKind.i8.wrap (x1)) then (if ((rd_T89 x0 x5).f1) = (IntKind.i8.wrap (wrap64 (x1 + 1))) then (laws_heldForkS.l1 k x0 (wrap64 ((wrap64 (x1 + 1)) + 1)) x5 0) else (some (-1))) else (some (-1))) else (none)) else (some x1)
def laws_heldForkS.l1 : Nat → List (S89) → Int → Int → Int → Option (Int)
 | 0, _, _, _, _ => none
 | k + 1, x0, x1, x5, x6 => if x6 < 3 then (if 0 ≤ x5 then (if x5 < (x0.length : Int) then (if 0 ≤ x6 then (if (rd [(rd_T89 x0 x5).f2.f0, (rd_T89 x0 x5).f2.f1, (rd_T89 x0 x5).f2.f2] x6) = (IntKind.i16.wrap (x1)) then (laws_heldForkS.l1 k x0 (wrap64 (x1 + 1)) x5 (wrap64 (x6 + 1))) else (some (-1))) else (none)) else (none)) else (none)) else (laws_heldForkS.l0 k x0 x1 (wrap64 (x5 + 1)))
end
def laws_heldForkS.f (k : Nat) (l0 : List (S89)) (a1 : Int) : Option (Int) := laws_heldForkS.l0 k l0 a1 0
theorem laws_heldForkS.mono_l : ∀ k, (∀ y0 y1 y2, LeO (laws_heldForkS.l0 k y0 y1 y2) (laws_heldForkS.l0 (k + 1) y0 y1 y2)) ∧ (∀ y0 y1 y2 y3, LeO (laws_heldForkS.l1 k y0 y1 y2 y3) (laws_heldForkS.l1 (k + 1) y0 y1 y2 y3))
 | 0 => ⟨fun _ _ _ r h => by simp [laws_heldForkS.l0] at h, fun _ _ _ _ r h => by simp [laws_heldForkS.l1] at h⟩
 | k + 1 => by
  obtain ⟨ih0, ih1⟩ := laws_heldForkS.mono_l k
  refine ⟨?_, ?_⟩
  ·
   intro y0 y1 y2
   unfold laws_heldForkS.l0
   repeat' first
   | (with_reducible exact ih0 _ _ _)
   | (with_reducible exact ih1 _ _ _ _)
   | (with_reducible exact LeO.refl _)
   | (with_reducible exact LeO.none _)
   | (with_reducible refine LeO.ite ?_ ?_)
   | (with_reducible refine LeO.bind ?_ (fun _ => ?_))
   | exact ih0 _ _ _
   | exact ih1 _ _ _ _
   | exact LeO.none _
   | refine LeO.ite ?_ ?_
   | refine LeO.bind ?_ (fun _ => ?_)
  ·
   intro y0 y1 y2 y3
   unfold laws_heldForkS.l1
   repeat' first
   | (with_reducible exact ih0 _ _ _)
   | (with_reducible exact ih1 _ _ _ _)
   | (with_reducible exact LeO.refl _)
   | (with_reducible exact LeO.none _)
   | (with_reducible refine LeO.ite ?_ ?_)
   | (with_reducible refine LeO.bind ?_ (fun _ => ?_))
   | exact ih0 _ _ _
   | exact ih1 _ _ _ _
   | exact LeO.none _
   | refine LeO.ite ?_ ?_
   | refine LeO.bind ?_ (fun _ => ?_)
theorem laws_heldForkS.mono : ∀ a0 a1 k, LeO (laws_heldForkS.f k a0 a1) (laws_heldForkS.f (k + 1) a0 a1) := by
 intro a0 a1 k
 obtain ⟨ih0, ih1⟩ := laws_heldForkS.mono_l k
 unfold laws_heldForkS.f
 repeat' first
   | (with_reducible exact ih0 _ _ _)
   | (with_reducible exact ih1 _ _ _ _)
   | (with_reducible exact LeO.refl _)
   | (with_reducible exact LeO.none _)
   | (with_reducible refine LeO.ite ?_ ?_)
   | (with_reducible refine LeO.bind ?_ (fun _ => ?_))
   | exact ih0 _ _ _
   | exact ih1 _ _ _ _
   | exact LeO.none _
   | refine LeO.ite ?_ ?_
   | refine LeO.bind ?_ (fun _ => ?_)
set_option maxHeartbeats 8000000 in
set_option maxRecDepth 100000 in
theorem laws_heldForkS.calls (k : Nat) (A0 : Option Addr) (c0 : Nat) (l0 : List (S89)) (a1 : Int) (r : Int) (w : World) (hr0 : Kd.C k89 w A0 l0.length l0) (hc0 : l0.length ≤ c0) (h : laws_heldForkS.f k l0 a1 = some r) :
  Calls Try.prog 74 #[.slice A0 l0.length c0, .int .i64 a1] w fun e w' => e = .returned (.int .i64 r) ∧ Drawn0 w w' := by
 have HR0 := A_ hr0
 have HC0 := A_ hc0
 clear hr0 hc0
 have H : (laws_heldForkS.l0 k l0 a1 0) = some r := h
 clear h
 have H' := A_ H
 clear H
 go_enter Try.func74, Try.ntmps74
 go_wp2
 go_loopg [1, 5] k (fun kq v1 v5 w' => ∃ (x1_1 : Int) (x5_1 : Int), v1 = .int .i64 x1_1 ∧ v5 = .int .i64 x5_1 ∧ Aside0 (laws_heldForkS.l0 kq l0 x1_1 x5_1 = some r) ∧ Aside0 (kq ≤ k) ∧ Drawn0 w w')
 case atStart => exact ⟨(a1), (0), z2_1_, z2_1_, H', ⟨Nat.le_refl _⟩, z2_3_⟩
 case round =>
  clear H'
  try clear p2
  obtain ⟨x1_1, x5_1, rfl, rfl, HA, HK1, ⟨m1, rfl⟩⟩ := hrel
  cases gk with
  | zero => exact absurd HA.out (by simp [laws_heldForkS.l0])
  | succ k1 =>
   have H := HA.out
   clear HA
   simp only [laws_heldForkS.l0] at H
   by_cases c3 : x5_1 < (l0.length : Int)
   ·
    rw [if_pos c3] at H
    have c3b0 := decide_eq_true c3
    clear c3
    by_cases c4 : 0 ≤ x5_1
    ·
     rw [if_pos c4] at H
     have c4b0 := decide_eq_true c4
     clear c4
     by_cases c5 : ((rd_T89 l0 x5_1).f0) = (IntKind.i8.wrap (x1_1))
     ·
      rw [if_pos c5] at H
      have c5b0 := beq_iff_eq.mpr c5
      have c5b1 := bne_eq_false_iff_eq.mpr c5
      clear c5
      by_cases c6 : ((rd_T89 l0 x5_1).f1) = (IntKind.i8.wrap (wrap64 (x1_1 + 1)))
      ·
       rw [if_pos c6] at H
       have c6b0 := beq_iff_eq.mpr c6
       have c6b1 := bne_eq_false_iff_eq.mpr c6
       clear c6
       have H' := A_ H
       clear H
       have p150 : 0 ≤ (x5_1 : Int) := of_decide_eq_true (by assumption)
       have q150 : x5_1 < (l0.length : Int) := of_decide_eq_true (by assumption)
       obtain ⟨ad150, e150, hx150_0, hx150_1, hx150_2, hx150_3, hx150_4⟩ := at_T89 HR0.out x5_1 p150 q150
       cases e150
       replace p150 := eq_true p150
       replace q150 := eq_true q150
       have p151 : 0 ≤ (x5_1 : Int) := of_decide_eq_true (by assumption)
       have q151 : x5_1 < (l0.length : Int) := of_decide_eq_true (by assumption)
       obtain ⟨ad151, e151, hx151_0, hx151_1, hx151_2, hx151_3, hx151_4⟩ := at_T89 HR0.out x5_1 p151 q151
       obtain rfl : ad150 = ad151 := (by injection e151)
       replace p151 := eq_true p151
       replace q151 := eq_true q151
       go_wp2
       go_loopg [1, 6] k1 (fun kq v1 v6 w' => ∃ (x1_2 : Int) (x6_2 : Int), v1 = .int .i64 x1_2 ∧ v6 = .int .i64 x6_2 ∧ Aside0 (laws_heldForkS.l1 kq l0 x1_2 x5_1 x6_2 = some r) ∧ Aside0 (kq ≤ k1) ∧ Drawn0 w w')
       case atStart => exact ⟨(wrap64 ((wrap64 (x1_1 + 1)) + 1)), (0), z2_1_, z2_1_, H', ⟨Nat.le_refl _⟩, z2_3_⟩
       case round =>
        clear H'
        try clear p1
        try clear q1
        try clear hx1
        try clear p2
        try clear c3
        try clear c3b0
        try clear c4
        try clear c4b0
        try clear c5
        try clear c5b0
        try clear c5b1
        try clear c6
        try clear c6b0
        try clear c6b1
        try clear p6
        try clear hx150_0
        try clear hx150_1
        try clear hx150_2
        try clear hx150_3
        try clear hx150_4
        try clear hx151_0
        try clear hx151_1
        try clear hx151_2
        try clear hx151_3
        try clear hx151_4
        try clear p150
        try clear p151
        try clear p2
        try clear q150
        try clear q151
        obtain ⟨x1_2, x6_2, rfl, rfl, HA, HK2, ⟨m2, rfl⟩⟩ := hrel
        cases gk with
        | zero => exact absurd HA.out (by simp [laws_heldForkS.l1])
        | succ k2 =>
         have H := HA.out
         clear HA
         simp only [laws_heldForkS.l1] at H
         by_cases c7 : x6_2 < 3
         ·
          rw [if_pos c7] at H
          have c7b0 := decide_eq_true c7
          clear c7
          by_cases c8 : 0 ≤ x5_1
          ·
           rw [if_pos c8] at H
           have c8b0 := decide_eq_true c8
           clear c8
           by_cases c9 : x5_1 < (l0.length : Int)
           ·
            rw [if_pos c9] at H
            have c9b0 := decide_eq_true c9
            clear c9
            by_cases c10 : 0 ≤ x6_2
            ·
             rw [if_pos c10] at H
             have c10b0 := decide_eq_true c10
             clear c10
             by_cases c11 : (rd [(rd_T89 l0 x5_1).f2.f0, (rd_T89 l0 x5_1).f2.f1, (rd_T89 l0 x5_1).f2.f2] x6_2) = (IntKind.i16.wrap (x1_2))
             ·
              rw [if_pos c11] at H
              have c11b0 := beq_iff_eq.mpr c11
              have c11b1 := bne_eq_false_iff_eq.mpr c11
              clear c11
              have H' := A_ H
              clear H
              have p152 : 0 ≤ (x5_1 : Int) := of_decide_eq_true (by assumption)
              have q152 : x5_1 < (l0.length : Int) := of_decide_eq_true (by assumption)
              obtain ⟨ad152, e152, hx152_0, hx152_1, hx152_2, hx152_3, hx152_4⟩ := at_T89 HR0.out x5_1 p152 q152
              obtain rfl : ad150 = ad152 := (by injection e152)
              replace p152 := eq_true p152
              replace q152 := eq_true q152
              have p153 : 0 ≤ (x6_2 : Int) := of_decide_eq_true (by assumption)
              have q153 : (x6_2 : Int) < 3 := of_decide_eq_true (by assumption)
              have hx153_0 := cell_arr3 hx152_2 hx152_3 hx152_4 x6_2 p153 q153
              (try simp only [Nat.zero_add, Nat.add_zero] at hx153_0)
              replace p153 := eq_true p153
              replace q153 := eq_true q153
              go_wp2
              go_roundg k2
              case measure => have := HK1.out; have := HK2.out; omega
              case rel => exact ⟨(wrap64 (x1_2 + 1)), (wrap64 (x6_2 + 1)), z2_1_, z2_1_, H', ⟨z2_8_⟩, z2_3_⟩
             ·
              rw [if_neg c11] at H
              have c11b0 : ((rd [(rd_T89 l0 x5_1).f2.f0, (rd_T89 l0 x5_1).f2.f1, (rd_T89 l0 x5_1).f2.f2] x6_2) == (IntKind.i16.wrap (x1_2))) = false := beq_eq_false_iff_ne.mpr c11
              have c11b1 : ((rd [(rd_T89 l0 x5_1).f2.f0, (rd_T89 l0 x5_1).f2.f1, (rd_T89 l0 x5_1).f2.f2] x6_2) != (IntKind.i16.wrap (x1_2))) = true := bne_iff_ne.mpr c11
              obtain rfl := Option.some.inj H
              have p152 : 0 ≤ (x5_1 : Int) := of_decide_eq_true (by assumption)
              have q152 : x5_1 < (l0.length : Int) := of_decide_eq_true (by assumption)
              obtain ⟨ad152, e152, hx152_0, hx152_1, hx152_2, hx152_3, hx152_4⟩ := at_T89 HR0.out x5_1 p152 q152
              obtain rfl : ad150 = ad152 := (by injection e152)
              replace p152 := eq_true p152
              replace q152 := eq_true q152
              have p153 : 0 ≤ (x6_2 : Int) := of_decide_eq_true (by assumption)
              have q153 : (x6_2 : Int) < 3 := of_decide_eq_true (by assumption)
              have hx153_0 := cell_arr3 hx152_2 hx152_3 hx152_4 x6_2 p153 q153
              (try simp only [Nat.zero_add, Nat.add_zero] at hx153_0)
              replace p153 := eq_true p153
              replace q153 := eq_true q153
              go_wp2
              go_ret
              exact ⟨z2_1_, z2_3_⟩
            ·
             rw [if_neg c10] at H
             exact absurd H (by simp)
           ·
            rw [if_neg c9] at H
            exact absurd H (by simp)
          ·
           rw [if_neg c8] at H
           exact absurd H (by simp)
         ·
          rw [if_neg c7] at H
          have c7b0 := decide_eq_false c7
          clear c7
          have H' := A_ H
          clear H
          go_wp2
          go_roundg k2
          case measure => have := HK1.out; have := HK2.out; omega
          case rel => exact ⟨(x1_2), (wrap64 (x5_1 + 1)), z2_1_, z2_1_, H', ⟨z2_8_⟩, z2_3_⟩
      ·
       rw [if_neg c6] at H
       have c6b0 : (((rd_T89 l0 x5_1).f1) == (IntKind.i8.wrap (wrap64 (x1_1 + 1)))) = false := beq_eq_false_iff_ne.mpr c6
       have c6b1 : (((rd_T89 l0 x5_1).f1) != (IntKind.i8.wrap (wrap64 (x1_1 + 1)))) = true := bne_iff_ne.mpr c6
       obtain rfl := Option.some.inj H
       have p150 : 0 ≤ (x5_1 : Int) := of_decide_eq_true (by assumption)
       have q150 : x5_1 < (l0.length : Int) := of_decide_eq_true (by assumption)
       obtain ⟨ad150, e150, hx150_0, hx150_1, hx150_2, hx150_3, hx150_4⟩ := at_T89 HR0.out x5_1 p150 q150
       cases e150
       replace p150 := eq_true p150
       replace q150 := eq_true q150
       have p151 : 0 ≤ (x5_1 : Int) := of_decide_eq_true (by assumption)
       have q151 : x5_1 < (l0.length : Int) := of_decide_eq_true (by assumption)
       obtain ⟨ad151, e151, hx151_0, hx151_1, hx151_2, hx151_3, hx151_4⟩ := at_T89 HR0.out x5_1 p151 q151
       obtain rfl : ad150 = ad151 := (by injection e151)
       replace p151 := eq_true p151
       replace q151 := eq_true q151
       go_wp2
       go_ret
       exact ⟨z2_1_, z2_3_⟩
     ·
      rw [if_neg c5] at H
      have c5b0 : (((rd_T89 l0 x5_1).f0) == (IntKind.i8.wrap (x1_1))) = false := beq_eq_false_iff_ne.mpr c5
      have c5b1 : (((rd_T89 l0 x5_1).f0) != (IntKind.i8.wrap (x1_1))) = true := bne_iff_ne.mpr c5
      obtain rfl := Option.some.inj H
      have p150 : 0 ≤ (x5_1 : Int) := of_decide_eq_true (by assumption)
      have q150 : x5_1 < (l0.length : Int) := of_decide_eq_true (by assumption)
      obtain ⟨ad150, e150, hx150_0, hx150_1, hx150_2, hx150_3, hx150_4⟩ := at_T89 HR0.out x5_1 p150 q150
      cases e150
      replace p150 := eq_true p150
      replace q150 := eq_true q150
      go_wp2
      go_ret
      exact ⟨z2_1_, z2_3_⟩
    ·
     rw [if_neg c4] at H
     exact absurd H (by simp)
   ·
    rw [if_neg c3] at H
    have c3b0 := decide_eq_false c3
    clear c3
    obtain rfl := Option.some.inj H
    go_wp2
    go_ret
    exact ⟨z2_1_, z2_3_⟩
/-! ### laws_heldTree: function 31 -/
def laws_heldTree.f (k : Nat) (l0_0 : List (S89)) (a1 : Int) : Option (Int) := (laws_heldForkS.f k l0_0 a1).bind fun t155 => (if t155 < 0 then (some (-1)) else (some t155))
theorem laws_heldTree.mono : ∀ a0 a1 k, LeO (laws_heldTree.f k a0 a1) (laws_heldTree.f (k + 1) a0 a1) := by
 intro a0 a1 k
 unfold laws_heldTree.f
 repeat' first
   | (with_reducible exact laws_heldForkS.mono _ _ _)
   | (with_reducible exact LeO.refl _)
   | (with_reducible exact LeO.none _)
   | (with_reducible refine LeO.ite ?_ ?_)
   | (with_reducible refine LeO.bind ?_ (fun _ => ?_))
   | exact LeO.none _
   | refine LeO.ite ?_ ?_
   | refine LeO.bind ?_ (fun _ => ?_)
set_option maxHeartbeats 8000000 in
set_option maxRecDepth 100000 in
theorem laws_heldTree.calls (k : Nat) (A0_0 : Option Addr) (c0_0 : Nat) (l0_0 : List (S89)) (a1 : Int) (r : Int) (w : World) (hr0_0 : Kd.C k89 w A0_0 l0_0.length l0_0) (hc0_0 : l0_0.length ≤ c0_0) (h : laws_heldTree.f k l0_0 a1 = some r) :
  Calls Try.prog 31 #[.agg #[.slice A0_0 l0_0.length c0_0], .int .i64 a1] w fun e w' => e = .returned (.int .i64 r) ∧ Below w.heap.size w w' := by
 have hu34 := Try.underlying34
 have HR0_0 := A_ hr0_0
 have HC0_0 := A_ hc0_0
 clear hr0_0 hc0_0
 have HB := A_ (Below.refl w.heap.size w)
 have H : ((laws_heldForkS.f k l0_0 a1).bind fun t155 => (if t155 < 0 then (some (-1)) else (some t155))) = some r := h
 clear h
 replace H := Option.bind_eq_some_iff.mp H
 obtain ⟨t155, A30, H⟩ := H
 try dsimp only at H
 have A3 := A_ A30
 clear A30
 by_cases c4 : t155 < 0
 ·
  rw [if_pos c4] at H
  have c4b0 := decide_eq_true c4
  clear c4
  obtain rfl := Option.some.inj H
  go_enter Try.func31, Try.ntmps31
  go_wp2_with (first | ((with_reducible refine gate_dst (N := 2) rfl ?_); refine box_event ?hg (N := 2) ?hd (cs := #[.slice A0_0 l0_0.length c0_0]) (t := 34) ?hr ?_; (case hd => rfl); (case hg => rfl); (case hr => first | (go_simp; done) | (go_simp; rfl)); intro gb154 hg w5 hbox hb; have _ := A_ (below_step z2_2_ hb); have _ := A_ (hbox); have _ := A_ ((by rw [hg]; exact (below_size z2_2_) : w.heap.size ≤ gb154)); have _ := A_ ((by rw [hg]; exact (below_size z2_2_) : w.heap.size ≤ gb154)); clear HB; rename_i HB BK154 GW154 GE154; clear hb hbox hg; have hcz6_0 : w5.cell? ⟨gb154, 0, none⟩ = some (.slice A0_0 l0_0.length c0_0) := (blk_cell BK154.out 0).trans rfl; have hfz6_0 := blk_frozen BK154.out 0) | ((with_reducible refine gate_callee (f := 74) rfl ?_); refine goesL_ (some 8) rfl rfl Try.func74 (by kernel_rfl) rfl #[.slice A0_0 l0_0.length c0_0, .int .i64 a1] rfl z2_5_ ?_; (with_reducible refine (laws_heldForkS.calls k _ _ l0_0 a1 t155 _ ?side1 ?side2 A3.out).mono ?_); (case side1 => have hx_ := (Kd.C_below HR0_0.out HB.out); exact kc_); (case side2 => exact HC0_0.out); rintro e w' ⟨rfl, ⟨nd, rfl⟩⟩; refine ⟨_, rfl, ?_⟩))
  go_ret
  exact ⟨z2_7_, z2_10_⟩
 ·
  rw [if_neg c4] at H
  have c4b0 := decide_eq_false c4
  clear c4
  obtain rfl := Option.some.inj H
  go_enter Try.func31, Try.ntmps31
  go_wp2_with (first | ((with_reducible refine gate_dst (N := 2) rfl ?_); refine box_event ?hg (N := 2) ?hd (cs := #[.slice A0_0 l0_0.length c0_0]) (t := 34) ?hr ?_; (case hd => rfl); (case hg => rfl); (case hr => first | (go_simp; done) | (go_simp; rfl)); intro gb154 hg w7 hbox hb; have _ := A_ (below_step z2_2_ hb); have _ := A_ (hbox); have _ := A_ ((by rw [hg]; exact (below_size z2_2_) : w.heap.size ≤ gb154)); have _ := A_ ((by rw [hg]; exact (below_size z2_2_) : w.heap.size ≤ gb154)); clear HB; rename_i HB BK154 GW154 GE154; clear hb hbox hg; have hcz8_0 : w7.cell? ⟨gb154, 0, none⟩ = some (.slice A0_0 l0_0.length c0_0) := (blk_cell BK154.out 0).trans rfl; have hfz8_0 := blk_frozen BK154.out 0) | ((with_reducible refine gate_callee (f := 74) rfl ?_); refine goesL_ (some 8) rfl rfl Try.func74 (by kernel_rfl) rfl #[.slice A0_0 l0_0.length c0_0, .int .i64 a1] rfl z2_5_ ?_; (with_reducible refine (laws_heldForkS.calls k _ _ l0_0 a1 t155 _ ?side1 ?side2 A3.out).mono ?_); (case side1 => have hx_ := (Kd.C_below HR0_0.out HB.out); exact kc_); (case side2 => exact HC0_0.out); rintro e w' ⟨rfl, ⟨nd, rfl⟩⟩; refine ⟨_, rfl, ?_⟩))
  go_ret
  exact ⟨z2_7_, z2_10_⟩
/-! ### spec_l00In: function 109 -/
def spec_l00In.f (a0 : Int) (a1 : Int) (a2 : Int) : Option (Bool) := if a0 ≥ a1 then (some (decide (a0 ≤ a2))) else (some false)
set_option maxHeartbeats 8000000 in
set_option maxRecDepth 100000 in
theorem spec_l00In.calls (a0 : Int) (a1 : Int) (a2 : Int) (r : Bool) (w : World) (h : spec_l00In.f a0 a1 a2 = some r) :
  Calls Try.prog 109 #[.int .i64 a0, .int .i64 a1, .int .i64 a2] w fun e w' => e = .returned (.bool r) ∧ Drawn0 w w' := by
 have H : (if a0 ≥ a1 then (some (decide (a0 ≤ a2))) else (some false)) = some r := h
 clear h
 by_cases c4 : a0 ≥ a1
 ·
  rw [if_pos c4] at H
  have c4b0 := decide_eq_true c4
  clear c4
  obtain rfl := Option.some.inj H
  go_enter Try.func109, Try.ntmps109
  go_wp2
  go_ret
  exact ⟨z2_1_, z2_3_⟩
 ·
  rw [if_neg c4] at H
  have c4b0 := decide_eq_false c4
  clear c4
  obtain rfl := Option.some.inj H
  go_enter Try.func109, Try.ntmps109
  go_wp2
  go_ret
  exact ⟨z2_1_, z2_3_⟩
/-! ### spec_l06Ok: function 66 -/
mutual
def spec_l06Ok.l0 : Nat → List (S34) → Int → Int → Option (Bool)
 | 0, _, _, _ => none
 | k + 1, x0, x3, x4 => if x4 < x3 then (if 0 < (x0.length : Int) then (if 0 ≤ x4 then (if x4 < (((rd_T34 x0 0).f0).length : Int) then (spec_l06Ok.l1 k x0 x3 x4 [rd_T89 ((rd_T34 x0 0).f0) x4] 0) else (none)) else (none)) else (none)) else (some true)
def spec_l06Ok.l1 : Nat → List (S34) → Int → Int → List (S89) → Int → Option (Bool)
 | 0, _, _, _, _, _ => none
 | k + 1, x0, x3, x4, x5, x6 => if x6 < 3 then (if 0 < (x5.length : Int) then (if 0 ≤ x6 then ((spec_l00In.f (wrap64 (rd [(rd_T89 x5 0).f2.f0, (rd_T89 x5 0).f2.f1, (rd_T89 x5 0).f2.f2] x6)) 0 (wrap64 (x3 - 1))).bind fun t163 => (if t163 = true then (spec_l06Ok.l1 k x0 x3 x4 x5 (wrap64 (x6 + 1))) else (some false))) else (none)) else (none)) else (if 0 < (x5.length : Int) then (if ((rd_T89 x5 0).f0) = 1 then (if ((rd_T89 x5 0).f1) = 0 then (spec_l06Ok.l0 k x0 x3 (wrap64 (x4 + 1))) else (some false)) else (if ((rd_T89 x5 0).f0) = 2 then (if ((rd_T89 x5 0).f1) < (-1) then (some false) else (if ((rd_T89 x5 0).f1) > 1 then (some false) else (if ((rd_T89 x5 0).f2.f1) = 0 then (if ((rd_T89 x5 0).f2.f2) = 0 then (spec_l06Ok.l0 k x0 x3 (wrap64 (x4 + 1))) else (some false)) else (some false)))) else (some false))) else (none))
end
def spec_l06Ok.f (k : Nat) (l0 : List (S34)) : Option (Bool) := if 0 < (l0.length : Int) then ((spec_l00In.f (((rd_T34 l0 0).f0).length : Int) 1 60).bind fun t157 => (if t157 = true then (spec_l06Ok.l0 k l0 (((rd_T34 l0 0).f0).length : Int) 0) else (some false))) else (none)
theorem spec_l06Ok.mono_l : ∀ k, (∀ y0 y1 y2, LeO (spec_l06Ok.l0 k y0 y1 y2) (spec_l06Ok.l0 (k + 1) y0 y1 y2)) ∧ (∀ y0 y1 y2 y3 y4, LeO (spec_l06Ok.l1 k y0 y1 y2 y3 y4) (spec_l06Ok.l1 (k + 1) y0 y1 y2 y3 y4))
 | 0 => ⟨fun _ _ _ r h => by simp [spec_l06Ok.l0] at h, fun _ _ _ _ _ r h => by simp [spec_l06Ok.l1] at h⟩
 | k + 1 => by
  obtain ⟨ih0, ih1⟩ := spec_l06Ok.mono_l k
  refine ⟨?_, ?_⟩
  ·
   intro y0 y1 y2
   unfold spec_l06Ok.l0
   repeat' first
   | (with_reducible exact ih0 _ _ _)
   | (with_reducible exact ih1 _ _ _ _ _)
   | (with_reducible exact LeO.refl _)
   | (with_reducible exact LeO.none _)
   | (with_reducible refine LeO.ite ?_ ?_)
   | (with_reducible refine LeO.bind ?_ (fun _ => ?_))
   | exact ih0 _ _ _
   | exact ih1 _ _ _ _ _
   | exact LeO.none _
   | refine LeO.ite ?_ ?_
   | refine LeO.bind ?_ (fun _ => ?_)
  ·
   intro y0 y1 y2 y3 y4
   unfold spec_l06Ok.l1
   repeat' first
   | (with_reducible exact ih0 _ _ _)
   | (with_reducible exact ih1 _ _ _ _ _)
   | (with_reducible exact LeO.refl _)
   | (with_reducible exact LeO.none _)
   | (with_reducible refine LeO.ite ?_ ?_)
   | (with_reducible refine LeO.bind ?_ (fun _ => ?_))
   | exact ih0 _ _ _
   | exact ih1 _ _ _ _ _
   | exact LeO.none _
   | refine LeO.ite ?_ ?_
   | refine LeO.bind ?_ (fun _ => ?_)
theorem spec_l06Ok.mono : ∀ a0 k, LeO (spec_l06Ok.f k a0) (spec_l06Ok.f (k + 1) a0) := by
 intro a0 k
 obtain ⟨ih0, ih1⟩ := spec_l06Ok.mono_l k
 unfold spec_l06Ok.f
 repeat' first
   | (with_reducible exact ih0 _ _ _)
   | (with_reducible exact ih1 _ _ _ _ _)
   | (with_reducible exact LeO.refl _)
   | (with_reducible exact LeO.none _)
   | (with_reducible refine LeO.ite ?_ ?_)
   | (with_reducible refine LeO.bind ?_ (fun _ => ?_))
   | exact ih0 _ _ _
   | exact ih1 _ _ _ _ _
   | exact LeO.none _
   | refine LeO.ite ?_ ?_
   | refine LeO.bind ?_ (fun _ => ?_)
set_option maxHeartbeats 8000000 in
set_option maxRecDepth 100000 in
theorem spec_l06Ok.calls (k : Nat) (A0 : Option Addr) (c0 : Nat) (l0 : List (S34)) (r : Bool) (w : World) (hr0 : Kd.C k34 w A0 l0.length l0) (hc0 : l0.length ≤ c0) (h : spec_l06Ok.f k l0 = some r) :
  Calls Try.prog 66 #[.pointer A0] w fun e w' => e = .returned (.bool r) ∧ Drawn0 w w' := by
 have HR0 := A_ hr0
 have HC0 := A_ hc0
 clear hr0 hc0
 have H : (if 0 < (l0.length : Int) then ((spec_l00In.f (((rd_T34 l0 0).f0).length : Int) 1 60).bind fun t157 => (if t157 = true then (spec_l06Ok.l0 k l0 (((rd_T34 l0 0).f0).length : Int) 0) else (some false))) else (none)) = some r := h
 clear h
 by_cases c2 : 0 < (l0.length : Int)
 ·
  rw [if_pos c2] at H
  have c2b0 := decide_eq_true c2
  have c2b1 : decide (0 < l0.length) = true := decide_eq_true (by omega)
  clear c2
  replace H := Option.bind_eq_some_iff.mp H
  obtain ⟨t157, A30, H⟩ := H
  try dsimp only at H
  have A3 := A_ A30
  clear A30
  by_cases c4 : t157 = true
  ·
   subst c4
   have H1 := H; rw [if_pos rfl] at H1
   clear H
   have H := H1
   clear H1
   have H' := A_ H
   clear H
   have q156 : 0 < (l0.length : Int) := of_decide_eq_true (by assumption)
   obtain ⟨ad156, A156_0, c156_0, e156, hx156_0, hl156_0, hi156_0⟩ := rp_T34 HR0.out q156
   cases e156
   have HR156_0 := A_ hi156_0
   have HC156_0 := A_ hl156_0
   clear hi156_0 hl156_0
   go_enter Try.func66, Try.ntmps66
   go_wp2_with (first | ((with_reducible refine gate_callee (f := 109) rfl ?_); refine goesL_ (some 13) rfl rfl Try.func109 (by kernel_rfl) rfl #[.int .i64 (((rd_T34 l0 0).f0).length : Int), .int .i64 1, .int .i64 60] rfl z2_5_ ?_; (with_reducible refine (spec_l00In.calls (((rd_T34 l0 0).f0).length : Int) 1 60 true _ A3.out).mono ?_); rintro e w' ⟨rfl, ⟨nd, rfl⟩⟩; refine ⟨_, rfl, ?_⟩))
   go_loopg [4] k (fun kq v4 w' => ∃ (x4_1 : Int), v4 = .int .i64 x4_1 ∧ Aside0 (spec_l06Ok.l0 kq l0 (((rd_T34 l0 0).f0).length : Int) x4_1 = some r) ∧ Aside0 (kq ≤ k) ∧ Drawn0 w w')
   case atStart => exact ⟨(0), z2_1_, H', ⟨Nat.le_refl _⟩, z2_3_⟩
   case round =>
    clear H'
    try clear c1
    try clear q1
    try clear hx1
    try clear c2
    try clear c2b0
    try clear c2b1
    try clear p2
    try clear c4
    try clear hx156_0
    try clear q156
    obtain ⟨x4_1, rfl, HA, HK1, ⟨m1, rfl⟩⟩ := hrel
    cases gk with
    | zero => exact absurd HA.out (by simp [spec_l06Ok.l0])
    | succ k1 =>
     have H := HA.out
     clear HA
     simp only [spec_l06Ok.l0] at H
     (repeat (first | rw [rd1_T89] at H))
     by_cases c5 : x4_1 < (((rd_T34 l0 0).f0).length : Int)
     ·
      rw [if_pos c5] at H
      have c5b0 := decide_eq_true c5
      clear c5
      by_cases c6 : 0 < (l0.length : Int)
      ·
       rw [if_pos c6] at H
       have c6b0 := decide_eq_true c6
       have c6b1 : decide (0 < l0.length) = true := decide_eq_true (by omega)
       clear c6
       by_cases c7 : 0 ≤ x4_1
       ·
        rw [if_pos c7] at H
        have c7b0 := decide_eq_true c7
        clear c7
        by_cases c8 : x4_1 < (((rd_T34 l0 0).f0).length : Int)
        ·
         rw [if_pos c8] at H
         have c8b0 := decide_eq_true c8
         clear c8
         have H' := A_ H
         clear H
         have q158 : 0 < (l0.length : Int) := of_decide_eq_true (by assumption)
         obtain ⟨ad158, A158_0, c158_0, e158, hx158_0, hl158_0, hi158_0⟩ := rp_T34 HR0.out q158
         obtain rfl : ad156 = ad158 := (by injection e158)
         have HR158_0 := A_ hi158_0
         have HC158_0 := A_ hl158_0
         clear hi158_0 hl158_0
         have p159 : 0 ≤ (x4_1 : Int) := of_decide_eq_true (by assumption)
         have q159 : x4_1 < (((rd_T34 l0 0).f0).length : Int) := of_decide_eq_true (by assumption)
         obtain ⟨ad159, e159, hx159_0, hx159_1, hx159_2, hx159_3, hx159_4⟩ := at_T89 HR158_0.out x4_1 p159 q159
         cases e159
         replace p159 := eq_true p159
         replace q159 := eq_true q159
         have HR160 := A_ (show Kd.C k89 w (some (Addr.add ad159 (x4_1.toNat * 5))) [rd_T89 ((rd_T34 l0 0).f0) x4_1].length [rd_T89 ((rd_T34 l0 0).f0) x4_1] from Kd.C_el k89 z89 HR158_0.out (x4_1 : Int) (of_eq_true p159) (of_eq_true q159))
         go_wp2
         go_loopg [6] k1 (fun kq v6 w' => ∃ (x6_2 : Int), v6 = .int .i64 x6_2 ∧ Aside0 (spec_l06Ok.l1 kq l0 (((rd_T34 l0 0).f0).length : Int) x4_1 [rd_T89 ((rd_T34 l0 0).f0) x4_1] x6_2 = some r) ∧ Aside0 (kq ≤ k1) ∧ Drawn0 w w')
         case atStart => exact ⟨(0), z2_1_, H', ⟨Nat.le_refl _⟩, z2_3_⟩
         case round =>
          clear H'
          try clear c1
          try clear p1
          try clear q1
          try clear hx1
          try clear c2
          try clear c2b0
          try clear c2b1
          try clear p2
          try clear c4
          try clear c5
          try clear c5b0
          try clear c6
          try clear c6b0
          try clear c6b1
          try clear c7
          try clear c7b0
          try clear c8
          try clear c8b0
          try clear hx156_0
          try clear hx158_0
          try clear hx159_0
          try clear hx159_1
          try clear hx159_2
          try clear hx159_3
          try clear hx159_4
          try clear p159
          try clear p2
          try clear q1
          try clear q156
          try clear q158
          try clear q159
          obtain ⟨x6_2, rfl, HA, HK2, ⟨m2, rfl⟩⟩ := hrel
          cases gk with
          | zero => exact absurd HA.out (by simp [spec_l06Ok.l1])
          | succ k2 =>
           have H := HA.out
           clear HA
           simp only [spec_l06Ok.l1] at H
           (repeat (first | rw [rd1_T89] at H))
           by_cases c9 : x6_2 < 3
           ·
            rw [if_pos c9] at H
            have c9b0 := decide_eq_true c9
            clear c9
            by_cases c10 : 0 < ([rd_T89 ((rd_T34 l0 0).f0) x4_1].length : Int)
            ·
             rw [if_pos c10] at H
             have c10b0 := decide_eq_true c10
             have c10b1 : decide (0 < [rd_T89 ((rd_T34 l0 0).f0) x4_1].length) = true := decide_eq_true (by omega)
             clear c10
             by_cases c11 : 0 ≤ x6_2
             ·
              rw [if_pos c11] at H
              have c11b0 := decide_eq_true c11
              clear c11
              replace H := Option.bind_eq_some_iff.mp H
              obtain ⟨t163, A120, H⟩ := H
              try dsimp only at H
              have A12 := A_ A120
              clear A120
              by_cases c13 : t163 = true
              ·
               subst c13
               have H1 := H; rw [if_pos rfl] at H1
               clear H
               have H := H1
               clear H1
               have H' := A_ H
               clear H
               have q161 : 0 < ([rd_T89 ((rd_T34 l0 0).f0) x4_1].length : Int) := of_decide_eq_true (by assumption)
               obtain ⟨ad161, e161, hx161_0, hx161_1, hx161_2, hx161_3, hx161_4⟩ := rp_T89 HR160.out q161
               (try simp only [rd1_T89] at hx161_0 hx161_1 hx161_2 hx161_3 hx161_4)
               obtain rfl : (Addr.add ad159 (x4_1.toNat * 5)) = ad161 := (by injection e161)
               have p162 : 0 ≤ (x6_2 : Int) := of_decide_eq_true (by assumption)
               have q162 : (x6_2 : Int) < 3 := of_decide_eq_true (by assumption)
               have hx162_0 := cell_arr3 hx161_2 hx161_3 hx161_4 x6_2 p162 q162
               (try simp only [Nat.zero_add, Nat.add_zero] at hx162_0)
               replace p162 := eq_true p162
               replace q162 := eq_true q162
               go_wp2_with (first | ((with_reducible refine gate_callee (f := 109) rfl ?_); refine goesL_ (some 39) rfl rfl Try.func109 (by kernel_rfl) rfl #[.int .i64 (wrap64 (rd [(rd_T89 ((rd_T34 l0 0).f0) x4_1).f2.f0, (rd_T89 ((rd_T34 l0 0).f0) x4_1).f2.f1, (rd_T89 ((rd_T34 l0 0).f0) x4_1).f2.f2] x6_2)), .int .i64 0, .int .i64 (wrap64 ((((rd_T34 l0 0).f0).length : Int) - 1))] rfl z2_5_ ?_; (with_reducible refine (spec_l00In.calls (wrap64 (rd [(rd_T89 ((rd_T34 l0 0).f0) x4_1).f2.f0, (rd_T89 ((rd_T34 l0 0).f0) x4_1).f2.f1, (rd_T89 ((rd_T34 l0 0).f0) x4_1).f2.f2] x6_2)) 0 (wrap64 ((((rd_T34 l0 0).f0).length : Int) - 1)) true _ A12.out).mono ?_); rintro e w' ⟨rfl, ⟨nd, rfl⟩⟩; refine ⟨_, rfl, ?_⟩))
               go_roundg k2
               case measure => have := HK1.out; have := HK2.out; omega
               case rel => exact ⟨(wrap64 (x6_2 + 1)), z2_1_, H', ⟨z2_8_⟩, z2_3_⟩
              ·
               replace c13 := Bool.eq_false_iff.mpr c13
               subst c13
               have H1 := H; rw [if_neg (show ¬ (false = true) by decide)] at H1
               clear H
               have H := H1
               clear H1
               obtain rfl := Option.some.inj H
               have q161 : 0 < ([rd_T89 ((rd_T34 l0 0).f0) x4_1].length : Int) := of_decide_eq_true (by assumption)
               obtain ⟨ad161, e161, hx161_0, hx161_1, hx161_2, hx161_3, hx161_4⟩ := rp_T89 HR160.out q161
               (try simp only [rd1_T89] at hx161_0 hx161_1 hx161_2 hx161_3 hx161_4)
               obtain rfl : (Addr.add ad159 (x4_1.toNat * 5)) = ad161 := (by injection e161)
               have p162 : 0 ≤ (x6_2 : Int) := of_decide_eq_true (by assumption)
               have q162 : (x6_2 : Int) < 3 := of_decide_eq_true (by assumption)
               have hx162_0 := cell_arr3 hx161_2 hx161_3 hx161_4 x6_2 p162 q162
               (try simp only [Nat.zero_add, Nat.add_zero] at hx162_0)
               replace p162 := eq_true p162
               replace q162 := eq_true q162
               go_wp2_with (first | ((with_reducible refine gate_callee (f := 109) rfl ?_); refine goesL_ (some 39) rfl rfl Try.func109 (by kernel_rfl) rfl #[.int .i64 (wrap64 (rd [(rd_T89 ((rd_T34 l0 0).f0) x4_1).f2.f0, (rd_T89 ((rd_T34 l0 0).f0) x4_1).f2.f1, (rd_T89 ((rd_T34 l0 0).f0) x4_1).f2.f2] x6_2)), .int .i64 0, .int .i64 (wrap64 ((((rd_T34 l0 0).f0).length : Int) - 1))] rfl z2_5_ ?_; (with_reducible refine (spec_l00In.calls (wrap64 (rd [(rd_T89 ((rd_T34 l0 0).f0) x4_1).f2.f0, (rd_T89 ((rd_T34 l0 0).f0) x4_1).f2.f1, (rd_T89 ((rd_T34 l0 0).f0) x4_1).f2.f2] x6_2)) 0 (wrap64 ((((rd_T34 l0 0).f0).length : Int) - 1)) false _ A12.out).mono ?_); rintro e w' ⟨rfl, ⟨nd, rfl⟩⟩; refine ⟨_, rfl, ?_⟩))
               go_ret
               exact ⟨z2_1_, z2_3_⟩
             ·
              rw [if_neg c11] at H
              exact absurd H (by simp)
            ·
             rw [if_neg c10] at H
             exact absurd H (by simp)
           ·
            rw [if_neg c9] at H
            have c9b0 := decide_eq_false c9
            clear c9
            by_cases c14 : 0 < ([rd_T89 ((rd_T34 l0 0).f0) x4_1].length : Int)
            ·
             rw [if_pos c14] at H
             have c14b0 := decide_eq_true c14
             have c14b1 : decide (0 < [rd_T89 ((rd_T34 l0 0).f0) x4_1].length) = true := decide_eq_true (by omega)
             clear c14
             by_cases c15 : ((rd_T89 ((rd_T34 l0 0).f0) x4_1).f0) = 1
             ·
              rw [if_pos c15] at H
              have c15b0 := beq_iff_eq.mpr c15
              have c15b1 := bne_eq_false_iff_eq.mpr c15
              clear c15
              by_cases c16 : ((rd_T89 ((rd_T34 l0 0).f0) x4_1).f1) = 0
              ·
               rw [if_pos c16] at H
               have c16b0 := beq_iff_eq.mpr c16
               have c16b1 := bne_eq_false_iff_eq.mpr c16
               clear c16
               have H' := A_ H
               clear H
               have q164 : 0 < ([rd_T89 ((rd_T34 l0 0).f0) x4_1].length : Int) := of_decide_eq_true (by assumption)
               obtain ⟨ad164, e164, hx164_0, hx164_1, hx164_2, hx164_3, hx164_4⟩ := rp_T89 HR160.out q164
               (try simp only [rd1_T89] at hx164_0 hx164_1 hx164_2 hx164_3 hx164_4)
               obtain rfl : (Addr.add ad159 (x4_1.toNat * 5)) = ad164 := z2_13_
               go_wp2
               go_roundg k2
               case measure => have := HK1.out; have := HK2.out; omega
               case rel => exact ⟨(wrap64 (x4_1 + 1)), z2_1_, H', ⟨z2_8_⟩, z2_3_⟩
              ·
               rw [if_neg c16] at H
               have c16b0 : (((rd_T89 ((rd_T34 l0 0).f0) x4_1).f1) == 0) = false := beq_eq_false_iff_ne.mpr c16
               have c16b1 : (((rd_T89 ((rd_T34 l0 0).f0) x4_1).f1) != 0) = true := bne_iff_ne.mpr c16
               obtain rfl := Option.some.inj H
               have q164 : 0 < ([rd_T89 ((rd_T34 l0 0).f0) x4_1].length : Int) := of_decide_eq_true (by assumption)
               obtain ⟨ad164, e164, hx164_0, hx164_1, hx164_2, hx164_3, hx164_4⟩ := rp_T89 HR160.out q164
               (try simp only [rd1_T89] at hx164_0 hx164_1 hx164_2 hx164_3 hx164_4)
               obtain rfl : (Addr.add ad159 (x4_1.toNat * 5)) = ad164 := z2_13_
               go_wp2
               go_ret
               exact ⟨z2_1_, z2_3_⟩
             ·
              rw [if_neg c15] at H
              have c15b0 : (((rd_T89 ((rd_T34 l0 0).f0) x4_1).f0) == 1) = false := beq_eq_false_iff_ne.mpr c15
              have c15b1 : (((rd_T89 ((rd_T34 l0 0).f0) x4_1).f0) != 1) = true := bne_iff_ne.mpr c15
              by_cases c17 : ((rd_T89 ((rd_T34 l0 0).f0) x4_1).f0) = 2
              ·
               rw [if_pos c17] at H
               have c17b0 := beq_iff_eq.mpr c17
               have c17b1 := bne_eq_false_iff_eq.mpr c17
               clear c17
               by_cases c18 : ((rd_T89 ((rd_T34 l0 0).f0) x4_1).f1) < (-1)
               ·
                rw [if_pos c18] at H
                have c18b0 := decide_eq_true c18
                clear c18
                obtain rfl := Option.some.inj H
                have q164 : 0 < ([rd_T89 ((rd_T34 l0 0).f0) x4_1].length : Int) := of_decide_eq_true (by assumption)
                obtain ⟨ad164, e164, hx164_0, hx164_1, hx164_2, hx164_3, hx164_4⟩ := rp_T89 HR160.out q164
                (try simp only [rd1_T89] at hx164_0 hx164_1 hx164_2 hx164_3 hx164_4)
                obtain rfl : (Addr.add ad159 (x4_1.toNat * 5)) = ad164 := z2_13_
                go_wp2
                go_ret
                exact ⟨z2_1_, z2_3_⟩
               ·
                rw [if_neg c18] at H
                have c18b0 := decide_eq_false c18
                clear c18
                by_cases c19 : ((rd_T89 ((rd_T34 l0 0).f0) x4_1).f1) > 1
                ·
                 rw [if_pos c19] at H
                 have c19b0 := decide_eq_true c19
                 clear c19
                 obtain rfl := Option.some.inj H
                 have q164 : 0 < ([rd_T89 ((rd_T34 l0 0).f0) x4_1].length : Int) := of_decide_eq_true (by assumption)
                 obtain ⟨ad164, e164, hx164_0, hx164_1, hx164_2, hx164_3, hx164_4⟩ := rp_T89 HR160.out q164
                 (try simp only [rd1_T89] at hx164_0 hx164_1 hx164_2 hx164_3 hx164_4)
                 obtain rfl : (Addr.add ad159 (x4_1.toNat * 5)) = ad164 := z2_13_
                 go_wp2
                 go_ret
                 exact ⟨z2_1_, z2_3_⟩
                ·
                 rw [if_neg c19] at H
                 have c19b0 := decide_eq_false c19
                 clear c19
                 by_cases c20 : ((rd_T89 ((rd_T34 l0 0).f0) x4_1).f2.f1) = 0
                 ·
                  rw [if_pos c20] at H
                  have c20b0 := beq_iff_eq.mpr c20
                  have c20b1 := bne_eq_false_iff_eq.mpr c20
                  clear c20
                  by_cases c21 : ((rd_T89 ((rd_T34 l0 0).f0) x4_1).f2.f2) = 0
                  ·
                   rw [if_pos c21] at H
                   have c21b0 := beq_iff_eq.mpr c21
                   have c21b1 := bne_eq_false_iff_eq.mpr c21
                   clear c21
                   have H' := A_ H
                   clear H
                   have q164 : 0 < ([rd_T89 ((rd_T34 l0 0).f0) x4_1].length : Int) := of_decide_eq_true (by assumption)
                   obtain ⟨ad164, e164, hx164_0, hx164_1, hx164_2, hx164_3, hx164_4⟩ := rp_T89 HR160.out q164
                   (try simp only [rd1_T89] at hx164_0 hx164_1 hx164_2 hx164_3 hx164_4)
                   obtain rfl : (Addr.add ad159 (x4_1.toNat * 5)) = ad164 := z2_13_
                   go_wp2
                   go_roundg k2
                   case measure => have := HK1.out; have := HK2.out; omega
                   case rel => exact ⟨(wrap64 (x4_1 + 1)), z2_1_, H', ⟨z2_8_⟩, z2_3_⟩
                  ·
                   rw [if_neg c21] at H
                   have c21b0 : (((rd_T89 ((rd_T34 l0 0).f0) x4_1).f2.f2) == 0) = false := beq_eq_false_iff_ne.mpr c21
                   have c21b1 : (((rd_T89 ((rd_T34 l0 0).f0) x4_1).f2.f2) != 0) = true := bne_iff_ne.mpr c21
                   obtain rfl := Option.some.inj H
                   have q164 : 0 < ([rd_T89 ((rd_T34 l0 0).f0) x4_1].length : Int) := of_decide_eq_true (by assumption)
                   obtain ⟨ad164, e164, hx164_0, hx164_1, hx164_2, hx164_3, hx164_4⟩ := rp_T89 HR160.out q164
                   (try simp only [rd1_T89] at hx164_0 hx164_1 hx164_2 hx164_3 hx164_4)
                   obtain rfl : (Addr.add ad159 (x4_1.toNat * 5)) = ad164 := z2_13_
                   go_wp2
                   go_ret
                   exact ⟨z2_1_, z2_3_⟩
                 ·
                  rw [if_neg c20] at H
                  have c20b0 : (((rd_T89 ((rd_T34 l0 0).f0) x4_1).f2.f1) == 0) = false := beq_eq_false_iff_ne.mpr c20
                  have c20b1 : (((rd_T89 ((rd_T34 l0 0).f0) x4_1).f2.f1) != 0) = true := bne_iff_ne.mpr c20
                  obtain rfl := Option.some.inj H
                  have q164 : 0 < ([rd_T89 ((rd_T34 l0 0).f0) x4_1].length : Int) := of_decide_eq_true (by assumption)
                  obtain ⟨ad164, e164, hx164_0, hx164_1, hx164_2, hx164_3, hx164_4⟩ := rp_T89 HR160.out q164
                  (try simp only [rd1_T89] at hx164_0 hx164_1 hx164_2 hx164_3 hx164_4)
                  obtain rfl : (Addr.add ad159 (x4_1.toNat * 5)) = ad164 := z2_13_
                  go_wp2
                  go_ret
                  exact ⟨z2_1_, z2_3_⟩
              ·
               rw [if_neg c17] at H
               have c17b0 : (((rd_T89 ((rd_T34 l0 0).f0) x4_1).f0) == 2) = false := beq_eq_false_iff_ne.mpr c17
               have c17b1 : (((rd_T89 ((rd_T34 l0 0).f0) x4_1).f0) != 2) = true := bne_iff_ne.mpr c17
               obtain rfl := Option.some.inj H
               have q164 : 0 < ([rd_T89 ((rd_T34 l0 0).f0) x4_1].length : Int) := of_decide_eq_true (by assumption)
               obtain ⟨ad164, e164, hx164_0, hx164_1, hx164_2, hx164_3, hx164_4⟩ := rp_T89 HR160.out q164
               (try simp only [rd1_T89] at hx164_0 hx164_1 hx164_2 hx164_3 hx164_4)
               obtain rfl : (Addr.add ad159 (x4_1.toNat * 5)) = ad164 := z2_13_
               go_wp2
               go_ret
               exact ⟨z2_1_, z2_3_⟩
            ·
             rw [if_neg c14] at H
             exact absurd H (by simp)
        ·
         rw [if_neg c8] at H
         exact absurd H (by simp)
       ·
        rw [if_neg c7] at H
        exact absurd H (by simp)
      ·
       rw [if_neg c6] at H
       exact absurd H (by simp)
     ·
      rw [if_neg c5] at H
      have c5b0 := decide_eq_false c5
      clear c5
      obtain rfl := Option.some.inj H
      go_wp2
      go_ret
      exact ⟨z2_1_, z2_3_⟩
  ·
   replace c4 := Bool.eq_false_iff.mpr c4
   subst c4
   have H1 := H; rw [if_neg (show ¬ (false = true) by decide)] at H1
   clear H
   have H := H1
   clear H1
   obtain rfl := Option.some.inj H
   have q156 : 0 < (l0.length : Int) := of_decide_eq_true (by assumption)
   obtain ⟨ad156, A156_0, c156_0, e156, hx156_0, hl156_0, hi156_0⟩ := rp_T34 HR0.out q156
   cases e156
   have HR156_0 := A_ hi156_0
   have HC156_0 := A_ hl156_0
   clear hi156_0 hl156_0
   go_enter Try.func66, Try.ntmps66
   go_wp2_with (first | ((with_reducible refine gate_callee (f := 109) rfl ?_); refine goesL_ (some 13) rfl rfl Try.func109 (by kernel_rfl) rfl #[.int .i64 (((rd_T34 l0 0).f0).length : Int), .int .i64 1, .int .i64 60] rfl z2_5_ ?_; (with_reducible refine (spec_l00In.calls (((rd_T34 l0 0).f0).length : Int) 1 60 false _ A3.out).mono ?_); rintro e w' ⟨rfl, ⟨nd, rfl⟩⟩; refine ⟨_, rfl, ?_⟩))
   go_ret
   exact ⟨z2_1_, z2_3_⟩
 ·
  rw [if_neg c2] at H
  exact absurd H (by simp)
/-! ### spec_l06Ways: function 68 -/
def spec_l06Ways.f (l0 : List (S89)) : Option (Int) := if 0 < (l0.length : Int) then (if ((rd_T89 l0 0).f0) = 1 then (some 3) else (some 1)) else (none)
set_option maxHeartbeats 8000000 in
set_option maxRecDepth 100000 in
theorem spec_l06Ways.calls (A0 : Option Addr) (c0 : Nat) (l0 : List (S89)) (r : Int) (w : World) (hr0 : Kd.C k89 w A0 l0.length l0) (hc0 : l0.length ≤ c0) (h : spec_l06Ways.f l0 = some r) :
  Calls Try.prog 68 #[.pointer A0] w fun e w' => e = .returned (.int .i64 r) ∧ Drawn0 w w' := by
 have HR0 := A_ hr0
 have HC0 := A_ hc0
 clear hr0 hc0
 have H : (if 0 < (l0.length : Int) then (if ((rd_T89 l0 0).f0) = 1 then (some 3) else (some 1)) else (none)) = some r := h
 clear h
 by_cases c2 : 0 < (l0.length : Int)
 ·
  rw [if_pos c2] at H
  have c2b0 := decide_eq_true c2
  have c2b1 : decide (0 < l0.length) = true := decide_eq_true (by omega)
  clear c2
  by_cases c3 : ((rd_T89 l0 0).f0) = 1
  ·
   rw [if_pos c3] at H
   have c3b0 := beq_iff_eq.mpr c3
   have c3b1 := bne_eq_false_iff_eq.mpr c3
   clear c3
   obtain rfl := Option.some.inj H
   have q165 : 0 < (l0.length : Int) := of_decide_eq_true (by assumption)
   obtain ⟨ad165, e165, hx165_0, hx165_1, hx165_2, hx165_3, hx165_4⟩ := rp_T89 HR0.out q165
   cases e165
   go_enter Try.func68, Try.ntmps68
   go_wp2
   go_ret
   exact ⟨z2_1_, z2_3_⟩
  ·
   rw [if_neg c3] at H
   have c3b0 : (((rd_T89 l0 0).f0) == 1) = false := beq_eq_false_iff_ne.mpr c3
   have c3b1 : (((rd_T89 l0 0).f0) != 1) = true := bne_iff_ne.mpr c3
   obtain rfl := Option.some.inj H
   have q165 : 0 < (l0.length : Int) := of_decide_eq_true (by assumption)
   obtain ⟨ad165, e165, hx165_0, hx165_1, hx165_2, hx165_3, hx165_4⟩ := rp_T89 HR0.out q165
   cases e165
   go_enter Try.func68, Try.ntmps68
   go_wp2
   go_ret
   exact ⟨z2_1_, z2_3_⟩
 ·
  rw [if_neg c2] at H
  exact absurd H (by simp)
end Go.Proofs.Ytpfnohdnaocpdaa.PT

-- Written by a program (xprint.py) out of the translation's own print; Lean checks it.
import Derived.Test.YtpfnohdnaocpdaaPTx0
namespace Go.Proofs.Ytpfnohdnaocpdaa.PT
open Go.RowKit Go.Proofs.YtpfnohdnaocpdaaW.PrintWords Go.Proofs.YtpfnohdnaocpdaaW.PrintLast Go.Proofs.YtpfnohdnaocpdaaW.PrintMore Go.Proofs.YtpfnohdnaocpdaaRP
attribute [local go_sem] Go.Proofs.YtpfnohdnaocpdaaRP.tmod_len   -- for this text's walks alone
set_option linter.unusedVariables false
set_option linter.unusedSimpArgs false
theorem z3_1_ {P : Prop} (h : P := by first | rfl | (simp; done) | (simp [*]; done) | (simp [isE_]; done)) : P := h
theorem z3_2_ {P : Prop} (h : P := by repeat (first | (with_reducible first | exact HK.out | apply Kept.alloc | apply Kept.drewN | apply Kept.drew) | exact HK.out)) : P := h
theorem z3_3_ {P : Prop} (h : P := by repeat (first | (with_reducible first | exact HB.out | apply below_alloc | apply pw_below_drewN | apply below_drew1) | exact HB.out)) : P := h
theorem z3_4_ {P : Prop} (h : P := by (try simp only [List.map_toArray, List.map_cons, List.map_nil]); first | done | rfl | (simp only [List.length_drop, List.length_take]; rfl)) : P := h
theorem z3_5_ {P : Prop} (h : P := by (with_reducible repeat (first | apply Kd.R_alloc | apply Kd.R_drewN | apply Kd.R_drew)); exact HO_0.out) : P := h
theorem z3_6_ {P : Prop} (h : P := by repeat (first | (with_reducible first | exact HK.out | apply Kept.alloc | apply Kept.drewN | apply Kept.drew | refine Kept.setCell ?_ (.inr GW157.out) _) | exact HK.out)) : P := h
/-! ### laws_markForkS: function 65 -/
mutual
def laws_markForkS.l0 : Nat → List (S89) → Int → Int → Option (Int × (List (S89)))
 | 0, _, _, _ => none
 | k + 1, x0, x1, x5 => if x5 < (x0.length : Int) then (if 0 ≤ x5 then ((some (x0.set (x5 : Int).toNat (⟨IntKind.i8.wrap (x1), (rd_T89 x0 x5).f1, (⟨(rd_T89 x0 x5).f2.f0, (rd_T89 x0 x5).f2.f1, (rd_T89 x0 x5).f2.f2⟩ : S87)⟩ : S89) : List (S89))).bind fun y149 => (laws_markForkS.l1 k (y149.set (x5 : Int).toNat (⟨(rd_T89 y149 x5).f0, IntKind.i8.wrap (wrap64 (x1 + 1)), (⟨(rd_T89 y149 x5).f2.f0, (rd_T89 y149 x5).f2.f1, (rd_T89 y149 x5).f2.f2⟩ : S87)⟩ : S89)) (wrap64 ((wrap64 (x1 + 1)) + 1)) x5 0)) else (none)) else (some (x1, x0))
def laws_markForkS.l1 : Nat → List (S89) → Int → Int → Int → Option (Int × (List (S89)))
 | 0, _, _, _, _ => none
 | k + 1, x0, x1, x5, x6 => if x6 < 3 then (if 0 ≤ x5 then (if x5 < (x0.length : Int) then (if 0 ≤ x6 then (laws_markForkS.l1 k (x0.set (x5 : Int).toNat (⟨(rd_T89 x0 x5).f0, (rd_T89 x0 x5).f1, (⟨(up 0 x6 (IntKind.i16.wrap (x1)) ((rd_T89 x0 x5).f2.f0)), (up 1 x6 (IntKind.i16.wrap (x1)) ((rd_T89 x0 x5).f2.f1)), (up 2 x6 (IntKind.i16.wrap (x1)) ((rd_T89 x0 x5).f2.f2))⟩ : S87)⟩ : S89)) (wrap64 (x1 + 1)) x5 (wrap64 (x6 + 1))) else (none)) else (none)) else (none)) else (laws_markForkS.l0 k x0 x1 (wrap64 (x5 + 1)))
end
def laws_markForkS.f (k : Nat) (l0 : List (S89)) (a1 : Int) : Option (Int × (List (S89))) := laws_markForkS.l0 k l0 a1 0
theorem laws_markForkS.mono_l : ∀ k, (∀ y0 y1 y2, LeO (laws_markForkS.l0 k y0 y1 y2) (laws_markForkS.l0 (k + 1) y0 y1 y2)) ∧ (∀ y0 y1 y2 y3, LeO (laws_markForkS.l1 k y0 y1 y2 y3) (laws_markForkS.l1 (k + 1) y0 y1 y2 y3))
 | 0 => ⟨fun _ _ _ r h => by simp [laws_markForkS.l0] at h, fun _ _ _ _ r h => by simp [laws_markForkS.l1] at h⟩
 | k + 1 => by
  obtain ⟨ih0, ih1⟩ := laws_markForkS.mono_l k
  refine ⟨?_, ?_⟩
  ·
   intro y0 y1 y2
   unfold laws_markForkS.l0
   repeat' first
   | (with_reducible exact ih0 _ _ _)
   | (with_reducible exact ih1 _ _ _ _)
   | (with_reducible exact LeO.refl _)
   | (with_reducible exact LeO.none _)
   | (with_reducible refine LeO.ite ?_ ?_)
   | (with_reducible refine LeO.bind ?_ (fun _ => ?_))
   | refine LeO.bind ?_ (fun _ => ?_)
  ·
   intro y0 y1 y2 y3
   unfold laws_markForkS.l1
   repeat' first
   | (with_reducible exact ih0 _ _ _)
   | (with_reducible exact ih1 _ _ _ _)
   | (with_reducible exact LeO.refl _)
   | (with_reducible exact LeO.none _)
   | (with_reducible refine LeO.ite ?_ ?_)
   | (with_reducible refine LeO.bind ?_ (fun _ => ?_))
   | refine LeO.bind ?_ (fun _ => ?_)
theorem laws_markForkS.mono : ∀ a0 a1 k, LeO (laws_markForkS.f k a0 a1) (laws_markForkS.f (k + 1) a0 a1) := by
 intro a0 a1 k
 obtain ⟨ih0, ih1⟩ := laws_markForkS.mono_l k
 unfold laws_markForkS.f
 repeat' first
   | (with_reducible exact ih0 _ _ _)
   | (with_reducible exact ih1 _ _ _ _)
   | (with_reducible exact LeO.refl _)
   | (with_reducible exact LeO.none _)
   | (with_reducible refine LeO.ite ?_ ?_)
   | (with_reducible refine LeO.bind ?_ (fun _ => ?_))
   | refine LeO.bind ?_ (fun _ => ?_)
set_option maxHeartbeats 8000000 in
set_option maxRecDepth 100000 in
theorem laws_markForkS.calls (k : Nat) (P0_ : Nat → Prop) (u9000_ : Value) (l0 : List (S89)) (a1 : Int) (r1 : Int) (r2 : List (S89)) (w0 w : World) (hB : Below w0.heap.size w0 w) (ho0 : Kd.R k89 89 w w0.heap.size P0_ u9000_ l0) (h : laws_markForkS.f k l0 a1 = some (r1, r2)) :
  Calls Try.prog 65 #[u9000_, .int .i64 a1] w fun e w' => e = .returned (.int .i64 r1) ∧ Kd.R k89 89 w' w0.heap.size (fun k_ => (P0_ k_ ∨ w.heap.size ≤ k_)) u9000_ r2 ∧ Below w0.heap.size w0 w' ∧ Kept w w' (fun k_ => P0_ k_) := by
 have HO0 := Aside0.mk (show Kd.R k89 89 w w0.heap.size (fun k_ => (P0_ k_ ∨ w.heap.size ≤ k_)) u9000_ l0 from Kd.R_mono ho0 (fun k_ hk => (.inl hk)))
 have HK := Aside0.mk (Kept.refl w (fun k_ => P0_ k_))
 have HW0 := Aside0.mk hB.size
 have HB := Aside0.mk hB
 clear hB
 have H : (laws_markForkS.l0 k l0 a1 0) = some (r1, r2) := h
 clear h
 have H' := Aside0.mk H
 clear H
 go_enter Try.func65, Try.ntmps65
 go_wp2
 go_loopg [1, 5] k (fun kq v1 v5 w' => ∃ (x0_1 : List (S89)) (x1_1 : Int) (x5_1 : Int), v1 = .int .i64 x1_1 ∧ v5 = .int .i64 x5_1 ∧ Aside0 (laws_markForkS.l0 kq x0_1 x1_1 x5_1 = some (r1, r2)) ∧ Aside0 (kq ≤ k) ∧ Aside0 (Kd.R k89 89 w' w0.heap.size (fun k_ => (P0_ k_ ∨ w.heap.size ≤ k_)) u9000_ x0_1) ∧ Aside0 (Kept w w' (fun k_ => P0_ k_)) ∧ Aside0 (Below w0.heap.size w0 w'))
 case atStart => exact ⟨(l0), (a1), (0), z3_1_, z3_1_, H', ⟨Nat.le_refl _⟩, ⟨by (with_reducible repeat (first | apply Kd.R_alloc | apply Kd.R_drewN | apply Kd.R_drew)); exact HO0.out⟩, ⟨by repeat (first | (with_reducible first | exact HK.out | apply Kept.alloc | apply Kept.drewN | apply Kept.drew) | exact HK.out)⟩, ⟨by repeat (first | (with_reducible first | exact HB.out | apply below_alloc | apply pw_below_drewN | apply below_drew1) | exact HB.out)⟩⟩
 case round =>
  clear H'
  try clear p2
  obtain ⟨x0_1, x1_1, x5_1, rfl, rfl, HA, HK1, HO_0, HK, HB⟩ := hrel
  cases gk with
  | zero => exact absurd HA.out (by simp [laws_markForkS.l0])
  | succ k1 =>
   have H := HA.out
   clear HA
   simp only [laws_markForkS.l0] at H
   by_cases c3 : x5_1 < (x0_1.length : Int)
   ·
    rw [if_pos c3] at H
    have c3b0 : decide (x5_1 < (x0_1.length : Int)) = true := decide_eq_true c3
    clear c3
    by_cases c4 : 0 ≤ x5_1
    ·
     rw [if_pos c4] at H
     have c4b0 : decide (0 ≤ x5_1) = true := decide_eq_true c4
     clear c4
     obtain ⟨y149, hy149⟩ : ∃ y_ : List (S89), y_ = (x0_1.set (x5_1 : Int).toNat (⟨IntKind.i8.wrap (x1_1), (rd_T89 x0_1 x5_1).f1, (⟨(rd_T89 x0_1 x5_1).f2.f0, (rd_T89 x0_1 x5_1).f2.f1, (rd_T89 x0_1 x5_1).f2.f2⟩ : S87)⟩ : S89)) := ⟨_, rfl⟩
     replace H : (laws_markForkS.l1 k1 (y149.set (x5_1 : Int).toNat (⟨(rd_T89 y149 x5_1).f0, IntKind.i8.wrap (wrap64 (x1_1 + 1)), (⟨(rd_T89 y149 x5_1).f2.f0, (rd_T89 y149 x5_1).f2.f1, (rd_T89 y149 x5_1).f2.f2⟩ : S87)⟩ : S89)) (wrap64 ((wrap64 (x1_1 + 1)) + 1)) x5_1 0) = some (r1, r2) := by first | (rw [hy149]; with_reducible exact H) | (have H2_ := (Option.bind_some _ _).symm.trans H; rw [hy149]; with_reducible exact H2_) | (have H2_ := (Option.bind_some _ _).symm.trans H; with_reducible exact H2_) | with_reducible exact H | (rw [hy149]; exact H) | exact H
     have Ny149 := Aside0.mk hy149
     clear hy149
     obtain ⟨y150, hy150⟩ : ∃ y_ : List (S89), y_ = (y149.set (x5_1 : Int).toNat (⟨(rd_T89 y149 x5_1).f0, IntKind.i8.wrap (wrap64 (x1_1 + 1)), (⟨(rd_T89 y149 x5_1).f2.f0, (rd_T89 y149 x5_1).f2.f1, (rd_T89 y149 x5_1).f2.f2⟩ : S87)⟩ : S89)) := ⟨_, rfl⟩
     replace H : (laws_markForkS.l1 k1 y150 (wrap64 ((wrap64 (x1_1 + 1)) + 1)) x5_1 0) = some (r1, r2) := by first | (rw [hy150]; with_reducible exact H) | (have H2_ := (Option.bind_some _ _).symm.trans H; rw [hy150]; with_reducible exact H2_) | (have H2_ := (Option.bind_some _ _).symm.trans H; with_reducible exact H2_) | with_reducible exact H | (rw [hy150]; exact H) | exact H
     have Ny150 := Aside0.mk hy150
     clear hy150
     have H' := Aside0.mk H
     clear H
     obtain ⟨Ao7, co7, eo7⟩ := Kd.R_slice HO_0.out
     subst eo7
     have p5 : 0 ≤ (x5_1 : Int) := of_decide_eq_true (by assumption)
     have q5 : (x5_1 : Int) < ((x0_1.length : Int) : Int) := of_decide_eq_true (by assumption)
     obtain ⟨go5, co5, eo5, gb5, gl5, cl5, HG5⟩ := Kd.R_form HO_0.out (by omega)
     (first | cases eo5 | (injection eo5 with ea_ en_ ec_; (first | subst ea_ | (injection ea_ with ea_; subst ea_)); subst ec_; clear en_))
     have GB5 := Aside0.mk gb5
     have GG5 := Aside0.mk HG5
     clear gb5 gl5 HG5
     have HMgo5 := Aside0.mk (show (P0_ go5 ∨ w.heap.size ≤ go5) from (HO_0.out.1 _ rfl))
     obtain ⟨ce5, hcl5, hM5, hcc5, hfr5⟩ := Kd.R_elem HO_0.out z89 (x5_1 : Int) p5 q5
     obtain rfl := k89_openM hM5
     have hx5_0 : wr.cell? ⟨go5, (x5_1 : Int).toNat * 5, none⟩ = some (.int .i8 ((rd_T89 x0_1 x5_1).f0)) := hcc5 0 _ rfl
     have hx5_1 : wr.cell? ⟨go5, (x5_1 : Int).toNat * 5 + 1, none⟩ = some (.int .i8 ((rd_T89 x0_1 x5_1).f1)) := hcc5 1 _ rfl
     have hx5_2 : wr.cell? ⟨go5, (x5_1 : Int).toNat * 5 + 2, none⟩ = some (.int .i16 ((rd_T89 x0_1 x5_1).f2.f0)) := hcc5 2 _ rfl
     have hx5_3 : wr.cell? ⟨go5, (x5_1 : Int).toNat * 5 + 3, none⟩ = some (.int .i16 ((rd_T89 x0_1 x5_1).f2.f1)) := hcc5 3 _ rfl
     have hx5_4 : wr.cell? ⟨go5, (x5_1 : Int).toNat * 5 + 4, none⟩ = some (.int .i16 ((rd_T89 x0_1 x5_1).f2.f2)) := hcc5 4 _ rfl
     have hf5_0 : wr.frozen? ⟨go5, (x5_1 : Int).toNat * 5, none⟩ = false := hfr5 0
     have hf5_1 : wr.frozen? ⟨go5, (x5_1 : Int).toNat * 5 + 1, none⟩ = false := hfr5 1
     have hf5_2 : wr.frozen? ⟨go5, (x5_1 : Int).toNat * 5 + 2, none⟩ = false := hfr5 2
     have hf5_3 : wr.frozen? ⟨go5, (x5_1 : Int).toNat * 5 + 3, none⟩ = false := hfr5 3
     have hf5_4 : wr.frozen? ⟨go5, (x5_1 : Int).toNat * 5 + 4, none⟩ = false := hfr5 4
     clear hcl5 hcc5 hfr5 hM5
     replace p5 := eq_true p5
     replace q5 := eq_true q5
     have HX8 := Aside0.mk (show Kd.R k89 89 wr w0.heap.size (fun k_ => (P0_ k_ ∨ w.heap.size ≤ k_)) (.slice (some ⟨go5, 0, none⟩) x0_1.length co7) x0_1 from z3_5_)
     obtain ⟨ce8, hcl8, hM8, hcc8, hfr8⟩ := Kd.R_elem HX8.out z89 (x5_1 : Int) (of_decide_eq_true (by assumption)) (by have h_ : (x5_1 : Int) < ((x0_1.length : Int) : Int) := of_decide_eq_true (by assumption); first | exact h_ | (have e_ := (Kd.R_reads' HO_0.out).1; omega) | simpa using h_)
     obtain rfl := k89_openM hM8
     have HP8 := Kd.R_seg HX8.out (x5_1 : Int) (of_decide_eq_true (by assumption)) (by have h_ : (x5_1 : Int) < ((x0_1.length : Int) : Int) := of_decide_eq_true (by assumption); first | exact h_ | (have e_ := (Kd.R_reads' HO_0.out).1; omega) | simpa using h_) (seg := [.int .i8 (IntKind.i8.wrap (x1_1))]) (j := 0) hcl8 hcc8 (show 1 ≤ 5 from by decide) (x' := (⟨IntKind.i8.wrap (x1_1), (rd_T89 x0_1 x5_1).f1, (⟨(rd_T89 x0_1 x5_1).f2.f0, (rd_T89 x0_1 x5_1).f2.f1, (rd_T89 x0_1 x5_1).f2.f2⟩ : S87)⟩ : S89)) (k89_mkM _ _ _ (⟨IntKind.i8.wrap (x1_1), (rd_T89 x0_1 x5_1).f1, (⟨(rd_T89 x0_1 x5_1).f2.f0, (rd_T89 x0_1 x5_1).f2.f1, (rd_T89 x0_1 x5_1).f2.f2⟩ : S87)⟩ : S89) ) (fun _ hk => hk)
     have hx8_0 := hcc8 0 _ rfl
     (try simp only [show (k89).sz = 5 from rfl, Nat.mul_one, Nat.add_zero] at hx8_0)
     have hf8_0 := hfr8 0
     (try simp only [show (k89).sz = 5 from rfl, Nat.mul_one, Nat.add_zero] at hf8_0)
     clear hcl8 hcc8 hfr8 hM8
     go_wp2_with (first | ((with_reducible refine gate_store (t := 86) (p := 18) rfl ?_); refine store_event (t := 86) (p := 18) (v := ?vo_w9) (w1 := (wr.setCell ⟨go5, (x5_1 : Int).toNat * 5, none⟩ (.int .i8 (IntKind.i8.wrap (x1_1))))) ?hg ?ho ?hn ?hr ?_; (case ho => rfl); (case hg => rfl); (case hn => rfl); (case hr => first | (go_simp; done) | (go_simp; rfl)); intro w9 hw; have hg : wr.grownBy w9 (some go5) := (by rw [hw]; exact HP8.2); have hp_ : Kd.R k89 89 w9 w0.heap.size (fun k_ => (P0_ k_ ∨ w.heap.size ≤ k_)) (.slice (some ⟨go5, 0, none⟩) x0_1.length co7) y149 := (by rw [hw, Ny149.out]; exact HP8.1); clear HP8; have n0_ := Aside0.mk (hp_); have n1_ := Aside0.mk ((by rw [hw]; exact below_set (HB.out) GB5.out : Below w0.heap.size w0 w9)); have n2_ := Aside0.mk (Kept.of_grown (S := (fun k_ => P0_ k_)) hg z3_2_ (fun k_ e_ => (HO_0.out.1 k_ e_))); clear HO_0; clear HB; clear HK; have HO_0 := n0_; have HB := n1_; have HK := n2_; clear n0_ n1_ n2_; clear hg hw hp_; have p6 : 0 ≤ (x5_1 : Int) := of_decide_eq_true (by assumption); have q6 : (x5_1 : Int) < ((x0_1.length : Int) : Int) := of_decide_eq_true (by assumption); obtain ⟨ce6, hcl6, hM6, hcc6, hfr6⟩ := Kd.R_elem HO_0.out z89 (x5_1 : Int) p6 q6; obtain rfl := k89_openM hM6; have hx6_0 : w9.cell? ⟨go5, (x5_1 : Int).toNat * 5, none⟩ = some (.int .i8 ((rd_T89 y149 x5_1).f0)) := hcc6 0 _ rfl; have hx6_1 : w9.cell? ⟨go5, (x5_1 : Int).toNat * 5 + 1, none⟩ = some (.int .i8 ((rd_T89 y149 x5_1).f1)) := hcc6 1 _ rfl; have hx6_2 : w9.cell? ⟨go5, (x5_1 : Int).toNat * 5 + 2, none⟩ = some (.int .i16 ((rd_T89 y149 x5_1).f2.f0)) := hcc6 2 _ rfl; have hx6_3 : w9.cell? ⟨go5, (x5_1 : Int).toNat * 5 + 3, none⟩ = some (.int .i16 ((rd_T89 y149 x5_1).f2.f1)) := hcc6 3 _ rfl; have hx6_4 : w9.cell? ⟨go5, (x5_1 : Int).toNat * 5 + 4, none⟩ = some (.int .i16 ((rd_T89 y149 x5_1).f2.f2)) := hcc6 4 _ rfl; have hf6_0 : w9.frozen? ⟨go5, (x5_1 : Int).toNat * 5, none⟩ = false := hfr6 0; have hf6_1 : w9.frozen? ⟨go5, (x5_1 : Int).toNat * 5 + 1, none⟩ = false := hfr6 1; have hf6_2 : w9.frozen? ⟨go5, (x5_1 : Int).toNat * 5 + 2, none⟩ = false := hfr6 2; have hf6_3 : w9.frozen? ⟨go5, (x5_1 : Int).toNat * 5 + 3, none⟩ = false := hfr6 3; have hf6_4 : w9.frozen? ⟨go5, (x5_1 : Int).toNat * 5 + 4, none⟩ = false := hfr6 4; clear hcl6 hcc6 hfr6 hM6; replace p6 := eq_true p6; replace q6 := eq_true q6; have HX10 := Aside0.mk (show Kd.R k89 89 w9 w0.heap.size (fun k_ => (P0_ k_ ∨ w.heap.size ≤ k_)) (.slice (some ⟨go5, 0, none⟩) x0_1.length co7) y149 from z3_5_); obtain ⟨ce10, hcl10, hM10, hcc10, hfr10⟩ := Kd.R_elem HX10.out z89 (x5_1 : Int) (of_decide_eq_true (by assumption)) (by have h_ : (x5_1 : Int) < ((x0_1.length : Int) : Int) := of_decide_eq_true (by assumption); first | exact h_ | (have e_ := (Kd.R_reads' HO_0.out).1; omega) | simpa using h_); obtain rfl := k89_openM hM10; have HP10 := Kd.R_seg HX10.out (x5_1 : Int) (of_decide_eq_true (by assumption)) (by have h_ : (x5_1 : Int) < ((x0_1.length : Int) : Int) := of_decide_eq_true (by assumption); first | exact h_ | (have e_ := (Kd.R_reads' HO_0.out).1; omega) | simpa using h_) (seg := [.int .i8 (IntKind.i8.wrap (wrap64 (x1_1 + 1)))]) (j := 1) hcl10 hcc10 (show 2 ≤ 5 from by decide) (x' := (⟨(rd_T89 y149 x5_1).f0, IntKind.i8.wrap (wrap64 (x1_1 + 1)), (⟨(rd_T89 y149 x5_1).f2.f0, (rd_T89 y149 x5_1).f2.f1, (rd_T89 y149 x5_1).f2.f2⟩ : S87)⟩ : S89)) (k89_mkM _ _ _ (⟨(rd_T89 y149 x5_1).f0, IntKind.i8.wrap (wrap64 (x1_1 + 1)), (⟨(rd_T89 y149 x5_1).f2.f0, (rd_T89 y149 x5_1).f2.f1, (rd_T89 y149 x5_1).f2.f2⟩ : S87)⟩ : S89) ) (fun _ hk => hk); have hx10_1 := hcc10 1 _ rfl; (try simp only [show (k89).sz = 5 from rfl, Nat.mul_one, Nat.add_zero] at hx10_1); have hf10_1 := hfr10 1; (try simp only [show (k89).sz = 5 from rfl, Nat.mul_one, Nat.add_zero] at hf10_1); clear hcl10 hcc10 hfr10 hM10) | ((with_reducible refine gate_store (t := 86) (p := 26) rfl ?_); refine store_event (t := 86) (p := 26) (v := ?vo_w11) (w1 := (w9.setCell ⟨go5, (x5_1 : Int).toNat * 5 + 1, none⟩ (.int .i8 (IntKind.i8.wrap (wrap64 (x1_1 + 1)))))) ?hg ?ho ?hn ?hr ?_; (case ho => rfl); (case hg => rfl); (case hn => rfl); (case hr => first | (go_simp; done) | (go_simp; rfl)); intro w11 hw; have hg : w9.grownBy w11 (some go5) := (by rw [hw]; exact HP10.2); have hp_ : Kd.R k89 89 w11 w0.heap.size (fun k_ => (P0_ k_ ∨ w.heap.size ≤ k_)) (.slice (some ⟨go5, 0, none⟩) x0_1.length co7) y150 := (by rw [hw, Ny150.out]; exact HP10.1); clear HP10; have n0_ := Aside0.mk (hp_); have n1_ := Aside0.mk ((by rw [hw]; exact below_set (HB.out) GB5.out : Below w0.heap.size w0 w11)); have n2_ := Aside0.mk (Kept.of_grown (S := (fun k_ => P0_ k_)) hg z3_2_ (fun k_ e_ => (HO_0.out.1 k_ e_))); clear HO_0; clear HB; clear HK; have HO_0 := n0_; have HB := n1_; have HK := n2_; clear n0_ n1_ n2_; clear hg hw hp_))
     go_loopg [1, 6] k1 (fun kq v1 v6 w' => ∃ (x0_2 : List (S89)) (x1_2 : Int) (x6_2 : Int), v1 = .int .i64 x1_2 ∧ v6 = .int .i64 x6_2 ∧ Aside0 (laws_markForkS.l1 kq x0_2 x1_2 x5_1 x6_2 = some (r1, r2)) ∧ Aside0 (kq ≤ k1) ∧ Aside0 (Kd.R k89 89 w' w0.heap.size (fun k_ => (P0_ k_ ∨ w.heap.size ≤ k_)) (.slice (some ⟨go5, 0, none⟩) x0_1.length co7) x0_2) ∧ Aside0 (Kept w w' (fun k_ => P0_ k_)) ∧ Aside0 (Below w0.heap.size w0 w'))
     case atStart => exact ⟨(y150), (wrap64 ((wrap64 (x1_1 + 1)) + 1)), (0), z3_1_, z3_1_, H', ⟨Nat.le_refl _⟩, ⟨by (with_reducible repeat (first | apply Kd.R_alloc | apply Kd.R_drewN | apply Kd.R_drew)); exact HO_0.out⟩, ⟨by repeat (first | (with_reducible first | exact HK.out | apply Kept.alloc | apply Kept.drewN | apply Kept.drew) | exact HK.out)⟩, ⟨by repeat (first | (with_reducible first | exact HB.out | apply below_alloc | apply pw_below_drewN | apply below_drew1) | exact HB.out)⟩⟩
     case round =>
      clear H'
      try clear c1
      try clear hx1
      try clear p2
      try clear c3
      try clear c3b0
      try clear c4
      try clear c4b0
      try clear c5
      try clear p5
      try clear q5
      try clear hx5
      try clear hf5
      try clear c6
      try clear p6
      try clear q6
      try clear hx6
      try clear hf6
      try clear c8
      try clear hx8
      try clear hf8
      try clear c10
      try clear hx10
      try clear hf10
      try clear hx10_1
      try clear hx5_0
      try clear hx5_1
      try clear hx5_2
      try clear hx5_3
      try clear hx5_4
      try clear hx6_0
      try clear hx6_1
      try clear hx6_2
      try clear hx6_3
      try clear hx6_4
      try clear hx8_0
      try clear p2
      try clear p5
      try clear p6
      try clear q5
      try clear q6
      obtain ⟨x0_2, x1_2, x6_2, rfl, rfl, HA, HK2, HO_0, HK, HB⟩ := hrel
      have hl0_2 := (Kd.R_reads' HO_0.out).1
      rw [hl0_2] at HO_0
      (try simp only [hl0_2])
      cases gk with
      | zero => exact absurd HA.out (by simp [laws_markForkS.l1])
      | succ k2 =>
       have H := HA.out
       clear HA
       simp only [laws_markForkS.l1] at H
       by_cases c12 : x6_2 < 3
       ·
        rw [if_pos c12] at H
        have c12b0 : decide (x6_2 < 3) = true := decide_eq_true c12
        clear c12
        by_cases c13 : 0 ≤ x5_1
        ·
         rw [if_pos c13] at H
         have c13b0 : decide (0 ≤ x5_1) = true := decide_eq_true c13
         clear c13
         by_cases c14 : x5_1 < (x0_2.length : Int)
         ·
          rw [if_pos c14] at H
          have c14b0 : decide (x5_1 < (x0_2.length : Int)) = true := decide_eq_true c14
          clear c14
          by_cases c16 : 0 ≤ x6_2
          ·
           rw [if_pos c16] at H
           have c16b0 : decide (0 ≤ x6_2) = true := decide_eq_true c16
           clear c16
           obtain ⟨y152, hy152⟩ : ∃ y_ : List (S89), y_ = (x0_2.set (x5_1 : Int).toNat (⟨(rd_T89 x0_2 x5_1).f0, (rd_T89 x0_2 x5_1).f1, (⟨(up 0 x6_2 (IntKind.i16.wrap (x1_2)) ((rd_T89 x0_2 x5_1).f2.f0)), (up 1 x6_2 (IntKind.i16.wrap (x1_2)) ((rd_T89 x0_2 x5_1).f2.f1)), (up 2 x6_2 (IntKind.i16.wrap (x1_2)) ((rd_T89 x0_2 x5_1).f2.f2))⟩ : S87)⟩ : S89)) := ⟨_, rfl⟩
           replace H : (laws_markForkS.l1 k2 y152 (wrap64 (x1_2 + 1)) x5_1 (wrap64 (x6_2 + 1))) = some (r1, r2) := by first | (rw [hy152]; with_reducible exact H) | (have H2_ := (Option.bind_some _ _).symm.trans H; rw [hy152]; with_reducible exact H2_) | (have H2_ := (Option.bind_some _ _).symm.trans H; with_reducible exact H2_) | with_reducible exact H | (rw [hy152]; exact H) | exact H
           have Ny152 := Aside0.mk hy152
           clear hy152
           have H' := Aside0.mk H
           clear H
           have p15 : 0 ≤ (x5_1 : Int) := of_decide_eq_true (by assumption)
           have q15 : (x5_1 : Int) < ((x0_2.length : Int) : Int) := of_decide_eq_true (by assumption)
           obtain ⟨ce15, hcl15, hM15, hcc15, hfr15⟩ := Kd.R_elem HO_0.out z89 (x5_1 : Int) p15 q15
           obtain rfl := k89_openM hM15
           have hx15_0 : wr.cell? ⟨go5, (x5_1 : Int).toNat * 5, none⟩ = some (.int .i8 ((rd_T89 x0_2 x5_1).f0)) := hcc15 0 _ rfl
           have hx15_1 : wr.cell? ⟨go5, (x5_1 : Int).toNat * 5 + 1, none⟩ = some (.int .i8 ((rd_T89 x0_2 x5_1).f1)) := hcc15 1 _ rfl
           have hx15_2 : wr.cell? ⟨go5, (x5_1 : Int).toNat * 5 + 2, none⟩ = some (.int .i16 ((rd_T89 x0_2 x5_1).f2.f0)) := hcc15 2 _ rfl
           have hx15_3 : wr.cell? ⟨go5, (x5_1 : Int).toNat * 5 + 3, none⟩ = some (.int .i16 ((rd_T89 x0_2 x5_1).f2.f1)) := hcc15 3 _ rfl
           have hx15_4 : wr.cell? ⟨go5, (x5_1 : Int).toNat * 5 + 4, none⟩ = some (.int .i16 ((rd_T89 x0_2 x5_1).f2.f2)) := hcc15 4 _ rfl
           have hf15_0 : wr.frozen? ⟨go5, (x5_1 : Int).toNat * 5, none⟩ = false := hfr15 0
           have hf15_1 : wr.frozen? ⟨go5, (x5_1 : Int).toNat * 5 + 1, none⟩ = false := hfr15 1
           have hf15_2 : wr.frozen? ⟨go5, (x5_1 : Int).toNat * 5 + 2, none⟩ = false := hfr15 2
           have hf15_3 : wr.frozen? ⟨go5, (x5_1 : Int).toNat * 5 + 3, none⟩ = false := hfr15 3
           have hf15_4 : wr.frozen? ⟨go5, (x5_1 : Int).toNat * 5 + 4, none⟩ = false := hfr15 4
           clear hcl15 hcc15 hfr15 hM15
           replace p15 := eq_true p15
           replace q15 := eq_true q15
           have p151 : 0 ≤ (x6_2 : Int) := of_decide_eq_true (by assumption)
           have q151 : (x6_2 : Int) < 3 := of_decide_eq_true (by assumption)
           have hcs151 := Aside0.mk (show (x6_2 : Int) = 0 ∨ (x6_2 : Int) = 1 ∨ (x6_2 : Int) = 2 by omega)
           replace p151 := eq_true p151
           replace q151 := eq_true q151
           have HX17 := Aside0.mk (show Kd.R k89 89 wr w0.heap.size (fun k_ => (P0_ k_ ∨ w.heap.size ≤ k_)) (.slice (some ⟨go5, 0, none⟩) x0_2.length co7) x0_2 from z3_5_)
           obtain ⟨ce17, hcl17, hM17, hcc17, hfr17⟩ := Kd.R_elem HX17.out z89 (x5_1 : Int) (of_decide_eq_true (by assumption)) (by have h_ : (x5_1 : Int) < ((x0_2.length : Int) : Int) := of_decide_eq_true (by assumption); first | exact h_ | (have e_ := (Kd.R_reads' HO_0.out).1; omega) | simpa using h_)
           obtain rfl := k89_openM hM17
           have HP17 := Kd.R_seg HX17.out (x5_1 : Int) (of_decide_eq_true (by assumption)) (by have h_ : (x5_1 : Int) < ((x0_2.length : Int) : Int) := of_decide_eq_true (by assumption); first | exact h_ | (have e_ := (Kd.R_reads' HO_0.out).1; omega) | simpa using h_) (seg := [.int .i16 (IntKind.i16.wrap (x1_2))]) (j := 2 + (x6_2 : Int).toNat) hcl17 hcc17 (show 2 + (x6_2 : Int).toNat + 1 ≤ 5 from by have h_ := of_eq_true q151; omega) (x' := (⟨(rd_T89 x0_2 x5_1).f0, (rd_T89 x0_2 x5_1).f1, (⟨(up 0 x6_2 (IntKind.i16.wrap (x1_2)) ((rd_T89 x0_2 x5_1).f2.f0)), (up 1 x6_2 (IntKind.i16.wrap (x1_2)) ((rd_T89 x0_2 x5_1).f2.f1)), (up 2 x6_2 (IntKind.i16.wrap (x1_2)) ((rd_T89 x0_2 x5_1).f2.f2))⟩ : S87)⟩ : S89)) (by rcases hcs151.out with h_ | h_ | h_ <;> rw [h_] <;> exact (k89_mkM _ _ _ _ )) (fun _ hk => hk)
           have hx17_0 : wr.cell? ⟨go5, (x5_1 : Int).toNat * 5 + 2 + (x6_2 : Int).toNat, none⟩ = some (.int .i16 (rd [(rd_T89 x0_2 x5_1).f2.f0, (rd_T89 x0_2 x5_1).f2.f1, (rd_T89 x0_2 x5_1).f2.f2] x6_2)) := cell_arr3 (hcc17 2 _ rfl) (hcc17 3 _ rfl) (hcc17 4 _ rfl) x6_2 (of_eq_true p151) (of_eq_true q151)
           have hf17_0 : wr.frozen? ⟨go5, (x5_1 : Int).toNat * 5 + 2 + (x6_2 : Int).toNat, none⟩ = false := (by have h_ := hfr17 (2 + (x6_2 : Int).toNat); rw [← Nat.add_assoc] at h_; exact h_)
           (try rw [← Nat.add_assoc] at HP17)
           clear hcl17 hcc17 hfr17 hM17
           go_wp2_with (first | ((with_reducible refine gate_store (t := 85) (p := 40) rfl ?_); refine store_event (t := 85) (p := 40) (v := ?vo_w18) (w1 := (wr.setCell ⟨go5, (x5_1 : Int).toNat * 5 + 2 + (x6_2 : Int).toNat, none⟩ (.int .i16 (IntKind.i16.wrap (x1_2))))) ?hg ?ho ?hn ?hr ?_; (case ho => rfl); (case hg => rfl); (case hn => rfl); (case hr => first | (go_simp; done) | (go_simp; rfl)); intro w18 hw; have hg : wr.grownBy w18 (some go5) := (by rw [hw]; exact HP17.2); have hp_ : Kd.R k89 89 w18 w0.heap.size (fun k_ => (P0_ k_ ∨ w.heap.size ≤ k_)) (.slice (some ⟨go5, 0, none⟩) x0_2.length co7) y152 := (by rw [hw, Ny152.out]; exact HP17.1); clear HP17; have n0_ := Aside0.mk (hp_); have n1_ := Aside0.mk ((by rw [hw]; exact below_set (HB.out) GB5.out : Below w0.heap.size w0 w18)); have n2_ := Aside0.mk (Kept.of_grown (S := (fun k_ => P0_ k_)) hg z3_2_ (fun k_ e_ => (HO_0.out.1 k_ e_))); clear HO_0; clear HB; clear HK; have HO_0 := n0_; have HB := n1_; have HK := n2_; clear n0_ n1_ n2_; clear hg hw hp_))
           (try simp only [← hl0_2])
           go_roundg k2
           case measure => have := HK1.out; have := HK2.out; omega
           case rel => exact ⟨(y152), (wrap64 (x1_2 + 1)), (wrap64 (x6_2 + 1)), z3_1_, z3_1_, H', ⟨by have := HK1.out; have := HK2.out; omega⟩, ⟨by (try simp only [hl0_2]); (with_reducible repeat (first | apply Kd.R_alloc | apply Kd.R_drewN | apply Kd.R_drew)); exact HO_0.out⟩, ⟨by repeat (first | (with_reducible first | exact HK.out | apply Kept.alloc | apply Kept.drewN | apply Kept.drew) | exact HK.out)⟩, ⟨by repeat (first | (with_reducible first | exact HB.out | apply below_alloc | apply pw_below_drewN | apply below_drew1) | exact HB.out)⟩⟩
          ·
           rw [if_neg c16] at H
           exact absurd H (by simp)
         ·
          rw [if_neg c14] at H
          exact absurd H (by simp)
        ·
         rw [if_neg c13] at H
         exact absurd H (by simp)
       ·
        rw [if_neg c12] at H
        have c12b0 : decide (x6_2 < 3) = false := decide_eq_false c12
        clear c12
        have H' := Aside0.mk H
        clear H
        go_wp2
        (try simp only [← hl0_2])
        go_roundg k2
        case measure => have := HK1.out; have := HK2.out; omega
        case rel => exact ⟨(x0_2), (x1_2), (wrap64 (x5_1 + 1)), z3_1_, z3_1_, H', ⟨by have := HK1.out; have := HK2.out; omega⟩, ⟨by (try simp only [hl0_2]); (with_reducible repeat (first | apply Kd.R_alloc | apply Kd.R_drewN | apply Kd.R_drew)); exact HO_0.out⟩, ⟨by repeat (first | (with_reducible first | exact HK.out | apply Kept.alloc | apply Kept.drewN | apply Kept.drew) | exact HK.out)⟩, ⟨by repeat (first | (with_reducible first | exact HB.out | apply below_alloc | apply pw_below_drewN | apply below_drew1) | exact HB.out)⟩⟩
    ·
     rw [if_neg c4] at H
     exact absurd H (by simp)
   ·
    rw [if_neg c3] at H
    have c3b0 : decide (x5_1 < (x0_1.length : Int)) = false := decide_eq_false c3
    clear c3
    simp only [Option.some.injEq, Prod.mk.injEq] at H
    obtain ⟨rfl, rfl⟩ := H
    obtain ⟨Ao19, co19, eo19⟩ := Kd.R_slice HO_0.out
    subst eo19
    go_wp2
    go_ret
    exact ⟨by first | rfl | (simp [errW_none, errW_some] <;> rfl) | (simp [*, errW_none, errW_some] <;> rfl), by (with_reducible repeat (first | apply Kd.R_alloc | apply Kd.R_drewN | apply Kd.R_drew)); exact HO_0.out, by repeat (first | (with_reducible first | exact HB.out | apply below_alloc | apply pw_below_drewN | apply below_drew1) | exact HB.out), by repeat (first | (with_reducible first | exact HK.out | apply Kept.alloc | apply Kept.drewN | apply Kept.drew) | exact HK.out)⟩
/-! ### laws_markTree: function 23 -/
def laws_markTree.f (k : Nat) (l0_0 : List (S89)) (a1 : Int) : Option (Int × (List (S89))) := (laws_markForkS.f k l0_0 a1).bind fun bt154 => (some (bt154.1, bt154.2))
theorem laws_markTree.mono : ∀ a0 a1 k, LeO (laws_markTree.f k a0 a1) (laws_markTree.f (k + 1) a0 a1) := by
 intro a0 a1 k
 unfold laws_markTree.f
 repeat' first
   | (with_reducible exact laws_markForkS.mono _ _ _)
   | (with_reducible exact LeO.refl _)
   | (with_reducible exact LeO.none _)
   | (with_reducible refine LeO.ite ?_ ?_)
   | (with_reducible refine LeO.bind ?_ (fun _ => ?_))
   | refine LeO.bind ?_ (fun _ => ?_)
set_option maxHeartbeats 8000000 in
set_option maxRecDepth 100000 in
theorem laws_markTree.calls (k : Nat) (P0_0_ : Nat → Prop) (u9000_ : Value) (l0_0 : List (S89)) (a1 : Int) (r1 : Int) (r2 : List (S89)) (w0 w : World) (hB : Below w0.heap.size w0 w) (ho0_0 : Kd.R k89 89 w w0.heap.size P0_0_ u9000_ l0_0) (h : laws_markTree.f k l0_0 a1 = some (r1, r2)) :
  Calls Try.prog 23 #[.agg #[u9000_], .int .i64 a1] w fun e w' => e = .returned (.int .i64 r1) ∧ Kd.R k89 89 w' w0.heap.size (fun k_ => (P0_0_ k_ ∨ w.heap.size ≤ k_)) u9000_ r2 ∧ Below w0.heap.size w0 w' ∧ Kept w w' (fun k_ => P0_0_ k_) := by
 have hu34 := Try.underlying34
 have HO0_0 := Aside0.mk (show Kd.R k89 89 w w0.heap.size (fun k_ => (P0_0_ k_ ∨ w.heap.size ≤ k_)) u9000_ l0_0 from Kd.R_mono ho0_0 (fun k_ hk => (.inl hk)))
 have HK := Aside0.mk (Kept.refl w (fun k_ => P0_0_ k_))
 have HW0 := Aside0.mk hB.size
 have HB := Aside0.mk hB
 clear hB
 have H : ((laws_markForkS.f k l0_0 a1).bind fun bt154 => (some (bt154.1, bt154.2))) = some (r1, r2) := h
 clear h
 replace H := Option.bind_eq_some_iff.mp H
 obtain ⟨⟨t154, t155⟩, A30, H⟩ := H
 replace H : (some (t154, t155)) = some (r1, r2) := H
 have A3 := Aside0.mk A30
 clear A30
 simp only [Option.some.injEq, Prod.mk.injEq] at H
 obtain ⟨rfl, rfl⟩ := H
 obtain ⟨Ao4, co4, eo4⟩ := Kd.R_slice HO0_0.out
 subst eo4
 go_enter Try.func23, Try.ntmps23
 go_wp2_with (first | ((with_reducible refine gate_dst (N := 2) rfl ?_); refine box_event ?hg (N := 2) ?hd (cs := #[.slice Ao4 l0_0.length co4]) (t := 34) ?hr ?_; (case hd => rfl); (case hg => rfl); (case hr => first | (go_simp; done) | (go_simp; rfl)); intro gb153 hg w5 hbox hb; have n0_ := Aside0.mk (Kd.R_below (by (with_reducible repeat (first | apply Kd.R_alloc | apply Kd.R_drewN | apply Kd.R_drew)); exact HO0_0.out) hb); have n1_ := Aside0.mk (Kept.below (S := (fun k_ => P0_0_ k_)) z3_2_ hb); have n2_ := Aside0.mk (below_step z3_3_ hb); have n3_ := Aside0.mk (hbox); have n4_ := Aside0.mk ((by rw [hg]; exact (by first | exact HK.out.1 | exact (show Kept w _ (fun k_ => P0_0_ k_) from by repeat (first | (with_reducible first | exact HK.out | apply Kept.alloc | apply Kept.drewN | apply Kept.drew) | exact HK.out)).1) : w.heap.size ≤ gb153)); have n5_ := Aside0.mk ((by rw [hg]; exact (below_size z3_3_) : w0.heap.size ≤ gb153)); clear HO0_0; clear HK; clear HB; have HO0_0 := n0_; have HK := n1_; have HB := n2_; have BK153 := n3_; have GW153 := n4_; have GE153 := n5_; clear n0_ n1_ n2_ n3_ n4_ n5_; clear hb hbox hg; have hcz6_0 : w5.cell? ⟨gb153, 0, none⟩ = some (.slice Ao4 l0_0.length co4) := (blk_cell BK153.out 0).trans rfl; have hfz6_0 := blk_frozen BK153.out 0) | ((with_reducible refine gate_callee (f := 65) rfl ?_); refine goesL_ (some 8) rfl rfl Try.func65 (by kernel_rfl) rfl #[.slice Ao4 l0_0.length co4, .int .i64 a1] rfl z3_4_ ?_; (with_reducible refine (laws_markForkS.calls k (fun k_ => some k_ = (.slice Ao4 l0_0.length co4 : Value).ownBlock) (.slice Ao4 l0_0.length co4) l0_0 a1 t154 t155 w0 _ ?side1 ?side2 A3.out).mono ?_); (case side1 => repeat (first | (with_reducible first | exact HB.out | apply below_alloc | apply pw_below_drewN | apply below_drew1 | refine below_set ?_ GE153.out) | exact HB.out)); (case side2 => exact Kd.R_tight rfl HO0_0.out); rintro e w7 ⟨rfl, hy0, hb, hkp⟩; refine ⟨_, rfl, ?_⟩; have n0_ := Aside0.mk (Kd.R_reok rfl hy0 (fun k_ e_ => HO0_0.out.1 k_ e_)); have n1_ := Aside0.mk (blk_kept (by (with_reducible repeat (first | refine blk_drewN ?_ _ | refine blk_drew ?_ | refine blk_alloc ?_ _)); exact BK153.out) hkp (fun hs_ => (fun e_ => (Kd.R_ne HO0_0.out BK153.out (by decide)) e_) hs_)); have n2_ := Aside0.mk (Kept.then_ (S := (fun k_ => P0_0_ k_)) (by repeat (first | (with_reducible first | exact HK.out | apply Kept.alloc | apply Kept.drewN | apply Kept.drew | refine Kept.setCell ?_ (.inr GW153.out) _) | exact HK.out)) hkp (fun k_ hs_ => (fun e_ => (HO0_0.out.1 k_ e_.symm)) hs_)); have n3_ := Aside0.mk (hb); clear HO0_0; clear BK153; clear HK; clear HB; have HO0_0 := n0_; have BK153 := n1_; have HK := n2_; have HB := n3_; clear n0_ n1_ n2_ n3_; (try clear hb); (try clear hkp); (try clear hy0)))
 go_ret
 exact ⟨by first | rfl | (simp [errW_none, errW_some] <;> rfl) | (simp [*, errW_none, errW_some] <;> rfl), by (with_reducible repeat (first | apply Kd.R_alloc | apply Kd.R_drewN | apply Kd.R_drew)); exact HO0_0.out, by repeat (first | (with_reducible first | exact HB.out | apply below_alloc | apply pw_below_drewN | apply below_drew1 | refine below_set ?_ GE153.out) | exact HB.out), by repeat (first | (with_reducible first | exact HK.out | apply Kept.alloc | apply Kept.drewN | apply Kept.drew | refine Kept.setCell ?_ (.inr GW153.out) _) | exact HK.out)⟩
/-! ### laws_markInt8S: function 25 -/
def laws_markInt8S.l0 : Nat → List Int → Int → Int → Option (Int × List Int)
 | 0, _, _, _ => none
 | k + 1, x0, x1, x5 => if x5 < (x0.length : Int) then (if 0 ≤ x5 then (laws_markInt8S.l0 k (x0.set (x5 : Int).toNat (IntKind.i8.wrap (x1))) (wrap64 (x1 + 1)) (wrap64 (x5 + 1))) else (none)) else (some (x1, x0))
def laws_markInt8S.f (k : Nat) (l0 : List Int) (a1 : Int) : Option (Int × List Int) := laws_markInt8S.l0 k l0 a1 0
theorem laws_markInt8S.mono_l : ∀ k, (∀ y0 y1 y2, LeO (laws_markInt8S.l0 k y0 y1 y2) (laws_markInt8S.l0 (k + 1) y0 y1 y2))
 | 0 => fun _ _ _ r h => by simp [laws_markInt8S.l0] at h
 | k + 1 => by
  have ih0 := laws_markInt8S.mono_l k
  ·
   intro y0 y1 y2
   unfold laws_markInt8S.l0
   repeat' first
   | (with_reducible exact ih0 _ _ _)
   | (with_reducible exact LeO.refl _)
   | (with_reducible exact LeO.none _)
   | (with_reducible refine LeO.ite ?_ ?_)
   | (with_reducible refine LeO.bind ?_ (fun _ => ?_))
   | refine LeO.bind ?_ (fun _ => ?_)
theorem laws_markInt8S.mono : ∀ a0 a1 k, LeO (laws_markInt8S.f k a0 a1) (laws_markInt8S.f (k + 1) a0 a1) := by
 intro a0 a1 k
 have ih0 := laws_markInt8S.mono_l k
 unfold laws_markInt8S.f
 repeat' first
   | (with_reducible exact ih0 _ _ _)
   | (with_reducible exact LeO.refl _)
   | (with_reducible exact LeO.none _)
   | (with_reducible refine LeO.ite ?_ ?_)
   | (with_reducible refine LeO.bind ?_ (fun _ => ?_))
   | refine LeO.bind ?_ (fun _ => ?_)
set_option maxHeartbeats 8000000 in
set_option maxRecDepth 100000 in
theorem laws_markInt8S.calls (k : Nat) (P0_ : Nat → Prop) (u9000_ : Value) (l0 : List Int) (a1 : Int) (r1 : Int) (r2 : List Int) (w0 w : World) (hB : Below w0.heap.size w0 w) (ho0 : Kd.R (Kd.int .i8) 86 w w0.heap.size P0_ u9000_ l0) (h : laws_markInt8S.f k l0 a1 = some (r1, r2)) :
  Calls Try.prog 25 #[u9000_, .int .i64 a1] w fun e w' => e = .returned (.int .i64 r1) ∧ Kd.R (Kd.int .i8) 86 w' w0.heap.size (fun k_ => (P0_ k_ ∨ w.heap.size ≤ k_)) u9000_ r2 ∧ Below w0.heap.size w0 w' ∧ Kept w w' (fun k_ => P0_ k_) := by
 have HO0 := Aside0.mk (show Kd.R (Kd.int .i8) 86 w w0.heap.size (fun k_ => (P0_ k_ ∨ w.heap.size ≤ k_)) u9000_ l0 from Kd.R_mono ho0 (fun k_ hk => (.inl hk)))
 have HK := Aside0.mk (Kept.refl w (fun k_ => P0_ k_))
 have HW0 := Aside0.mk hB.size
 have HB := Aside0.mk hB
 clear hB
 have H : (laws_markInt8S.l0 k l0 a1 0) = some (r1, r2) := h
 clear h
 have H' := Aside0.mk H
 clear H
 go_enter Try.func25, Try.ntmps25
 go_wp2
 go_loopg [1, 5] k (fun kq v1 v5 w' => ∃ (x0_1 : List Int) (x1_1 : Int) (x5_1 : Int), v1 = .int .i64 x1_1 ∧ v5 = .int .i64 x5_1 ∧ Aside0 (laws_markInt8S.l0 kq x0_1 x1_1 x5_1 = some (r1, r2)) ∧ Aside0 (kq ≤ k) ∧ Aside0 (Kd.R (Kd.int .i8) 86 w' w0.heap.size (fun k_ => (P0_ k_ ∨ w.heap.size ≤ k_)) u9000_ x0_1) ∧ Aside0 (Kept w w' (fun k_ => P0_ k_)) ∧ Aside0 (Below w0.heap.size w0 w'))
 case atStart => exact ⟨(l0), (a1), (0), z3_1_, z3_1_, H', ⟨Nat.le_refl _⟩, ⟨by (with_reducible repeat (first | apply Kd.R_alloc | apply Kd.R_drewN | apply Kd.R_drew)); exact HO0.out⟩, ⟨by repeat (first | (with_reducible first | exact HK.out | apply Kept.alloc | apply Kept.drewN | apply Kept.drew) | exact HK.out)⟩, ⟨by repeat (first | (with_reducible first | exact HB.out | apply below_alloc | apply pw_below_drewN | apply below_drew1) | exact HB.out)⟩⟩
 case round =>
  clear H'
  try clear c2
  try clear p2
  obtain ⟨x0_1, x1_1, x5_1, rfl, rfl, HA, HK1, HO_0, HK, HB⟩ := hrel
  cases gk with
  | zero => exact absurd HA.out (by simp [laws_markInt8S.l0])
  | succ k1 =>
   have H := HA.out
   clear HA
   simp only [laws_markInt8S.l0] at H
   by_cases c3 : x5_1 < (x0_1.length : Int)
   ·
    rw [if_pos c3] at H
    have c3b0 : decide (x5_1 < (x0_1.length : Int)) = true := decide_eq_true c3
    clear c3
    by_cases c4 : 0 ≤ x5_1
    ·
     rw [if_pos c4] at H
     have c4b0 : decide (0 ≤ x5_1) = true := decide_eq_true c4
     clear c4
     obtain ⟨y156, hy156⟩ : ∃ y_ : List Int, y_ = (x0_1.set (x5_1 : Int).toNat (IntKind.i8.wrap (x1_1))) := ⟨_, rfl⟩
     replace H : (laws_markInt8S.l0 k1 y156 (wrap64 (x1_1 + 1)) (wrap64 (x5_1 + 1))) = some (r1, r2) := by first | (rw [hy156]; with_reducible exact H) | (have H2_ := (Option.bind_some _ _).symm.trans H; rw [hy156]; with_reducible exact H2_) | (have H2_ := (Option.bind_some _ _).symm.trans H; with_reducible exact H2_) | with_reducible exact H | (rw [hy156]; exact H) | exact H
     have Ny156 := Aside0.mk hy156
     clear hy156
     have H' := Aside0.mk H
     clear H
     obtain ⟨Ao6, co6, eo6⟩ := Kd.R_slice HO_0.out
     subst eo6
     have p5 : 0 ≤ (x5_1 : Int) := of_decide_eq_true (by assumption)
     have q5 : (x5_1 : Int) < ((x0_1.length : Int) : Int) := of_decide_eq_true (by assumption)
     obtain ⟨go5, co5, eo5, gb5, gl5, cl5, HG5⟩ := Kd.R_form HO_0.out (by omega)
     (first | cases eo5 | (injection eo5 with ea_ en_ ec_; (first | subst ea_ | (injection ea_ with ea_; subst ea_)); subst ec_; clear en_))
     have GB5 := Aside0.mk gb5
     have GG5 := Aside0.mk HG5
     clear gb5 gl5 HG5
     have HMgo5 := Aside0.mk (show (P0_ go5 ∨ w.heap.size ≤ go5) from (HO_0.out.1 _ rfl))
     obtain ⟨hx5_0, hf5_0⟩ := Kd.R_celln 0 HO_0.out (x5_1 : Int) p5 q5
     replace p5 := eq_true p5
     replace q5 := eq_true q5
     have HP7 := Kd.R_putg HO_0.out (x5_1 : Int) (IntKind.i8.wrap (x1_1))
     go_wp2_with (first | ((with_reducible refine gate_store (t := 86) (p := 16) rfl ?_); refine store_event (t := 86) (p := 16) (v := ?vo_w8) (w1 := (wr.setCell ⟨go5, (x5_1 : Int).toNat, none⟩ (.int .i8 (IntKind.i8.wrap (x1_1))))) ?hg ?ho ?hn ?hr ?_; (case ho => rfl); (case hg => rfl); (case hn => rfl); (case hr => first | (go_simp; done) | (go_simp; rfl)); intro w8 hw; have hg : wr.grownBy w8 (some go5) := (by rw [hw]; exact HP7.2); have hp_ : Kd.R (Kd.int .i8) 86 w8 w0.heap.size (fun k_ => (P0_ k_ ∨ w.heap.size ≤ k_)) (.slice (some ⟨go5, 0, none⟩) x0_1.length co6) y156 := (by rw [hw, Ny156.out]; exact HP7.1); clear HP7; have n0_ := Aside0.mk (hp_); have n1_ := Aside0.mk ((by rw [hw]; exact below_set (HB.out) GB5.out : Below w0.heap.size w0 w8)); have n2_ := Aside0.mk (Kept.of_grown (S := (fun k_ => P0_ k_)) hg z3_2_ (fun k_ e_ => (HO_0.out.1 k_ e_))); clear HO_0; clear HB; clear HK; have HO_0 := n0_; have HB := n1_; have HK := n2_; clear n0_ n1_ n2_; clear hg hw hp_))
     go_roundg k1
     case measure => have := HK1.out; omega
     case rel => exact ⟨(y156), (wrap64 (x1_1 + 1)), (wrap64 (x5_1 + 1)), z3_1_, z3_1_, H', ⟨by have := HK1.out; omega⟩, ⟨by (with_reducible repeat (first | apply Kd.R_alloc | apply Kd.R_drewN | apply Kd.R_drew)); exact HO_0.out⟩, ⟨by repeat (first | (with_reducible first | exact HK.out | apply Kept.alloc | apply Kept.drewN | apply Kept.drew) | exact HK.out)⟩, ⟨by repeat (first | (with_reducible first | exact HB.out | apply below_alloc | apply pw_below_drewN | apply below_drew1) | exact HB.out)⟩⟩
    ·
     rw [if_neg c4] at H
     exact absurd H (by simp)
   ·
    rw [if_neg c3] at H
    have c3b0 : decide (x5_1 < (x0_1.length : Int)) = false := decide_eq_false c3
    clear c3
    simp only [Option.some.injEq, Prod.mk.injEq] at H
    obtain ⟨rfl, rfl⟩ := H
    obtain ⟨Ao9, co9, eo9⟩ := Kd.R_slice HO_0.out
    subst eo9
    go_wp2
    go_ret
    exact ⟨by first | rfl | (simp [errW_none, errW_some] <;> rfl) | (simp [*, errW_none, errW_some] <;> rfl), by (with_reducible repeat (first | apply Kd.R_alloc | apply Kd.R_drewN | apply Kd.R_drew)); exact HO_0.out, by repeat (first | (with_reducible first | exact HB.out | apply below_alloc | apply pw_below_drewN | apply below_drew1) | exact HB.out), by repeat (first | (with_reducible first | exact HK.out | apply Kept.alloc | apply Kept.drewN | apply Kept.drew) | exact HK.out)⟩
/-! ### laws_markStream: function 24 -/
def laws_markStream.f (k : Nat) (l0_0 : List Int) (l0_1 : List Int) (a1 : Int) : Option (Int × List Int × List Int) := (laws_markInt8S.f k l0_0 a1).bind fun bt158 => ((laws_markInt8S.f k l0_1 bt158.1).bind fun bt160 => (some (bt160.1, bt158.2, bt160.2)))
theorem laws_markStream.mono : ∀ a0 a1 a2 k, LeO (laws_markStream.f k a0 a1 a2) (laws_markStream.f (k + 1) a0 a1 a2) := by
 intro a0 a1 a2 k
 unfold laws_markStream.f
 repeat' first
   | (with_reducible exact laws_markInt8S.mono _ _ _)
   | (with_reducible exact LeO.refl _)
   | (with_reducible exact LeO.none _)
   | (with_reducible refine LeO.ite ?_ ?_)
   | (with_reducible refine LeO.bind ?_ (fun _ => ?_))
   | refine LeO.bind ?_ (fun _ => ?_)
set_option maxHeartbeats 8000000 in
set_option maxRecDepth 100000 in
theorem laws_markStream.calls (k : Nat) (P0_0_ : Nat → Prop) (u9000_ : Value) (l0_0 : List Int) (P0_1_ : Nat → Prop) (u9001_ : Value) (l0_1 : List Int) (a1 : Int) (r1 : Int) (r2 : List Int) (r3 : List Int) (w0 w : World) (hB : Below w0.heap.size w0 w) (ho0_0 : Kd.R (Kd.int .i8) 86 w w0.heap.size P0_0_ u9000_ l0_0) (hp0_0_0_1 : ∀ k_, P0_0_ k_ → ¬ P0_1_ k_) (ho0_1 : Kd.R (Kd.int .i8) 86 w w0.heap.size P0_1_ u9001_ l0_1) (hp0_1_0_0 : ∀ k_, P0_1_ k_ → ¬ P0_0_ k_) (h : laws_markStream.f k l0_0 l0_1 a1 = some (r1, r2, r3)) :
  Calls Try.prog 24 #[.agg #[u9000_, u9001_], .int .i64 a1] w fun e w' => e = .returned (.int .i64 r1) ∧ Kd.R (Kd.int .i8) 86 w' w0.heap.size (fun k_ => ((P0_0_ k_ ∨ P0_1_ k_) ∨ w.heap.size ≤ k_)) u9000_ r2 ∧ Kd.R (Kd.int .i8) 86 w' w0.heap.size (fun k_ => ((P0_0_ k_ ∨ P0_1_ k_) ∨ w.heap.size ≤ k_)) u9001_ r3 ∧ Below w0.heap.size w0 w' ∧ Kept w w' (fun k_ => P0_0_ k_ ∨ P0_1_ k_) := by
 have hu36 := Try.underlying36
 have HO0_0 := Aside0.mk (show Kd.R (Kd.int .i8) 86 w w0.heap.size (fun k_ => ((P0_0_ k_ ∨ P0_1_ k_) ∨ w.heap.size ≤ k_) ∧ some k_ ≠ (u9001_ : Value).ownBlock) u9000_ l0_0 from Kd.R_mono ho0_0 (fun k_ hk => ⟨(.inl (.inl hk)), fun e_ => hp0_0_0_1 k_ hk (ho0_1.1 k_ e_.symm)⟩))
 have HO0_1 := Aside0.mk (show Kd.R (Kd.int .i8) 86 w w0.heap.size (fun k_ => ((P0_0_ k_ ∨ P0_1_ k_) ∨ w.heap.size ≤ k_) ∧ some k_ ≠ (u9000_ : Value).ownBlock) u9001_ l0_1 from Kd.R_mono ho0_1 (fun k_ hk => ⟨(.inl (.inr hk)), fun e_ => hp0_1_0_0 k_ hk (ho0_0.1 k_ e_.symm)⟩))
 have HK := Aside0.mk (Kept.refl w (fun k_ => P0_0_ k_ ∨ P0_1_ k_))
 have HW0 := Aside0.mk hB.size
 have HB := Aside0.mk hB
 clear hB
 have H : ((laws_markInt8S.f k l0_0 a1).bind fun bt158 => ((laws_markInt8S.f k l0_1 bt158.1).bind fun bt160 => (some (bt160.1, bt158.2, bt160.2)))) = some (r1, r2, r3) := h
 clear h
 replace H := Option.bind_eq_some_iff.mp H
 obtain ⟨⟨t158, t159⟩, A30, H⟩ := H
 replace H : ((laws_markInt8S.f k l0_1 t158).bind fun bt160 => (some (bt160.1, t159, bt160.2))) = some (r1, r2, r3) := H
 have A3 := Aside0.mk A30
 clear A30
 replace H := Option.bind_eq_some_iff.mp H
 obtain ⟨⟨t160, t161⟩, A40, H⟩ := H
 replace H : (some (t160, t159, t161)) = some (r1, r2, r3) := H
 have A4 := Aside0.mk A40
 clear A40
 simp only [Option.some.injEq, Prod.mk.injEq] at H
 obtain ⟨rfl, rfl, rfl⟩ := H
 obtain ⟨Ao5, co5, eo5⟩ := Kd.R_slice HO0_0.out
 subst eo5
 obtain ⟨Ao6, co6, eo6⟩ := Kd.R_slice HO0_1.out
 subst eo6
 go_enter Try.func24, Try.ntmps24
 go_wp2_with (first | ((with_reducible refine gate_dst (N := 2) rfl ?_); refine box_event ?hg (N := 2) ?hd (cs := #[.slice Ao5 l0_0.length co5, .slice Ao6 l0_1.length co6]) (t := 36) ?hr ?_; (case hd => rfl); (case hg => rfl); (case hr => first | (go_simp; done) | (go_simp; rfl)); intro gb157 hg w7 hbox hb; have n0_ := Aside0.mk (Kd.R_below (by (with_reducible repeat (first | apply Kd.R_alloc | apply Kd.R_drewN | apply Kd.R_drew)); exact HO0_0.out) hb); have n1_ := Aside0.mk (Kd.R_below (by (with_reducible repeat (first | apply Kd.R_alloc | apply Kd.R_drewN | apply Kd.R_drew)); exact HO0_1.out) hb); have n2_ := Aside0.mk (Kept.below (S := (fun k_ => P0_0_ k_ ∨ P0_1_ k_)) z3_2_ hb); have n3_ := Aside0.mk (below_step z3_3_ hb); have n4_ := Aside0.mk (hbox); have n5_ := Aside0.mk ((by rw [hg]; exact (by first | exact HK.out.1 | exact (show Kept w _ (fun k_ => P0_0_ k_ ∨ P0_1_ k_) from by repeat (first | (with_reducible first | exact HK.out | apply Kept.alloc | apply Kept.drewN | apply Kept.drew) | exact HK.out)).1) : w.heap.size ≤ gb157)); have n6_ := Aside0.mk ((by rw [hg]; exact (below_size z3_3_) : w0.heap.size ≤ gb157)); clear HO0_0; clear HO0_1; clear HK; clear HB; have HO0_0 := n0_; have HO0_1 := n1_; have HK := n2_; have HB := n3_; have BK157 := n4_; have GW157 := n5_; have GE157 := n6_; clear n0_ n1_ n2_ n3_ n4_ n5_ n6_; clear hb hbox hg; have hcz8_0 : w7.cell? ⟨gb157, 0, none⟩ = some (.slice Ao5 l0_0.length co5) := (blk_cell BK157.out 0).trans rfl; have hcz8_1 : w7.cell? ⟨gb157, 1, none⟩ = some (.slice Ao6 l0_1.length co6) := (blk_cell BK157.out 1).trans rfl; have hfz8_0 := blk_frozen BK157.out 0; have hfz8_1 := blk_frozen BK157.out 1) | ((with_reducible refine gate_callee (f := 25) rfl ?_); refine goesL_ (some 8) rfl rfl Try.func25 (by kernel_rfl) rfl #[.slice Ao5 l0_0.length co5, .int .i64 a1] rfl z3_4_ ?_; (with_reducible refine (laws_markInt8S.calls k (fun k_ => some k_ = (.slice Ao5 l0_0.length co5 : Value).ownBlock) (.slice Ao5 l0_0.length co5) l0_0 a1 t158 t159 w0 _ ?side1 ?side2 A3.out).mono ?_); (case side1 => repeat (first | (with_reducible first | exact HB.out | apply below_alloc | apply pw_below_drewN | apply below_drew1 | refine below_set ?_ GE157.out) | exact HB.out)); (case side2 => exact Kd.R_tight rfl HO0_0.out); rintro e w9 ⟨rfl, hy0, hb, hkp⟩; refine ⟨_, rfl, ?_⟩; have n0_ := Aside0.mk (Kd.R_reok rfl hy0 (fun k_ e_ => HO0_0.out.1 k_ e_)); have n1_ := Aside0.mk (Kd.R_mono (ok' := fun k_ => ((P0_0_ k_ ∨ P0_1_ k_) ∨ w.heap.size ≤ k_) ∧ some k_ ≠ (.slice Ao5 l0_0.length co5 : Value).ownBlock) (Kd.R_keptB (HO0_1.out) hkp (fun k_ hk_ hs_ => (hk_.2) hs_)) (fun k_ hk_ => ⟨hk_.1.1, hk_.1.2⟩)); have n2_ := Aside0.mk (blk_kept (by (with_reducible repeat (first | refine blk_drewN ?_ _ | refine blk_drew ?_ | refine blk_alloc ?_ _)); exact BK157.out) hkp (fun hs_ => (fun e_ => (Kd.R_ne HO0_0.out BK157.out (by decide)) e_) hs_)); have n3_ := Aside0.mk (Kept.then_ (S := (fun k_ => P0_0_ k_ ∨ P0_1_ k_)) z3_6_ hkp (fun k_ hs_ => (fun e_ => (HO0_0.out.1 k_ e_.symm).1) hs_)); have n4_ := Aside0.mk (hb); clear HO0_0; clear HO0_1; clear BK157; clear HK; clear HB; have HO0_0 := n0_; have HO0_1 := n1_; have BK157 := n2_; have HK := n3_; have HB := n4_; clear n0_ n1_ n2_ n3_ n4_; (try clear hb); (try clear hkp); (try clear hy0); have hcz10_0 : w9.cell? ⟨gb157, 0, none⟩ = some (.slice Ao5 l0_0.length co5) := (blk_cell BK157.out 0).trans rfl; have hcz10_1 : w9.cell? ⟨gb157, 1, none⟩ = some (.slice Ao6 l0_1.length co6) := (blk_cell BK157.out 1).trans rfl; have hfz10_0 := blk_frozen BK157.out 0; have hfz10_1 := blk_frozen BK157.out 1) | ((with_reducible refine gate_callee (f := 25) rfl ?_); refine goesL_ (some 12) rfl rfl Try.func25 (by kernel_rfl) rfl #[.slice Ao6 l0_1.length co6, .int .i64 t158] rfl z3_4_ ?_; (with_reducible refine (laws_markInt8S.calls k (fun k_ => some k_ = (.slice Ao6 l0_1.length co6 : Value).ownBlock) (.slice Ao6 l0_1.length co6) l0_1 t158 t160 t161 w0 _ ?side1 ?side2 A4.out).mono ?_); (case side1 => repeat (first | (with_reducible first | exact HB.out | apply below_alloc | apply pw_below_drewN | apply below_drew1 | refine below_set ?_ GE157.out) | exact HB.out)); (case side2 => exact Kd.R_tight rfl HO0_1.out); rintro e w11 ⟨rfl, hy0, hb, hkp⟩; refine ⟨_, rfl, ?_⟩; have n0_ := Aside0.mk (Kd.R_mono (ok' := fun k_ => ((P0_0_ k_ ∨ P0_1_ k_) ∨ w.heap.size ≤ k_) ∧ some k_ ≠ (.slice Ao6 l0_1.length co6 : Value).ownBlock) (Kd.R_keptB (HO0_0.out) hkp (fun k_ hk_ hs_ => (hk_.2) hs_)) (fun k_ hk_ => ⟨hk_.1.1, hk_.1.2⟩)); have n1_ := Aside0.mk (Kd.R_reok rfl hy0 (fun k_ e_ => HO0_1.out.1 k_ e_)); have n2_ := Aside0.mk (blk_kept (by (with_reducible repeat (first | refine blk_drewN ?_ _ | refine blk_drew ?_ | refine blk_alloc ?_ _)); exact BK157.out) hkp (fun hs_ => (fun e_ => (Kd.R_ne HO0_1.out BK157.out (by decide)) e_) hs_)); have n3_ := Aside0.mk (Kept.then_ (S := (fun k_ => P0_0_ k_ ∨ P0_1_ k_)) z3_6_ hkp (fun k_ hs_ => (fun e_ => (HO0_1.out.1 k_ e_.symm).1) hs_)); have n4_ := Aside0.mk (hb); clear HO0_0; clear HO0_1; clear BK157; clear HK; clear HB; have HO0_0 := n0_; have HO0_1 := n1_; have BK157 := n2_; have HK := n3_; have HB := n4_; clear n0_ n1_ n2_ n3_ n4_; (try clear hb); (try clear hkp); (try clear hy0)))
 go_ret
 exact ⟨by first | rfl | (simp [errW_none, errW_some] <;> rfl) | (simp [*, errW_none, errW_some] <;> rfl), by (with_reducible repeat (first | apply Kd.R_alloc | apply Kd.R_drewN | apply Kd.R_drew)); exact Kd.R_mono HO0_0.out (fun _ hk => hk.1), by (with_reducible repeat (first | apply Kd.R_alloc | apply Kd.R_drewN | apply Kd.R_drew)); exact Kd.R_mono HO0_1.out (fun _ hk => hk.1), by repeat (first | (with_reducible first | exact HB.out | apply below_alloc | apply pw_below_drewN | apply below_drew1 | refine below_set ?_ GE157.out) | exact HB.out), by repeat (first | (with_reducible first | exact HK.out | apply Kept.alloc | apply Kept.drewN | apply Kept.drew | refine Kept.setCell ?_ (.inr GW157.out) _) | exact HK.out)⟩
/-! ### spec_l00In: function 109 -/
def spec_l00In.f (a0 : Int) (a1 : Int) (a2 : Int) : Option (Bool) := if a0 ≥ a1 then (some (decide (a0 ≤ a2))) else (some false)
set_option maxHeartbeats 8000000 in
set_option maxRecDepth 100000 in
theorem spec_l00In.calls (a0 : Int) (a1 : Int) (a2 : Int) (r : Bool) (w : World) (h : spec_l00In.f a0 a1 a2 = some r) :
  Calls Try.prog 109 #[.int .i64 a0, .int .i64 a1, .int .i64 a2] w fun e w' => e = .returned (.bool r) ∧ Drawn0 w w' := by
 have H : (if a0 ≥ a1 then (some (decide (a0 ≤ a2))) else (some false)) = some r := h
 clear h
 by_cases c4 : a0 ≥ a1
 ·
  rw [if_pos c4] at H
  have c4b0 : decide (a1 ≤ a0) = true := decide_eq_true c4
  clear c4
  obtain rfl := Option.some.inj H
  go_enter Try.func109, Try.ntmps109
  go_wp2
  go_ret
  exact ⟨by first | rfl | (simp; done) | (simp [*]; done) | (simp [isE_]; done), by repeat (first | exact Drawn0.refl _ | apply Drawn0.step)⟩
 ·
  rw [if_neg c4] at H
  have c4b0 : decide (a1 ≤ a0) = false := decide_eq_false c4
  clear c4
  obtain rfl := Option.some.inj H
  go_enter Try.func109, Try.ntmps109
  go_wp2
  go_ret
  exact ⟨by first | rfl | (simp; done) | (simp [*]; done) | (simp [isE_]; done), by repeat (first | exact Drawn0.refl _ | apply Drawn0.step)⟩
end Go.Proofs.Ytpfnohdnaocpdaa.PT

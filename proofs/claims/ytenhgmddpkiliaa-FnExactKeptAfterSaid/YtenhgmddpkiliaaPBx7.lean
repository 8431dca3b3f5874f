import Derived.Test.YtenhgmddpkiliaaPBx0
import Derived.Test.YtenhgmddpkiliaaPBx1
namespace Go.Proofs.Ytenhgmddpkiliaa.PB
open Go.RowKit Go.Proofs.YtenhgmddpkiliaaW.PrintWords Go.Proofs.YtenhgmddpkiliaaW.PrintLast Go.Proofs.YtenhgmddpkiliaaW.PrintMore Go.Proofs.YtenhgmddpkiliaaRP
attribute [local go_sem] max2_int min2_int max_two min_two max_three min_three max_four min_four Go.Proofs.YtenhgmddpkiliaaRP.max_eight Go.Proofs.YtenhgmddpkiliaaRP.tmod_len   -- for this text's walks alone
set_option linter.unusedVariables false
set_option linter.unusedSimpArgs false
theorem z7_1_ {P : Prop} (h : P := by repeat (first | (with_reducible first | exact HB.out | apply below_alloc | apply pw_below_drewN | apply below_drew1) | exact HB.out)) : P := h
theorem z7_2_ {P : Prop} (h : P := by repeat (first | (with_reducible first | exact HK.out | apply Kept.alloc | apply Kept.drewN | apply Kept.drew) | exact HK.out)) : P := h
theorem z7_3_ {P : Prop} (h : P := by first | rfl | (simp; done) | (simp [*]; done) | (simp [isE_]; done)) : P := h
theorem z7_4_ {P : Prop} (h : P := by (with_reducible repeat (first | apply Kd.R_alloc | apply Kd.R_drewN | apply Kd.R_drew)); exact HO_0.out) : P := h
theorem z7_5_ {P : Prop} (h : P := by first | rfl | (simp [errW_none, errW_some] <;> rfl) | (simp [*, errW_none, errW_some] <;> rfl)) : P := h
theorem z7_6_ {P : Prop} (h : P := by (try simp only [List.map_toArray, List.map_cons, List.map_nil]); first | done | rfl | (simp only [List.length_drop, List.length_take]; rfl)) : P := h
theorem z7_7_ {P : Prop} (h : P := by (try simp only [hl0_2]); (with_reducible repeat (first | apply Kd.R_alloc | apply Kd.R_drewN | apply Kd.R_drew)); exact HO_0.out) : P := h
theorem z7_8_ {P : Prop} (h : P := by have := HK1.out; have := HK2.out; omega) : P := h
/-! ### laws_markKeptS: function 60 -/
mutual
def laws_markKeptS.l0 : Nat → List (S124) → Int → Int → Option (Int × (List (S124)))
 | 0, _, _, _ => none
 | k + 1, x0, x1, x5 => if x5 < (x0.length : Int) then ((laws_markText.f k x1).bind fun t424 => (if 0 ≤ x5 then ((some (x0.set (x5 : Int).toNat (⟨t424, (rd_T124 x0 x5).f1, (⟨(rd_T124 x0 x5).f2.f0, (⟨(rd_T124 x0 x5).f2.f1.f0, (rd_T124 x0 x5).f2.f1.f1, (rd_T124 x0 x5).f2.f1.f2, (rd_T124 x0 x5).f2.f1.f3, (rd_T124 x0 x5).f2.f1.f4, (rd_T124 x0 x5).f2.f1.f5⟩ : S116)⟩ : S122)⟩ : S124) : List (S124))).bind fun y425 => ((some (y425.set (x5 : Int).toNat (⟨(rd_T124 y425 x5).f0, wrap64 (x1 + 1), (⟨(rd_T124 y425 x5).f2.f0, (⟨(rd_T124 y425 x5).f2.f1.f0, (rd_T124 y425 x5).f2.f1.f1, (rd_T124 y425 x5).f2.f1.f2, (rd_T124 y425 x5).f2.f1.f3, (rd_T124 y425 x5).f2.f1.f4, (rd_T124 y425 x5).f2.f1.f5⟩ : S116)⟩ : S122)⟩ : S124) : List (S124))).bind fun y426 => (laws_markKeptS.l1 k (y426.set (x5 : Int).toNat (⟨(rd_T124 y426 x5).f0, (rd_T124 y426 x5).f1, (⟨((Int.tmod (wrap64 ((wrap64 (x1 + 1)) + 1)) 3) == 0), (⟨(rd_T124 y426 x5).f2.f1.f0, (rd_T124 y426 x5).f2.f1.f1, (rd_T124 y426 x5).f2.f1.f2, (rd_T124 y426 x5).f2.f1.f3, (rd_T124 y426 x5).f2.f1.f4, (rd_T124 y426 x5).f2.f1.f5⟩ : S116)⟩ : S122)⟩ : S124)) (wrap64 ((wrap64 ((wrap64 (x1 + 1)) + 1)) + 1)) x5 0))) else (none))) else (some (x1, x0))
def laws_markKeptS.l1 : Nat → List (S124) → Int → Int → Int → Option (Int × (List (S124)))
 | 0, _, _, _, _ => none
 | k + 1, x0, x1, x5, x6 => if x6 < 6 then (if 0 ≤ x5 then (if x5 < (x0.length : Int) then (if 0 ≤ x6 then (laws_markKeptS.l1 k (x0.set (x5 : Int).toNat (⟨(rd_T124 x0 x5).f0, (rd_T124 x0 x5).f1, (⟨(rd_T124 x0 x5).f2.f0, (⟨(up 0 x6 ((x1) % 4294967296) ((rd_T124 x0 x5).f2.f1.f0)), (up 1 x6 ((x1) % 4294967296) ((rd_T124 x0 x5).f2.f1.f1)), (up 2 x6 ((x1) % 4294967296) ((rd_T124 x0 x5).f2.f1.f2)), (up 3 x6 ((x1) % 4294967296) ((rd_T124 x0 x5).f2.f1.f3)), (up 4 x6 ((x1) % 4294967296) ((rd_T124 x0 x5).f2.f1.f4)), (up 5 x6 ((x1) % 4294967296) ((rd_T124 x0 x5).f2.f1.f5))⟩ : S116)⟩ : S122)⟩ : S124)) (wrap64 (x1 + 1)) x5 (wrap64 (x6 + 1))) else (none)) else (none)) else (none)) else (laws_markKeptS.l0 k x0 x1 (wrap64 (x5 + 1)))
end
def laws_markKeptS.f (k : Nat) (l0 : List (S124)) (a1 : Int) : Option (Int × (List (S124))) := laws_markKeptS.l0 k l0 a1 0
theorem laws_markKeptS.mono_l : ∀ k, (∀ y0 y1 y2, LeO (laws_markKeptS.l0 k y0 y1 y2) (laws_markKeptS.l0 (k + 1) y0 y1 y2)) ∧ (∀ y0 y1 y2 y3, LeO (laws_markKeptS.l1 k y0 y1 y2 y3) (laws_markKeptS.l1 (k + 1) y0 y1 y2 y3))
 | 0 => ⟨fun _ _ _ r h => by simp [laws_markKeptS.l0] at h, fun _ _ _ _ r h => by simp [laws_markKeptS.l1] at h⟩
 | k + 1 => by
  obtain ⟨ih0, ih1⟩ := laws_markKeptS.mono_l k
  refine ⟨?_, ?_⟩
  ·
   intro y0 y1 y2
   unfold laws_markKeptS.l0
   repeat' first
   | (with_reducible exact ih0 _ _ _)
   | (with_reducible exact ih1 _ _ _ _)
   | (with_reducible exact laws_markText.mono _ _)
   | (with_reducible exact LeO.refl _)
   | (with_reducible exact LeO.none _)
   | (with_reducible refine LeO.ite ?_ ?_)
   | (with_reducible refine LeO.bind ?_ (fun _ => ?_))
   | exact ih0 _ _ _
   | exact ih1 _ _ _ _
   | exact LeO.none _
   | refine LeO.ite ?_ ?_
   | refine LeO.bind ?_ (fun _ => ?_)
  ·
   intro y0 y1 y2 y3
   unfold laws_markKeptS.l1
   repeat' first
   | (with_reducible exact ih0 _ _ _)
   | (with_reducible exact ih1 _ _ _ _)
   | (with_reducible exact laws_markText.mono _ _)
   | (with_reducible exact LeO.refl _)
   | (with_reducible exact LeO.none _)
   | (with_reducible refine LeO.ite ?_ ?_)
   | (with_reducible refine LeO.bind ?_ (fun _ => ?_))
   | exact ih0 _ _ _
   | exact ih1 _ _ _ _
   | exact LeO.none _
   | refine LeO.ite ?_ ?_
   | refine LeO.bind ?_ (fun _ => ?_)
theorem laws_markKeptS.mono : ∀ a0 a1 k, LeO (laws_markKeptS.f k a0 a1) (laws_markKeptS.f (k + 1) a0 a1) := by
 intro a0 a1 k
 obtain ⟨ih0, ih1⟩ := laws_markKeptS.mono_l k
 unfold laws_markKeptS.f
 repeat' first
   | (with_reducible exact ih0 _ _ _)
   | (with_reducible exact ih1 _ _ _ _)
   | (with_reducible exact laws_markText.mono _ _)
   | (with_reducible exact LeO.refl _)
   | (with_reducible exact LeO.none _)
   | (with_reducible refine LeO.ite ?_ ?_)
   | (with_reducible refine LeO.bind ?_ (fun _ => ?_))
   | exact ih0 _ _ _
   | exact ih1 _ _ _ _
   | exact LeO.none _
   | refine LeO.ite ?_ ?_
   | refine LeO.bind ?_ (fun _ => ?_)
set_option maxHeartbeats 8000000 in
set_option maxRecDepth 100000 in
theorem laws_markKeptS.calls (k : Nat) (P0_ : Nat → Prop) (u9000_ : Value) (l0 : List (S124)) (a1 : Int) (r1 : Int) (r2 : List (S124)) (w0 w : World) (hB : Below w0.heap.size w0 w) (ho0 : Kd.R k124 124 w w0.heap.size P0_ u9000_ l0) (h : laws_markKeptS.f k l0 a1 = some (r1, r2)) :
  Calls Try.prog 60 #[u9000_, .int .i64 a1] w fun e w' => e = .returned (.int .i64 r1) ∧ Kd.R k124 124 w' w0.heap.size (fun k_ => (P0_ k_ ∨ w.heap.size ≤ k_)) u9000_ r2 ∧ Below w0.heap.size w0 w' ∧ Kept w w' (fun k_ => P0_ k_) := by
 have HO0 := A_ (show Kd.R k124 124 w w0.heap.size (fun k_ => (P0_ k_ ∨ w.heap.size ≤ k_)) u9000_ l0 from Kd.R_mono ho0 (fun k_ hk => (.inl hk)))
 have HK := A_ (Kept.refl w (fun k_ => P0_ k_))
 have HW0 := A_ hB.size
 have HB := A_ hB
 clear hB
 have H : (laws_markKeptS.l0 k l0 a1 0) = some (r1, r2) := h
 clear h
 have H' := A_ H
 clear H
 go_enter Try.func60, Try.ntmps60
 go_wp2
 go_loopg [1, 5] k (fun kq v1 v5 w' => ∃ (x0_1 : List (S124)) (x1_1 : Int) (x5_1 : Int), v1 = .int .i64 x1_1 ∧ v5 = .int .i64 x5_1 ∧ Aside0 (laws_markKeptS.l0 kq x0_1 x1_1 x5_1 = some (r1, r2)) ∧ Aside0 (kq ≤ k) ∧ Aside0 (Kd.R k124 124 w' w0.heap.size (fun k_ => (P0_ k_ ∨ w.heap.size ≤ k_)) u9000_ x0_1) ∧ Aside0 (Kept w w' (fun k_ => P0_ k_)) ∧ Aside0 (Below w0.heap.size w0 w'))
 case atStart => exact ⟨(l0), (a1), (0), z7_3_, z7_3_, H', ⟨Nat.le_refl _⟩, ⟨(by (with_reducible repeat (first | apply Kd.R_alloc | apply Kd.R_drewN | apply Kd.R_drew)); exact HO0.out)⟩, ⟨z7_2_⟩, ⟨z7_1_⟩⟩
 case round =>
  clear H'
  try clear p2
  obtain ⟨x0_1, x1_1, x5_1, rfl, rfl, HA, HK1, HO_0, HK, HB⟩ := hrel
  cases gk with
  | zero => exact absurd HA.out (by simp [laws_markKeptS.l0])
  | succ k1 =>
   have H := HA.out
   clear HA
   simp only [laws_markKeptS.l0] at H
   by_cases c3 : x5_1 < (x0_1.length : Int)
   ·
    rw [if_pos c3] at H
    have c3b0 := decide_eq_true c3
    clear c3
    replace H := Option.bind_eq_some_iff.mp H
    obtain ⟨t424, A40, H⟩ := H
    try dsimp only at H
    have A4 := A_ A40
    clear A40
    by_cases c5 : 0 ≤ x5_1
    ·
     rw [if_pos c5] at H
     have c5b0 := decide_eq_true c5
     clear c5
     obtain ⟨y425, hy425⟩ : ∃ y_ : List (S124), y_ = (x0_1.set (x5_1 : Int).toNat (⟨t424, (rd_T124 x0_1 x5_1).f1, (⟨(rd_T124 x0_1 x5_1).f2.f0, (⟨(rd_T124 x0_1 x5_1).f2.f1.f0, (rd_T124 x0_1 x5_1).f2.f1.f1, (rd_T124 x0_1 x5_1).f2.f1.f2, (rd_T124 x0_1 x5_1).f2.f1.f3, (rd_T124 x0_1 x5_1).f2.f1.f4, (rd_T124 x0_1 x5_1).f2.f1.f5⟩ : S116)⟩ : S122)⟩ : S124)) := ⟨_, rfl⟩
     replace H : ((some (y425.set (x5_1 : Int).toNat (⟨(rd_T124 y425 x5_1).f0, wrap64 (x1_1 + 1), (⟨(rd_T124 y425 x5_1).f2.f0, (⟨(rd_T124 y425 x5_1).f2.f1.f0, (rd_T124 y425 x5_1).f2.f1.f1, (rd_T124 y425 x5_1).f2.f1.f2, (rd_T124 y425 x5_1).f2.f1.f3, (rd_T124 y425 x5_1).f2.f1.f4, (rd_T124 y425 x5_1).f2.f1.f5⟩ : S116)⟩ : S122)⟩ : S124) : List (S124))).bind fun y426 => (laws_markKeptS.l1 k1 (y426.set (x5_1 : Int).toNat (⟨(rd_T124 y426 x5_1).f0, (rd_T124 y426 x5_1).f1, (⟨((Int.tmod (wrap64 ((wrap64 (x1_1 + 1)) + 1)) 3) == 0), (⟨(rd_T124 y426 x5_1).f2.f1.f0, (rd_T124 y426 x5_1).f2.f1.f1, (rd_T124 y426 x5_1).f2.f1.f2, (rd_T124 y426 x5_1).f2.f1.f3, (rd_T124 y426 x5_1).f2.f1.f4, (rd_T124 y426 x5_1).f2.f1.f5⟩ : S116)⟩ : S122)⟩ : S124)) (wrap64 ((wrap64 ((wrap64 (x1_1 + 1)) + 1)) + 1)) x5_1 0)) = some (r1, r2) := by first | (rw [hy425]; with_reducible exact H) | (have H2_ := (Option.bind_some _ _).symm.trans H; rw [hy425]; with_reducible exact H2_) | (have H2_ := (Option.bind_some _ _).symm.trans H; with_reducible exact H2_) | with_reducible exact H | (rw [hy425]; exact H) | exact H
     have Ny425 := A_ hy425
     clear hy425
     obtain ⟨y426, hy426⟩ : ∃ y_ : List (S124), y_ = (y425.set (x5_1 : Int).toNat (⟨(rd_T124 y425 x5_1).f0, wrap64 (x1_1 + 1), (⟨(rd_T124 y425 x5_1).f2.f0, (⟨(rd_T124 y425 x5_1).f2.f1.f0, (rd_T124 y425 x5_1).f2.f1.f1, (rd_T124 y425 x5_1).f2.f1.f2, (rd_T124 y425 x5_1).f2.f1.f3, (rd_T124 y425 x5_1).f2.f1.f4, (rd_T124 y425 x5_1).f2.f1.f5⟩ : S116)⟩ : S122)⟩ : S124)) := ⟨_, rfl⟩
     replace H : (laws_markKeptS.l1 k1 (y426.set (x5_1 : Int).toNat (⟨(rd_T124 y426 x5_1).f0, (rd_T124 y426 x5_1).f1, (⟨((Int.tmod (wrap64 ((wrap64 (x1_1 + 1)) + 1)) 3) == 0), (⟨(rd_T124 y426 x5_1).f2.f1.f0, (rd_T124 y426 x5_1).f2.f1.f1, (rd_T124 y426 x5_1).f2.f1.f2, (rd_T124 y426 x5_1).f2.f1.f3, (rd_T124 y426 x5_1).f2.f1.f4, (rd_T124 y426 x5_1).f2.f1.f5⟩ : S116)⟩ : S122)⟩ : S124)) (wrap64 ((wrap64 ((wrap64 (x1_1 + 1)) + 1)) + 1)) x5_1 0) = some (r1, r2) := by first | (rw [hy426]; with_reducible exact H) | (have H2_ := (Option.bind_some _ _).symm.trans H; rw [hy426]; with_reducible exact H2_) | (have H2_ := (Option.bind_some _ _).symm.trans H; with_reducible exact H2_) | with_reducible exact H | (rw [hy426]; exact H) | exact H
     have Ny426 := A_ hy426
     clear hy426
     obtain ⟨y427, hy427⟩ : ∃ y_ : List (S124), y_ = (y426.set (x5_1 : Int).toNat (⟨(rd_T124 y426 x5_1).f0, (rd_T124 y426 x5_1).f1, (⟨((Int.tmod (wrap64 ((wrap64 (x1_1 + 1)) + 1)) 3) == 0), (⟨(rd_T124 y426 x5_1).f2.f1.f0, (rd_T124 y426 x5_1).f2.f1.f1, (rd_T124 y426 x5_1).f2.f1.f2, (rd_T124 y426 x5_1).f2.f1.f3, (rd_T124 y426 x5_1).f2.f1.f4, (rd_T124 y426 x5_1).f2.f1.f5⟩ : S116)⟩ : S122)⟩ : S124)) := ⟨_, rfl⟩
     replace H : (laws_markKeptS.l1 k1 y427 (wrap64 ((wrap64 ((wrap64 (x1_1 + 1)) + 1)) + 1)) x5_1 0) = some (r1, r2) := by first | (rw [hy427]; with_reducible exact H) | (have H2_ := (Option.bind_some _ _).symm.trans H; rw [hy427]; with_reducible exact H2_) | (have H2_ := (Option.bind_some _ _).symm.trans H; with_reducible exact H2_) | with_reducible exact H | (rw [hy427]; exact H) | exact H
     have Ny427 := A_ hy427
     clear hy427
     have H' := A_ H
     clear H
     obtain ⟨Ao9, co9, eo9⟩ := Kd.R_slice HO_0.out
     subst eo9
     go_wp2_with (first | ((with_reducible refine gate_callee (f := 76) rfl ?_); refine goesL_ (some 16) rfl rfl Try.func76 (by kernel_rfl) rfl #[.int .i64 x1_1] rfl z7_6_ ?_; (with_reducible refine (laws_markText.calls k1 x1_1 t424 _ A4.out).mono ?_); rintro e w10 ⟨rfl, hb⟩; refine ⟨_, rfl, ?_⟩; have _ := A_ (Kd.R_below z7_4_ hb); have _ := A_ (Kept.below (S := (fun k_ => P0_ k_)) z7_2_ hb); have _ := A_ (below_step z7_1_ hb); clear HO_0 HK HB; rename_i HO_0 HK HB; (try clear hb); have p6 : 0 ≤ (x5_1 : Int) := of_decide_eq_true (by assumption); have q6 : (x5_1 : Int) < ((x0_1.length : Int) : Int) := of_decide_eq_true (by assumption); obtain ⟨go6, co6, eo6, gb6, gl6, cl6, HG6⟩ := Kd.R_form HO_0.out (by omega); (first | cases eo6 | (injection eo6 with ea_ en_ ec_; (first | subst ea_ | (injection ea_ with ea_; subst ea_)); subst ec_; clear en_)); have GB6 := A_ gb6; have GG6 := A_ HG6; clear gb6 gl6 HG6; have HMgo6 := A_ (show (P0_ go6 ∨ w.heap.size ≤ go6) from (HO_0.out.1 _ rfl)); obtain ⟨ce6, hcl6, hM6, hcc6, hfr6⟩ := Kd.R_elem HO_0.out z124 (x5_1 : Int) p6 q6; obtain rfl := k124_openM hM6; have hx6_0 : w10.cell? ⟨go6, (x5_1 : Int).toNat * 9, none⟩ = some (.string ((rd_T124 x0_1 x5_1).f0)) := hcc6 0 _ rfl; have hx6_1 : w10.cell? ⟨go6, (x5_1 : Int).toNat * 9 + 1, none⟩ = some (.int .i64 ((rd_T124 x0_1 x5_1).f1)) := hcc6 1 _ rfl; have hx6_2 : w10.cell? ⟨go6, (x5_1 : Int).toNat * 9 + 2, none⟩ = some (.bool ((rd_T124 x0_1 x5_1).f2.f0)) := hcc6 2 _ rfl; have hx6_3 : w10.cell? ⟨go6, (x5_1 : Int).toNat * 9 + 3, none⟩ = some (.int .u32 ((rd_T124 x0_1 x5_1).f2.f1.f0)) := hcc6 3 _ rfl; have hx6_4 : w10.cell? ⟨go6, (x5_1 : Int).toNat * 9 + 4, none⟩ = some (.int .u32 ((rd_T124 x0_1 x5_1).f2.f1.f1)) := hcc6 4 _ rfl; have hx6_5 : w10.cell? ⟨go6, (x5_1 : Int).toNat * 9 + 5, none⟩ = some (.int .u32 ((rd_T124 x0_1 x5_1).f2.f1.f2)) := hcc6 5 _ rfl; have hx6_6 : w10.cell? ⟨go6, (x5_1 : Int).toNat * 9 + 6, none⟩ = some (.int .u32 ((rd_T124 x0_1 x5_1).f2.f1.f3)) := hcc6 6 _ rfl; have hx6_7 : w10.cell? ⟨go6, (x5_1 : Int).toNat * 9 + 7, none⟩ = some (.int .u32 ((rd_T124 x0_1 x5_1).f2.f1.f4)) := hcc6 7 _ rfl; have hx6_8 : w10.cell? ⟨go6, (x5_1 : Int).toNat * 9 + 8, none⟩ = some (.int .u32 ((rd_T124 x0_1 x5_1).f2.f1.f5)) := hcc6 8 _ rfl; have hf6_0 : w10.frozen? ⟨go6, (x5_1 : Int).toNat * 9, none⟩ = false := hfr6 0; have hf6_1 : w10.frozen? ⟨go6, (x5_1 : Int).toNat * 9 + 1, none⟩ = false := hfr6 1; have hf6_2 : w10.frozen? ⟨go6, (x5_1 : Int).toNat * 9 + 2, none⟩ = false := hfr6 2; have hf6_3 : w10.frozen? ⟨go6, (x5_1 : Int).toNat * 9 + 3, none⟩ = false := hfr6 3; have hf6_4 : w10.frozen? ⟨go6, (x5_1 : Int).toNat * 9 + 4, none⟩ = false := hfr6 4; have hf6_5 : w10.frozen? ⟨go6, (x5_1 : Int).toNat * 9 + 5, none⟩ = false := hfr6 5; have hf6_6 : w10.frozen? ⟨go6, (x5_1 : Int).toNat * 9 + 6, none⟩ = false := hfr6 6; have hf6_7 : w10.frozen? ⟨go6, (x5_1 : Int).toNat * 9 + 7, none⟩ = false := hfr6 7; have hf6_8 : w10.frozen? ⟨go6, (x5_1 : Int).toNat * 9 + 8, none⟩ = false := hfr6 8; clear hcl6 hcc6 hfr6 hM6; replace p6 := eq_true p6; replace q6 := eq_true q6; have HX11 := A_ (show Kd.R k124 124 w10 w0.heap.size (fun k_ => (P0_ k_ ∨ w.heap.size ≤ k_)) (.slice (some ⟨go6, 0, none⟩) x0_1.length co9) x0_1 from z7_4_); obtain ⟨ce11, hcl11, hM11, hcc11, hfr11⟩ := Kd.R_elem HX11.out z124 (x5_1 : Int) (of_decide_eq_true (by assumption)) (by have h_ : (x5_1 : Int) < ((x0_1.length : Int) : Int) := of_decide_eq_true (by assumption); first | exact h_ | (have e_ := (Kd.R_reads' HO_0.out).1; omega) | simpa using h_); obtain rfl := k124_openM hM11; have HP11 := Kd.R_seg HX11.out (x5_1 : Int) (of_decide_eq_true (by assumption)) (by have h_ : (x5_1 : Int) < ((x0_1.length : Int) : Int) := of_decide_eq_true (by assumption); first | exact h_ | (have e_ := (Kd.R_reads' HO_0.out).1; omega) | simpa using h_) (seg := [.string t424]) (j := 0) hcl11 hcc11 (show 1 ≤ 9 from by decide) (x' := (⟨t424, (rd_T124 x0_1 x5_1).f1, (⟨(rd_T124 x0_1 x5_1).f2.f0, (⟨(rd_T124 x0_1 x5_1).f2.f1.f0, (rd_T124 x0_1 x5_1).f2.f1.f1, (rd_T124 x0_1 x5_1).f2.f1.f2, (rd_T124 x0_1 x5_1).f2.f1.f3, (rd_T124 x0_1 x5_1).f2.f1.f4, (rd_T124 x0_1 x5_1).f2.f1.f5⟩ : S116)⟩ : S122)⟩ : S124)) (k124_mkM _ _ _ (⟨t424, (rd_T124 x0_1 x5_1).f1, (⟨(rd_T124 x0_1 x5_1).f2.f0, (⟨(rd_T124 x0_1 x5_1).f2.f1.f0, (rd_T124 x0_1 x5_1).f2.f1.f1, (rd_T124 x0_1 x5_1).f2.f1.f2, (rd_T124 x0_1 x5_1).f2.f1.f3, (rd_T124 x0_1 x5_1).f2.f1.f4, (rd_T124 x0_1 x5_1).f2.f1.f5⟩ : S116)⟩ : S122)⟩ : S124) ) (fun _ hk => hk); have hx11_0 := hcc11 0 _ rfl; (try simp only [show (k124).sz = 9 from rfl, Nat.mul_one, Nat.add_zero] at hx11_0); have hf11_0 := hfr11 0; (try simp only [show (k124).sz = 9 from rfl, Nat.mul_one, Nat.add_zero] at hf11_0); clear hcl11 hcc11 hfr11 hM11) | ((with_reducible refine gate_store (t := 9) (p := 18) rfl ?_); refine store_event (t := 9) (p := 18) (v := ?vo_w12) (w1 := (w10.setCell ⟨go6, (x5_1 : Int).toNat * 9, none⟩ (.string t424))) ?hg ?ho ?hn ?hr ?_; (case ho => rfl); (case hg => rfl); (case hn => rfl); (case hr => first | (go_simp; done) | (go_simp; rfl)); intro w12 hw; have hg : w10.grownBy w12 (some go6) := (by rw [hw]; exact HP11.2); have hp_ : Kd.R k124 124 w12 w0.heap.size (fun k_ => (P0_ k_ ∨ w.heap.size ≤ k_)) (.slice (some ⟨go6, 0, none⟩) x0_1.length co9) y425 := (by rw [hw, Ny425.out]; exact HP11.1); clear HP11; have _ := A_ (hp_); have _ := A_ ((by rw [hw]; exact below_set (HB.out) GB6.out : Below w0.heap.size w0 w12)); have _ := A_ (Kept.of_grown (S := (fun k_ => P0_ k_)) hg z7_2_ (fun k_ e_ => (HO_0.out.1 k_ e_))); clear HO_0 HB HK; rename_i HO_0 HB HK; clear hg hw hp_; have p7 : 0 ≤ (x5_1 : Int) := of_decide_eq_true (by assumption); have q7 : (x5_1 : Int) < ((x0_1.length : Int) : Int) := of_decide_eq_true (by assumption); obtain ⟨ce7, hcl7, hM7, hcc7, hfr7⟩ := Kd.R_elem HO_0.out z124 (x5_1 : Int) p7 q7; obtain rfl := k124_openM hM7; have hx7_0 : w12.cell? ⟨go6, (x5_1 : Int).toNat * 9, none⟩ = some (.string ((rd_T124 y425 x5_1).f0)) := hcc7 0 _ rfl; have hx7_1 : w12.cell? ⟨go6, (x5_1 : Int).toNat * 9 + 1, none⟩ = some (.int .i64 ((rd_T124 y425 x5_1).f1)) := hcc7 1 _ rfl; have hx7_2 : w12.cell? ⟨go6, (x5_1 : Int).toNat * 9 + 2, none⟩ = some (.bool ((rd_T124 y425 x5_1).f2.f0)) := hcc7 2 _ rfl; have hx7_3 : w12.cell? ⟨go6, (x5_1 : Int).toNat * 9 + 3, none⟩ = some (.int .u32 ((rd_T124 y425 x5_1).f2.f1.f0)) := hcc7 3 _ rfl; have hx7_4 : w12.cell? ⟨go6, (x5_1 : Int).toNat * 9 + 4, none⟩ = some (.int .u32 ((rd_T124 y425 x5_1).f2.f1.f1)) := hcc7 4 _ rfl; have hx7_5 : w12.cell? ⟨go6, (x5_1 : Int).toNat * 9 + 5, none⟩ = some (.int .u32 ((rd_T124 y425 x5_1).f2.f1.f2)) := hcc7 5 _ rfl; have hx7_6 : w12.cell? ⟨go6, (x5_1 : Int).toNat * 9 + 6, none⟩ = some (.int .u32 ((rd_T124 y425 x5_1).f2.f1.f3)) := hcc7 6 _ rfl; have hx7_7 : w12.cell? ⟨go6, (x5_1 : Int).toNat * 9 + 7, none⟩ = some (.int .u32 ((rd_T124 y425 x5_1).f2.f1.f4)) := hcc7 7 _ rfl; have hx7_8 : w12.cell? ⟨go6, (x5_1 : Int).toNat * 9 + 8, none⟩ = some (.int .u32 ((rd_T124 y425 x5_1).f2.f1.f5)) := hcc7 8 _ rfl; have hf7_0 : w12.frozen? ⟨go6, (x5_1 : Int).toNat * 9, none⟩ = false := hfr7 0; have hf7_1 : w12.frozen? ⟨go6, (x5_1 : Int).toNat * 9 + 1, none⟩ = false := hfr7 1; have hf7_2 : w12.frozen? ⟨go6, (x5_1 : Int).toNat * 9 + 2, none⟩ = false := hfr7 2; have hf7_3 : w12.frozen? ⟨go6, (x5_1 : Int).toNat * 9 + 3, none⟩ = false := hfr7 3; have hf7_4 : w12.frozen? ⟨go6, (x5_1 : Int).toNat * 9 + 4, none⟩ = false := hfr7 4; have hf7_5 : w12.frozen? ⟨go6, (x5_1 : Int).toNat * 9 + 5, none⟩ = false := hfr7 5; have hf7_6 : w12.frozen? ⟨go6, (x5_1 : Int).toNat * 9 + 6, none⟩ = false := hfr7 6; have hf7_7 : w12.frozen? ⟨go6, (x5_1 : Int).toNat * 9 + 7, none⟩ = false := hfr7 7; have hf7_8 : w12.frozen? ⟨go6, (x5_1 : Int).toNat * 9 + 8, none⟩ = false := hfr7 8; clear hcl7 hcc7 hfr7 hM7; replace p7 := eq_true p7; replace q7 := eq_true q7; have HX13 := A_ (show Kd.R k124 124 w12 w0.heap.size (fun k_ => (P0_ k_ ∨ w.heap.size ≤ k_)) (.slice (some ⟨go6, 0, none⟩) x0_1.length co9) y425 from z7_4_); obtain ⟨ce13, hcl13, hM13, hcc13, hfr13⟩ := Kd.R_elem HX13.out z124 (x5_1 : Int) (of_decide_eq_true (by assumption)) (by have h_ : (x5_1 : Int) < ((x0_1.length : Int) : Int) := of_decide_eq_true (by assumption); first | exact h_ | (have e_ := (Kd.R_reads' HO_0.out).1; omega) | simpa using h_); obtain rfl := k124_openM hM13; have HP13 := Kd.R_seg HX13.out (x5_1 : Int) (of_decide_eq_true (by assumption)) (by have h_ : (x5_1 : Int) < ((x0_1.length : Int) : Int) := of_decide_eq_true (by assumption); first | exact h_ | (have e_ := (Kd.R_reads' HO_0.out).1; omega) | simpa using h_) (seg := [.int .i64 (wrap64 (x1_1 + 1))]) (j := 1) hcl13 hcc13 (show 2 ≤ 9 from by decide) (x' := (⟨(rd_T124 y425 x5_1).f0, wrap64 (x1_1 + 1), (⟨(rd_T124 y425 x5_1).f2.f0, (⟨(rd_T124 y425 x5_1).f2.f1.f0, (rd_T124 y425 x5_1).f2.f1.f1, (rd_T124 y425 x5_1).f2.f1.f2, (rd_T124 y425 x5_1).f2.f1.f3, (rd_T124 y425 x5_1).f2.f1.f4, (rd_T124 y425 x5_1).f2.f1.f5⟩ : S116)⟩ : S122)⟩ : S124)) (k124_mkM _ _ _ (⟨(rd_T124 y425 x5_1).f0, wrap64 (x1_1 + 1), (⟨(rd_T124 y425 x5_1).f2.f0, (⟨(rd_T124 y425 x5_1).f2.f1.f0, (rd_T124 y425 x5_1).f2.f1.f1, (rd_T124 y425 x5_1).f2.f1.f2, (rd_T124 y425 x5_1).f2.f1.f3, (rd_T124 y425 x5_1).f2.f1.f4, (rd_T124 y425 x5_1).f2.f1.f5⟩ : S116)⟩ : S122)⟩ : S124) ) (fun _ hk => hk); have hx13_1 := hcc13 1 _ rfl; (try simp only [show (k124).sz = 9 from rfl, Nat.mul_one, Nat.add_zero] at hx13_1); have hf13_1 := hfr13 1; (try simp only [show (k124).sz = 9 from rfl, Nat.mul_one, Nat.add_zero] at hf13_1); clear hcl13 hcc13 hfr13 hM13) | ((with_reducible refine gate_store (t := 2) (p := 25) rfl ?_); refine store_event (t := 2) (p := 25) (v := ?vo_w14) (w1 := (w12.setCell ⟨go6, (x5_1 : Int).toNat * 9 + 1, none⟩ (.int .i64 (wrap64 (x1_1 + 1))))) ?hg ?ho ?hn ?hr ?_; (case ho => rfl); (case hg => rfl); (case hn => rfl); (case hr => first | (go_simp; done) | (go_simp; rfl)); intro w14 hw; have hg : w12.grownBy w14 (some go6) := (by rw [hw]; exact HP13.2); have hp_ : Kd.R k124 124 w14 w0.heap.size (fun k_ => (P0_ k_ ∨ w.heap.size ≤ k_)) (.slice (some ⟨go6, 0, none⟩) x0_1.length co9) y426 := (by rw [hw, Ny426.out]; exact HP13.1); clear HP13; have _ := A_ (hp_); have _ := A_ ((by rw [hw]; exact below_set (HB.out) GB6.out : Below w0.heap.size w0 w14)); have _ := A_ (Kept.of_grown (S := (fun k_ => P0_ k_)) hg z7_2_ (fun k_ e_ => (HO_0.out.1 k_ e_))); clear HO_0 HB HK; rename_i HO_0 HB HK; clear hg hw hp_; have p8 : 0 ≤ (x5_1 : Int) := of_decide_eq_true (by assumption); have q8 : (x5_1 : Int) < ((x0_1.length : Int) : Int) := of_decide_eq_true (by assumption); obtain ⟨ce8, hcl8, hM8, hcc8, hfr8⟩ := Kd.R_elem HO_0.out z124 (x5_1 : Int) p8 q8; obtain rfl := k124_openM hM8; have hx8_0 : w14.cell? ⟨go6, (x5_1 : Int).toNat * 9, none⟩ = some (.string ((rd_T124 y426 x5_1).f0)) := hcc8 0 _ rfl; have hx8_1 : w14.cell? ⟨go6, (x5_1 : Int).toNat * 9 + 1, none⟩ = some (.int .i64 ((rd_T124 y426 x5_1).f1)) := hcc8 1 _ rfl; have hx8_2 : w14.cell? ⟨go6, (x5_1 : Int).toNat * 9 + 2, none⟩ = some (.bool ((rd_T124 y426 x5_1).f2.f0)) := hcc8 2 _ rfl; have hx8_3 : w14.cell? ⟨go6, (x5_1 : Int).toNat * 9 + 3, none⟩ = some (.int .u32 ((rd_T124 y426 x5_1).f2.f1.f0)) := hcc8 3 _ rfl; have hx8_4 : w14.cell? ⟨go6, (x5_1 : Int).toNat * 9 + 4, none⟩ = some (.int .u32 ((rd_T124 y426 x5_1).f2.f1.f1)) := hcc8 4 _ rfl; have hx8_5 : w14.cell? ⟨go6, (x5_1 : Int).toNat * 9 + 5, none⟩ = some (.int .u32 ((rd_T124 y426 x5_1).f2.f1.f2)) := hcc8 5 _ rfl; have hx8_6 : w14.cell? ⟨go6, (x5_1 : Int).toNat * 9 + 6, none⟩ = some (.int .u32 ((rd_T124 y426 x5_1).f2.f1.f3)) := hcc8 6 _ rfl; have hx8_7 : w14.cell? ⟨go6, (x5_1 : Int).toNat * 9 + 7, none⟩ = some (.int .u32 ((rd_T124 y426 x5_1).f2.f1.f4)) := hcc8 7 _ rfl; have hx8_8 : w14.cell? ⟨go6, (x5_1 : Int).toNat * 9 + 8, none⟩ = some (.int .u32 ((rd_T124 y426 x5_1).f2.f1.f5)) := hcc8 8 _ rfl; have hf8_0 : w14.frozen? ⟨go6, (x5_1 : Int).toNat * 9, none⟩ = false := hfr8 0; have hf8_1 : w14.frozen? ⟨go6, (x5_1 : Int).toNat * 9 + 1, none⟩ = false := hfr8 1; have hf8_2 : w14.frozen? ⟨go6, (x5_1 : Int).toNat * 9 + 2, none⟩ = false := hfr8 2; have hf8_3 : w14.frozen? ⟨go6, (x5_1 : Int).toNat * 9 + 3, none⟩ = false := hfr8 3; have hf8_4 : w14.frozen? ⟨go6, (x5_1 : Int).toNat * 9 + 4, none⟩ = false := hfr8 4; have hf8_5 : w14.frozen? ⟨go6, (x5_1 : Int).toNat * 9 + 5, none⟩ = false := hfr8 5; have hf8_6 : w14.frozen? ⟨go6, (x5_1 : Int).toNat * 9 + 6, none⟩ = false := hfr8 6; have hf8_7 : w14.frozen? ⟨go6, (x5_1 : Int).toNat * 9 + 7, none⟩ = false := hfr8 7; have hf8_8 : w14.frozen? ⟨go6, (x5_1 : Int).toNat * 9 + 8, none⟩ = false := hfr8 8; clear hcl8 hcc8 hfr8 hM8; replace p8 := eq_true p8; replace q8 := eq_true q8; have HX15 := A_ (show Kd.R k124 124 w14 w0.heap.size (fun k_ => (P0_ k_ ∨ w.heap.size ≤ k_)) (.slice (some ⟨go6, 0, none⟩) x0_1.length co9) y426 from z7_4_); obtain ⟨ce15, hcl15, hM15, hcc15, hfr15⟩ := Kd.R_elem HX15.out z124 (x5_1 : Int) (of_decide_eq_true (by assumption)) (by have h_ : (x5_1 : Int) < ((x0_1.length : Int) : Int) := of_decide_eq_true (by assumption); first | exact h_ | (have e_ := (Kd.R_reads' HO_0.out).1; omega) | simpa using h_); obtain rfl := k124_openM hM15; have HP15 := Kd.R_seg HX15.out (x5_1 : Int) (of_decide_eq_true (by assumption)) (by have h_ : (x5_1 : Int) < ((x0_1.length : Int) : Int) := of_decide_eq_true (by assumption); first | exact h_ | (have e_ := (Kd.R_reads' HO_0.out).1; omega) | simpa using h_) (seg := [.bool ((Int.tmod (wrap64 ((wrap64 (x1_1 + 1)) + 1)) 3) == 0)]) (j := 2) hcl15 hcc15 (show 3 ≤ 9 from by decide) (x' := (⟨(rd_T124 y426 x5_1).f0, (rd_T124 y426 x5_1).f1, (⟨((Int.tmod (wrap64 ((wrap64 (x1_1 + 1)) + 1)) 3) == 0), (⟨(rd_T124 y426 x5_1).f2.f1.f0, (rd_T124 y426 x5_1).f2.f1.f1, (rd_T124 y426 x5_1).f2.f1.f2, (rd_T124 y426 x5_1).f2.f1.f3, (rd_T124 y426 x5_1).f2.f1.f4, (rd_T124 y426 x5_1).f2.f1.f5⟩ : S116)⟩ : S122)⟩ : S124)) (k124_mkM _ _ _ (⟨(rd_T124 y426 x5_1).f0, (rd_T124 y426 x5_1).f1, (⟨((Int.tmod (wrap64 ((wrap64 (x1_1 + 1)) + 1)) 3) == 0), (⟨(rd_T124 y426 x5_1).f2.f1.f0, (rd_T124 y426 x5_1).f2.f1.f1, (rd_T124 y426 x5_1).f2.f1.f2, (rd_T124 y426 x5_1).f2.f1.f3, (rd_T124 y426 x5_1).f2.f1.f4, (rd_T124 y426 x5_1).f2.f1.f5⟩ : S116)⟩ : S122)⟩ : S124) ) (fun _ hk => hk); have hx15_2 := hcc15 2 _ rfl; (try simp only [show (k124).sz = 9 from rfl, Nat.mul_one, Nat.add_zero] at hx15_2); have hf15_2 := hfr15 2; (try simp only [show (k124).sz = 9 from rfl, Nat.mul_one, Nat.add_zero] at hf15_2); clear hcl15 hcc15 hfr15 hM15) | ((with_reducible refine gate_store (t := 4) (p := 35) rfl ?_); refine store_event (t := 4) (p := 35) (v := ?vo_w16) (w1 := (w14.setCell ⟨go6, (x5_1 : Int).toNat * 9 + 2, none⟩ (.bool ((Int.tmod (wrap64 ((wrap64 (x1_1 + 1)) + 1)) 3) == 0)))) ?hg ?ho ?hn ?hr ?_; (case ho => rfl); (case hg => rfl); (case hn => rfl); (case hr => first | (go_simp; done) | (go_simp; rfl)); intro w16 hw; have hg : w14.grownBy w16 (some go6) := (by rw [hw]; exact HP15.2); have hp_ : Kd.R k124 124 w16 w0.heap.size (fun k_ => (P0_ k_ ∨ w.heap.size ≤ k_)) (.slice (some ⟨go6, 0, none⟩) x0_1.length co9) y427 := (by rw [hw, Ny427.out]; exact HP15.1); clear HP15; have _ := A_ (hp_); have _ := A_ ((by rw [hw]; exact below_set (HB.out) GB6.out : Below w0.heap.size w0 w16)); have _ := A_ (Kept.of_grown (S := (fun k_ => P0_ k_)) hg z7_2_ (fun k_ e_ => (HO_0.out.1 k_ e_))); clear HO_0 HB HK; rename_i HO_0 HB HK; clear hg hw hp_))
     go_loopg [1, 6] k1 (fun kq v1 v6 w' => ∃ (x0_2 : List (S124)) (x1_2 : Int) (x6_2 : Int), v1 = .int .i64 x1_2 ∧ v6 = .int .i64 x6_2 ∧ Aside0 (laws_markKeptS.l1 kq x0_2 x1_2 x5_1 x6_2 = some (r1, r2)) ∧ Aside0 (kq ≤ k1) ∧ Aside0 (Kd.R k124 124 w' w0.heap.size (fun k_ => (P0_ k_ ∨ w.heap.size ≤ k_)) (.slice (some ⟨go6, 0, none⟩) x0_1.length co9) x0_2) ∧ Aside0 (Kept w w' (fun k_ => P0_ k_)) ∧ Aside0 (Below w0.heap.size w0 w'))
     case atStart => exact ⟨(y427), (wrap64 ((wrap64 ((wrap64 (x1_1 + 1)) + 1)) + 1)), (0), z7_3_, z7_3_, H', ⟨Nat.le_refl _⟩, ⟨z7_4_⟩, ⟨z7_2_⟩, ⟨z7_1_⟩⟩
     case round =>
      clear H'
      try clear c1
      try clear hx1
      try clear p2
      try clear c3
      try clear c3b0
      try clear c5
      try clear c5b0
      try clear c6
      try clear p6
      try clear q6
      try clear hx6
      try clear hf6
      try clear c7
      try clear p7
      try clear q7
      try clear hx7
      try clear hf7
      try clear c8
      try clear p8
      try clear q8
      try clear hx8
      try clear hf8
      try clear c11
      try clear hx11
      try clear hf11
      try clear c13
      try clear hx13
      try clear hf13
      try clear c15
      try clear hx15
      try clear hf15
      try clear hx11_0
      try clear hx13_1
      try clear hx15_2
      try clear hx6_0
      try clear hx6_1
      try clear hx6_2
      try clear hx6_3
      try clear hx6_4
      try clear hx6_5
      try clear hx6_6
      try clear hx6_7
      try clear hx6_8
      try clear hx7_0
      try clear hx7_1
      try clear hx7_2
      try clear hx7_3
      try clear hx7_4
      try clear hx7_5
      try clear hx7_6
      try clear hx7_7
      try clear hx7_8
      try clear hx8_0
      try clear hx8_1
      try clear hx8_2
      try clear hx8_3
      try clear hx8_4
      try clear hx8_5
      try clear hx8_6
      try clear hx8_7
      try clear hx8_8
      try clear p2
      try clear p6
      try clear p7
      try clear p8
      try clear q6
      try clear q7
      try clear q8
      obtain ⟨x0_2, x1_2, x6_2, rfl, rfl, HA, HK2, HO_0, HK, HB⟩ := hrel
      have hl0_2 := (Kd.R_reads' HO_0.out).1
      rw [hl0_2] at HO_0
      (try simp only [hl0_2])
      cases gk with
      | zero => exact absurd HA.out (by simp [laws_markKeptS.l1])
      | succ k2 =>
       have H := HA.out
       clear HA
       simp only [laws_markKeptS.l1] at H
       by_cases c17 : x6_2 < 6
       ·
        rw [if_pos c17] at H
        have c17b0 := decide_eq_true c17
        clear c17
        by_cases c18 : 0 ≤ x5_1
        ·
         rw [if_pos c18] at H
         have c18b0 := decide_eq_true c18
         clear c18
         by_cases c19 : x5_1 < (x0_2.length : Int)
         ·
          rw [if_pos c19] at H
          have c19b0 := decide_eq_true c19
          clear c19
          by_cases c21 : 0 ≤ x6_2
          ·
           rw [if_pos c21] at H
           have c21b0 := decide_eq_true c21
           clear c21
           obtain ⟨y429, hy429⟩ : ∃ y_ : List (S124), y_ = (x0_2.set (x5_1 : Int).toNat (⟨(rd_T124 x0_2 x5_1).f0, (rd_T124 x0_2 x5_1).f1, (⟨(rd_T124 x0_2 x5_1).f2.f0, (⟨(up 0 x6_2 ((x1_2) % 4294967296) ((rd_T124 x0_2 x5_1).f2.f1.f0)), (up 1 x6_2 ((x1_2) % 4294967296) ((rd_T124 x0_2 x5_1).f2.f1.f1)), (up 2 x6_2 ((x1_2) % 4294967296) ((rd_T124 x0_2 x5_1).f2.f1.f2)), (up 3 x6_2 ((x1_2) % 4294967296) ((rd_T124 x0_2 x5_1).f2.f1.f3)), (up 4 x6_2 ((x1_2) % 4294967296) ((rd_T124 x0_2 x5_1).f2.f1.f4)), (up 5 x6_2 ((x1_2) % 4294967296) ((rd_T124 x0_2 x5_1).f2.f1.f5))⟩ : S116)⟩ : S122)⟩ : S124)) := ⟨_, rfl⟩
           replace H : (laws_markKeptS.l1 k2 y429 (wrap64 (x1_2 + 1)) x5_1 (wrap64 (x6_2 + 1))) = some (r1, r2) := by first | (rw [hy429]; with_reducible exact H) | (have H2_ := (Option.bind_some _ _).symm.trans H; rw [hy429]; with_reducible exact H2_) | (have H2_ := (Option.bind_some _ _).symm.trans H; with_reducible exact H2_) | with_reducible exact H | (rw [hy429]; exact H) | exact H
           have Ny429 := A_ hy429
           clear hy429
           have H' := A_ H
           clear H
           have p20 : 0 ≤ (x5_1 : Int) := of_decide_eq_true (by assumption)
           have q20 : (x5_1 : Int) < ((x0_2.length : Int) : Int) := of_decide_eq_true (by assumption)
           obtain ⟨ce20, hcl20, hM20, hcc20, hfr20⟩ := Kd.R_elem HO_0.out z124 (x5_1 : Int) p20 q20
           obtain rfl := k124_openM hM20
           have hx20_0 : wr.cell? ⟨go6, (x5_1 : Int).toNat * 9, none⟩ = some (.string ((rd_T124 x0_2 x5_1).f0)) := hcc20 0 _ rfl
           have hx20_1 : wr.cell? ⟨go6, (x5_1 : Int).toNat * 9 + 1, none⟩ = some (.int .i64 ((rd_T124 x0_2 x5_1).f1)) := hcc20 1 _ rfl
           have hx20_2 : wr.cell? ⟨go6, (x5_1 : Int).toNat * 9 + 2, none⟩ = some (.bool ((rd_T124 x0_2 x5_1).f2.f0)) := hcc20 2 _ rfl
           have hx20_3 : wr.cell? ⟨go6, (x5_1 : Int).toNat * 9 + 3, none⟩ = some (.int .u32 ((rd_T124 x0_2 x5_1).f2.f1.f0)) := hcc20 3 _ rfl
           have hx20_4 : wr.cell? ⟨go6, (x5_1 : Int).toNat * 9 + 4, none⟩ = some (.int .u32 ((rd_T124 x0_2 x5_1).f2.f1.f1)) := hcc20 4 _ rfl
           have hx20_5 : wr.cell? ⟨go6, (x5_1 : Int).toNat * 9 + 5, none⟩ = some (.int .u32 ((rd_T124 x0_2 x5_1).f2.f1.f2)) := hcc20 5 _ rfl
           have hx20_6 : wr.cell? ⟨go6, (x5_1 : Int).toNat * 9 + 6, none⟩ = some (.int .u32 ((rd_T124 x0_2 x5_1).f2.f1.f3)) := hcc20 6 _ rfl
           have hx20_7 : wr.cell? ⟨go6, (x5_1 : Int).toNat * 9 + 7, none⟩ = some (.int .u32 ((rd_T124 x0_2 x5_1).f2.f1.f4)) := hcc20 7 _ rfl
           have hx20_8 : wr.cell? ⟨go6, (x5_1 : Int).toNat * 9 + 8, none⟩ = some (.int .u32 ((rd_T124 x0_2 x5_1).f2.f1.f5)) := hcc20 8 _ rfl
           have hf20_0 : wr.frozen? ⟨go6, (x5_1 : Int).toNat * 9, none⟩ = false := hfr20 0
           have hf20_1 : wr.frozen? ⟨go6, (x5_1 : Int).toNat * 9 + 1, none⟩ = false := hfr20 1
           have hf20_2 : wr.frozen? ⟨go6, (x5_1 : Int).toNat * 9 + 2, none⟩ = false := hfr20 2
           have hf20_3 : wr.frozen? ⟨go6, (x5_1 : Int).toNat * 9 + 3, none⟩ = false := hfr20 3
           have hf20_4 : wr.frozen? ⟨go6, (x5_1 : Int).toNat * 9 + 4, none⟩ = false := hfr20 4
           have hf20_5 : wr.frozen? ⟨go6, (x5_1 : Int).toNat * 9 + 5, none⟩ = false := hfr20 5
           have hf20_6 : wr.frozen? ⟨go6, (x5_1 : Int).toNat * 9 + 6, none⟩ = false := hfr20 6
           have hf20_7 : wr.frozen? ⟨go6, (x5_1 : Int).toNat * 9 + 7, none⟩ = false := hfr20 7
           have hf20_8 : wr.frozen? ⟨go6, (x5_1 : Int).toNat * 9 + 8, none⟩ = false := hfr20 8
           clear hcl20 hcc20 hfr20 hM20
           replace p20 := eq_true p20
           replace q20 := eq_true q20
           have p428 : 0 ≤ (x6_2 : Int) := of_decide_eq_true (by assumption)
           have q428 : (x6_2 : Int) < 6 := of_decide_eq_true (by assumption)
           have hcs428 := A_ (show (x6_2 : Int) = 0 ∨ (x6_2 : Int) = 1 ∨ (x6_2 : Int) = 2 ∨ (x6_2 : Int) = 3 ∨ (x6_2 : Int) = 4 ∨ (x6_2 : Int) = 5 by omega)
           replace p428 := eq_true p428
           replace q428 := eq_true q428
           have HX22 := A_ (show Kd.R k124 124 wr w0.heap.size (fun k_ => (P0_ k_ ∨ w.heap.size ≤ k_)) (.slice (some ⟨go6, 0, none⟩) x0_2.length co9) x0_2 from z7_4_)
           obtain ⟨ce22, hcl22, hM22, hcc22, hfr22⟩ := Kd.R_elem HX22.out z124 (x5_1 : Int) (of_decide_eq_true (by assumption)) (by have h_ : (x5_1 : Int) < ((x0_2.length : Int) : Int) := of_decide_eq_true (by assumption); first | exact h_ | (have e_ := (Kd.R_reads' HO_0.out).1; omega) | simpa using h_)
           obtain rfl := k124_openM hM22
           have HP22 := Kd.R_seg HX22.out (x5_1 : Int) (of_decide_eq_true (by assumption)) (by have h_ : (x5_1 : Int) < ((x0_2.length : Int) : Int) := of_decide_eq_true (by assumption); first | exact h_ | (have e_ := (Kd.R_reads' HO_0.out).1; omega) | simpa using h_) (seg := [.int .u32 ((x1_2) % 4294967296)]) (j := 3 + (x6_2 : Int).toNat) hcl22 hcc22 (show 3 + (x6_2 : Int).toNat + 1 ≤ 9 from by have h_ := of_eq_true q428; omega) (x' := (⟨(rd_T124 x0_2 x5_1).f0, (rd_T124 x0_2 x5_1).f1, (⟨(rd_T124 x0_2 x5_1).f2.f0, (⟨(up 0 x6_2 ((x1_2) % 4294967296) ((rd_T124 x0_2 x5_1).f2.f1.f0)), (up 1 x6_2 ((x1_2) % 4294967296) ((rd_T124 x0_2 x5_1).f2.f1.f1)), (up 2 x6_2 ((x1_2) % 4294967296) ((rd_T124 x0_2 x5_1).f2.f1.f2)), (up 3 x6_2 ((x1_2) % 4294967296) ((rd_T124 x0_2 x5_1).f2.f1.f3)), (up 4 x6_2 ((x1_2) % 4294967296) ((rd_T124 x0_2 x5_1).f2.f1.f4)), (up 5 x6_2 ((x1_2) % 4294967296) ((rd_T124 x0_2 x5_1).f2.f1.f5))⟩ : S116)⟩ : S122)⟩ : S124)) (by rcases hcs428.out with h_ | h_ | h_ | h_ | h_ | h_ <;> rw [h_] <;> exact (k124_mkM _ _ _ _ )) (fun _ hk => hk)
           have hx22_0 : wr.cell? ⟨go6, (x5_1 : Int).toNat * 9 + 3 + (x6_2 : Int).toNat, none⟩ = some (.int .u32 (rd [(rd_T124 x0_2 x5_1).f2.f1.f0, (rd_T124 x0_2 x5_1).f2.f1.f1, (rd_T124 x0_2 x5_1).f2.f1.f2, (rd_T124 x0_2 x5_1).f2.f1.f3, (rd_T124 x0_2 x5_1).f2.f1.f4, (rd_T124 x0_2 x5_1).f2.f1.f5] x6_2)) := cell_arr6 (hcc22 3 _ rfl) (hcc22 4 _ rfl) (hcc22 5 _ rfl) (hcc22 6 _ rfl) (hcc22 7 _ rfl) (hcc22 8 _ rfl) x6_2 (of_eq_true p428) (of_eq_true q428)
           have hf22_0 : wr.frozen? ⟨go6, (x5_1 : Int).toNat * 9 + 3 + (x6_2 : Int).toNat, none⟩ = false := (by have h_ := hfr22 (3 + (x6_2 : Int).toNat); rw [← Nat.add_assoc] at h_; exact h_)
           (try rw [← Nat.add_assoc] at HP22)
           clear hcl22 hcc22 hfr22 hM22
           go_wp2_with (first | ((with_reducible refine gate_store (t := 115) (p := 50) rfl ?_); refine store_event (t := 115) (p := 50) (v := ?vo_w23) (w1 := (wr.setCell ⟨go6, (x5_1 : Int).toNat * 9 + 3 + (x6_2 : Int).toNat, none⟩ (.int .u32 ((x1_2) % 4294967296)))) ?hg ?ho ?hn ?hr ?_; (case ho => rfl); (case hg => rfl); (case hn => rfl); (case hr => first | (go_simp; done) | (go_simp; rfl)); intro w23 hw; have hg : wr.grownBy w23 (some go6) := (by rw [hw]; exact HP22.2); have hp_ : Kd.R k124 124 w23 w0.heap.size (fun k_ => (P0_ k_ ∨ w.heap.size ≤ k_)) (.slice (some ⟨go6, 0, none⟩) x0_2.length co9) y429 := (by rw [hw, Ny429.out]; exact HP22.1); clear HP22; have _ := A_ (hp_); have _ := A_ ((by rw [hw]; exact below_set (HB.out) GB6.out : Below w0.heap.size w0 w23)); have _ := A_ (Kept.of_grown (S := (fun k_ => P0_ k_)) hg z7_2_ (fun k_ e_ => (HO_0.out.1 k_ e_))); clear HO_0 HB HK; rename_i HO_0 HB HK; clear hg hw hp_))
           (try simp only [← hl0_2])
           go_roundg k2
           case measure => have := HK1.out; have := HK2.out; omega
           case rel => exact ⟨(y429), (wrap64 (x1_2 + 1)), (wrap64 (x6_2 + 1)), z7_3_, z7_3_, H', ⟨z7_8_⟩, ⟨z7_7_⟩, ⟨z7_2_⟩, ⟨z7_1_⟩⟩
          ·
           rw [if_neg c21] at H
           exact absurd H (by simp)
         ·
          rw [if_neg c19] at H
          exact absurd H (by simp)
        ·
         rw [if_neg c18] at H
         exact absurd H (by simp)
       ·
        rw [if_neg c17] at H
        have c17b0 := decide_eq_false c17
        clear c17
        have H' := A_ H
        clear H
        go_wp2
        (try simp only [← hl0_2])
        go_roundg k2
        case measure => have := HK1.out; have := HK2.out; omega
        case rel => exact ⟨(x0_2), (x1_2), (wrap64 (x5_1 + 1)), z7_3_, z7_3_, H', ⟨z7_8_⟩, ⟨z7_7_⟩, ⟨z7_2_⟩, ⟨z7_1_⟩⟩
    ·
     rw [if_neg c5] at H
     exact absurd H (by simp)
   ·
    rw [if_neg c3] at H
    have c3b0 := decide_eq_false c3
    clear c3
    simp only [Option.some.injEq, Prod.mk.injEq] at H
    obtain ⟨rfl, rfl⟩ := H
    obtain ⟨Ao24, co24, eo24⟩ := Kd.R_slice HO_0.out
    subst eo24
    go_wp2
    go_ret
    exact ⟨z7_5_, z7_4_, z7_1_, z7_2_⟩
/-! ### laws_heldKeptS: function 61 -/
mutual
def laws_heldKeptS.l0 : Nat → List (S124) → Int → Int → Option (Int)
 | 0, _, _, _ => none
 | k + 1, x0, x1, x5 => if x5 < (x0.length : Int) then (if 0 ≤ x5 then ((laws_markText.f k x1).bind fun t431 => (if ((rd_T124 x0 x5).f0).toList = t431.toList then (if ((rd_T124 x0 x5).f1) = (wrap64 (x1 + 1)) then (if (((rd_T124 x0 x5).f2.f0) != ((Int.tmod (wrap64 ((wrap64 (x1 + 1)) + 1)) 3) == 0)) = true then (some (-1)) else (laws_heldKeptS.l1 k x0 (wrap64 ((wrap64 ((wrap64 (x1 + 1)) + 1)) + 1)) x5 0)) else (some (-1))) else (some (-1)))) else (none)) else (some x1)
def laws_heldKeptS.l1 : Nat → List (S124) → Int → Int → Int → Option (Int)
 | 0, _, _, _, _ => none
 | k + 1, x0, x1, x5, x6 => if x6 < 6 then (if 0 ≤ x5 then (if x5 < (x0.length : Int) then (if 0 ≤ x6 then (if (rd [(rd_T124 x0 x5).f2.f1.f0, (rd_T124 x0 x5).f2.f1.f1, (rd_T124 x0 x5).f2.f1.f2, (rd_T124 x0 x5).f2.f1.f3, (rd_T124 x0 x5).f2.f1.f4, (rd_T124 x0 x5).f2.f1.f5] x6) = ((x1) % 4294967296) then (laws_heldKeptS.l1 k x0 (wrap64 (x1 + 1)) x5 (wrap64 (x6 + 1))) else (some (-1))) else (none)) else (none)) else (none)) else (laws_heldKeptS.l0 k x0 x1 (wrap64 (x5 + 1)))
end
def laws_heldKeptS.f (k : Nat) (l0 : List (S124)) (a1 : Int) : Option (Int) := laws_heldKeptS.l0 k l0 a1 0
theorem laws_heldKeptS.mono_l : ∀ k, (∀ y0 y1 y2, LeO (laws_heldKeptS.l0 k y0 y1 y2) (laws_heldKeptS.l0 (k + 1) y0 y1 y2)) ∧ (∀ y0 y1 y2 y3, LeO (laws_heldKeptS.l1 k y0 y1 y2 y3) (laws_heldKeptS.l1 (k + 1) y0 y1 y2 y3))
 | 0 => ⟨fun _ _ _ r h => by simp [laws_heldKeptS.l0] at h, fun _ _ _ _ r h => by simp [laws_heldKeptS.l1] at h⟩
 | k + 1 => by
  obtain ⟨ih0, ih1⟩ := laws_heldKeptS.mono_l k
  refine ⟨?_, ?_⟩
  ·
   intro y0 y1 y2
   unfold laws_heldKeptS.l0
   repeat' first
   | (with_reducible exact ih0 _ _ _)
   | (with_reducible exact ih1 _ _ _ _)
   | (with_reducible exact laws_markText.mono _ _)
   | (with_reducible exact LeO.refl _)
   | (with_reducible exact LeO.none _)
   | (with_reducible refine LeO.ite ?_ ?_)
   | (with_reducible refine LeO.bind ?_ (fun _ => ?_))
   | exact ih0 _ _ _
   | exact ih1 _ _ _ _
   | exact LeO.none _
   | refine LeO.ite ?_ ?_
   | refine LeO.bind ?_ (fun _ => ?_)
  ·
   intro y0 y1 y2 y3
   unfold laws_heldKeptS.l1
   repeat' first
   | (with_reducible exact ih0 _ _ _)
   | (with_reducible exact ih1 _ _ _ _)
   | (with_reducible exact laws_markText.mono _ _)
   | (with_reducible exact LeO.refl _)
   | (with_reducible exact LeO.none _)
   | (with_reducible refine LeO.ite ?_ ?_)
   | (with_reducible refine LeO.bind ?_ (fun _ => ?_))
   | exact ih0 _ _ _
   | exact ih1 _ _ _ _
   | exact LeO.none _
   | refine LeO.ite ?_ ?_
   | refine LeO.bind ?_ (fun _ => ?_)
theorem laws_heldKeptS.mono : ∀ a0 a1 k, LeO (laws_heldKeptS.f k a0 a1) (laws_heldKeptS.f (k + 1) a0 a1) := by
 intro a0 a1 k
 obtain ⟨ih0, ih1⟩ := laws_heldKeptS.mono_l k
 unfold laws_heldKeptS.f
 repeat' first
   | (with_reducible exact ih0 _ _ _)
   | (with_reducible exact ih1 _ _ _ _)
   | (with_reducible exact laws_markText.mono _ _)
   | (with_reducible exact LeO.refl _)
   | (with_reducible exact LeO.none _)
   | (with_reducible refine LeO.ite ?_ ?_)
   | (with_reducible refine LeO.bind ?_ (fun _ => ?_))
   | exact ih0 _ _ _
   | exact ih1 _ _ _ _
   | exact LeO.none _
   | refine LeO.ite ?_ ?_
   | refine LeO.bind ?_ (fun _ => ?_)
def laws_heldKeptS.T4 : Bool × List (List Nat × List Nat) := (true, [([], []), ([], []), ([0, 1], [0, 1]), ([2], [2]), ([3], [3]), ([], []), ([5], [5]), ([4, 6], [4, 6])])
def laws_heldKeptS.B4 : List Nat := [0, 0, 3, 7, 15, 0, 32, 127]
theorem laws_heldKeptS.tab4 : rtab .any (opsOf Try.f61 4) = laws_heldKeptS.T4 := by kernel_rfl
theorem laws_heldKeptS.bits4 : waitsOk laws_heldKeptS.T4.2 laws_heldKeptS.B4 = true := by kernel_rfl
set_option maxHeartbeats 8000000 in
set_option maxRecDepth 100000 in
theorem laws_heldKeptS.calls (k : Nat) (A0 : Option Addr) (c0 : Nat) (l0 : List (S124)) (a1 : Int) (r : Int) (w : World) (hr0 : Kd.C k124 w A0 l0.length l0) (hc0 : l0.length ≤ c0) (h : laws_heldKeptS.f k l0 a1 = some r) :
  Calls Try.prog 61 #[.slice A0 l0.length c0, .int .i64 a1] w fun e w' => e = .returned (.int .i64 r) ∧ Below w.heap.size w w' := by
 have HR0 := A_ hr0
 have HC0 := A_ hc0
 clear hr0 hc0
 have HB := A_ (Below.refl w.heap.size w)
 have H : (laws_heldKeptS.l0 k l0 a1 0) = some r := h
 clear h
 have H' := A_ H
 clear H
 go_enter Try.func61, Try.ntmps61
 go_wp2
 go_loopg [1, 5] k (fun kq v1 v5 w' => ∃ (x1_1 : Int) (x5_1 : Int), v1 = .int .i64 x1_1 ∧ v5 = .int .i64 x5_1 ∧ Aside0 (laws_heldKeptS.l0 kq l0 x1_1 x5_1 = some r) ∧ Aside0 (kq ≤ k) ∧ Aside0 (Below w.heap.size w w'))
 case atStart => exact ⟨(a1), (0), z7_3_, z7_3_, H', ⟨Nat.le_refl _⟩, ⟨z7_1_⟩⟩
 case round =>
  clear H'
  try clear p2
  obtain ⟨x1_1, x5_1, rfl, rfl, HA, HK1, HB⟩ := hrel
  cases gk with
  | zero => exact absurd HA.out (by simp [laws_heldKeptS.l0])
  | succ k1 =>
   have H := HA.out
   clear HA
   simp only [laws_heldKeptS.l0] at H
   by_cases c3 : x5_1 < (l0.length : Int)
   ·
    rw [if_pos c3] at H
    have c3b0 := decide_eq_true c3
    clear c3
    by_cases c4 : 0 ≤ x5_1
    ·
     rw [if_pos c4] at H
     have c4b0 := decide_eq_true c4
     clear c4
     replace H := Option.bind_eq_some_iff.mp H
     obtain ⟨t431, A50, H⟩ := H
     try dsimp only at H
     have A5 := A_ A50
     clear A50
     have HZ_ := A_ H
     clear H
     try go_wp2
     have _ := A_ (below_drew1 HB.out)
     clear HB
     rename_i HB
     have p430 : 0 ≤ (x5_1 : Int) := of_decide_eq_true (by assumption)
     have q430 : x5_1 < (l0.length : Int) := of_decide_eq_true (by assumption)
     obtain ⟨ad430, e430, hx430_0, hx430_1, hx430_2, hx430_3, hx430_4, hx430_5, hx430_6, hx430_7, hx430_8⟩ := at_T124 HR0.out x5_1 p430 q430
     have hw430_8 := hx430_8
     have hw430_7 := hx430_7
     have hw430_6 := hx430_6
     have hw430_5 := hx430_5
     have hw430_4 := hx430_4
     have hw430_3 := hx430_3
     have hw430_2 := hx430_2
     have hw430_1 := hx430_1
     have hw430_0 := hx430_0
     cases e430
     replace hx430_0 := cel HB.out hx430_0
     replace hx430_1 := cel HB.out hx430_1
     replace hx430_2 := cel HB.out hx430_2
     replace hx430_3 := cel HB.out hx430_3
     replace hx430_4 := cel HB.out hx430_4
     replace hx430_5 := cel HB.out hx430_5
     replace hx430_6 := cel HB.out hx430_6
     replace hx430_7 := cel HB.out hx430_7
     replace hx430_8 := cel HB.out hx430_8
     replace p430 := eq_true p430
     replace q430 := eq_true q430
     refine start_ (n := 8) (S := fun w' => w'.cell? (ad430.add ((x5_1).toNat * 9)) = some (.string ((rd_T124 l0 x5_1).f0)) ∧ w'.cell? ⟨(ad430.add ((x5_1).toNat * 9)).block, (ad430.add ((x5_1).toNat * 9)).off + 1, none⟩ = some (.int .i64 ((rd_T124 l0 x5_1).f1)) ∧ w'.cell? ⟨(ad430.add ((x5_1).toNat * 9)).block, (ad430.add ((x5_1).toNat * 9)).off + 2, none⟩ = some (.bool ((rd_T124 l0 x5_1).f2.f0)) ∧ w'.cell? ⟨(ad430.add ((x5_1).toNat * 9)).block, (ad430.add ((x5_1).toNat * 9)).off + 3, none⟩ = some (.int .u32 ((rd_T124 l0 x5_1).f2.f1.f0)) ∧ w'.cell? ⟨(ad430.add ((x5_1).toNat * 9)).block, (ad430.add ((x5_1).toNat * 9)).off + 4, none⟩ = some (.int .u32 ((rd_T124 l0 x5_1).f2.f1.f1)) ∧ w'.cell? ⟨(ad430.add ((x5_1).toNat * 9)).block, (ad430.add ((x5_1).toNat * 9)).off + 5, none⟩ = some (.int .u32 ((rd_T124 l0 x5_1).f2.f1.f2)) ∧ w'.cell? ⟨(ad430.add ((x5_1).toNat * 9)).block, (ad430.add ((x5_1).toNat * 9)).off + 6, none⟩ = some (.int .u32 ((rd_T124 l0 x5_1).f2.f1.f3)) ∧ w'.cell? ⟨(ad430.add ((x5_1).toNat * 9)).block, (ad430.add ((x5_1).toNat * 9)).off + 7, none⟩ = some (.int .u32 ((rd_T124 l0 x5_1).f2.f1.f4)) ∧ w'.cell? ⟨(ad430.add ((x5_1).toNat * 9)).block, (ad430.add ((x5_1).toNat * 9)).off + 8, none⟩ = some (.int .u32 ((rd_T124 l0 x5_1).f2.f1.f5))) (ds := []) #[false, false, false, false, false, false, false, false] (by kernel_rfl) rfl rfl ⟨(cel HB.out hw430_0), (cel HB.out hw430_1), (cel HB.out hw430_2), (cel HB.out hw430_3), (cel HB.out hw430_4), (cel HB.out hw430_5), (cel HB.out hw430_6), (cel HB.out hw430_7), (cel HB.out hw430_8)⟩ (fun hHeld => ?_); refine with_tabW laws_heldKeptS.tab4 laws_heldKeptS.bits4 (fun HT_ HW_ => ?_)
     generalize wr.drew = w9 at HB hx430_0 hx430_1 hx430_2 hx430_3 hx430_4 hx430_5 hx430_6 hx430_7 hx430_8 hHeld ⊢
     refine pure_ (i := 0) (N := some 13) (v := ?_) (a' := ?_) #[true, false, false, false, false, false, false, false] rfl rfl (any_of HT_.out (by kernel_rfl)) (fun _ _ _ h => h) (Or.inl ⟨by rfl, ?_⟩) ?_ ?_
     rotate_left
     ·
      intro w'
      go_simp
      with_reducible rfl
     rotate_left
     ·
      simp only [Act.put, sA_, sB_, sC_, i64_w, i32_w]
      rfl
     refine pure_ (i := 1) (N := some 14) (v := ?_) (a' := ?_) #[true, true, false, false, false, false, false, false] rfl rfl (any_of HT_.out (by kernel_rfl)) (fun _ _ _ h => h) (Or.inl ⟨by rfl, ?_⟩) ?_ ?_
     rotate_left
     ·
      intro w'
      go_simp
      with_reducible rfl
     rotate_left
     ·
      simp only [Act.put, sA_, sB_, sC_, i64_w, i32_w]
      rfl
     refine pure_ (i := 2) (N := some 15) (v := ?_) (a' := ?_) #[true, true, true, false, false, false, false, false] rfl rfl (any_of HT_.out (by kernel_rfl)) (fun _ _ _ h => h) (Or.inl ⟨by rfl, ?_⟩) ?_ ?_
     rotate_left
     ·
      intro w'
      go_simp
      with_reducible rfl
     rotate_left
     ·
      simp only [Act.put, sA_, sB_, sC_, i64_w, i32_w]
      rfl
     refine pure_ (i := 3) (N := some 16) (v := ?_) (a' := ?_) #[true, true, true, true, false, false, false, false] rfl rfl (any_of HT_.out (by kernel_rfl)) (fun _ _ _ h => h) (Or.inl ⟨by rfl, ?_⟩) ?_ ?_
     rotate_left
     ·
      intro w'
      go_simp
      with_reducible rfl
     rotate_left
     ·
      simp only [Act.put, sA_, sB_, sC_, i64_w, i32_w]
      rfl
     refine pure_ (i := 5) (N := some 18) (v := ?_) (a' := ?_) #[true, true, true, true, false, true, false, false] rfl rfl (any_of HT_.out (by kernel_rfl)) (fun _ _ _ h => h) (Or.inl ⟨by rfl, ?_⟩) ?_ ?_
     rotate_left
     ·
      intro w'
      go_simp
      with_reducible rfl
     rotate_left
     ·
      simp only [Act.put, sA_, sB_, sC_, i64_w, i32_w]
      rfl
     refine take_ (i := 4) (N := some 17) (v := ?_) (a' := ?_) #[true, true, true, true, true, true, false, false] rfl rfl (take_ofW HT_.out HW_.out (by kernel_rfl)) (fun _ _ _ h => h) (Or.inl ⟨by rfl, ?_⟩) hHeld ?_ ?_
     rotate_left
     ·
      rintro w' ⟨s0, s1, s2, s3, s4, s5, s6, s7, s8⟩
      go_simp
      with_reducible rfl
     rotate_left
     ·
      simp only [Act.put, sA_, sB_, sC_, i64_w, i32_w]
      rfl
     refine one_ (i := 6) (N := some 19) #[true, true, true, true, true, true, true, false] rfl rfl (one_of HT_.out (by kernel_rfl)) (by decide) (fun K hK => ?_)
     refine goes_ Try.func76 (by kernel_rfl) rfl #[.int .i64 x1_1] (by rfl) rfl rfl z7_6_ ?_
     with_reducible refine (laws_markText.calls k1 x1_1 t431 _ A5.out).mono ?_
     rintro e w10 ⟨rfl, hb⟩
     refine ⟨_, rfl, ?_⟩
     have _ := A_ (below_step z7_1_ hb)
     clear HB
     rename_i HB
     (try clear hb)
     (try clear hb2)
     (try clear hk)
     (try clear hi)
     refine hK.out _ _ ⟨(cel HB.out hw430_0), (cel HB.out hw430_1), (cel HB.out hw430_2), (cel HB.out hw430_3), (cel HB.out hw430_4), (cel HB.out hw430_5), (cel HB.out hw430_6), (cel HB.out hw430_7), (cel HB.out hw430_8)⟩ (fun hHeld => ?_)
     clear hK K
     refine norm_ (a' := ?_) ?_ ?_
     rotate_left
     ·
      show Act.put _ (some 19) _ = _
      simp only [Act.put, sA_, sB_, sC_, i64_w, i32_w]
      rfl
     refine pure_ (i := 7) (N := some 20) (v := ?_) (a' := ?_) #[true, true, true, true, true, true, true, true] rfl rfl (any_of HT_.out (by kernel_rfl)) (fun _ _ _ h => h) (Or.inl ⟨by rfl, ?_⟩) ?_ ?_
     rotate_left
     ·
      intro w'
      go_simp
      with_reducible rfl
     rotate_left
     ·
      simp only [Act.put, sA_, sB_, sC_, i64_w, i32_w]
      rfl
     refine done_ (done_of HT_.out (by kernel_rfl)) ?_
     have H := HZ_.out
     clear HZ_
     by_cases c6 : ((rd_T124 l0 x5_1).f0).toList = t431.toList
     ·
      rw [if_pos c6] at H
      have c6b0 := beq_iff_eq.mpr c6
      have c6b1 := bne_eq_false_iff_eq.mpr c6
      clear c6
      have HZ_ := A_ H
      clear H
      try simp only [c6b0, c6b1, Bool.not_true, Bool.not_false]
      have p432 : 0 ≤ (x5_1 : Int) := of_decide_eq_true (by assumption)
      have q432 : x5_1 < (l0.length : Int) := of_decide_eq_true (by assumption)
      obtain ⟨ad432, e432, hx432_0, hx432_1, hx432_2, hx432_3, hx432_4, hx432_5, hx432_6, hx432_7, hx432_8⟩ := at_T124 HR0.out x5_1 p432 q432
      obtain rfl : ad430 = ad432 := (by injection e432)
      replace hx432_0 := cel HB.out hx432_0
      replace hx432_1 := cel HB.out hx432_1
      replace hx432_2 := cel HB.out hx432_2
      replace hx432_3 := cel HB.out hx432_3
      replace hx432_4 := cel HB.out hx432_4
      replace hx432_5 := cel HB.out hx432_5
      replace hx432_6 := cel HB.out hx432_6
      replace hx432_7 := cel HB.out hx432_7
      replace hx432_8 := cel HB.out hx432_8
      replace p432 := eq_true p432
      replace q432 := eq_true q432
      have H := HZ_.out
      clear HZ_
      by_cases c7 : ((rd_T124 l0 x5_1).f1) = (wrap64 (x1_1 + 1))
      ·
       rw [if_pos c7] at H
       have c7b0 := beq_iff_eq.mpr c7
       have c7b1 := bne_eq_false_iff_eq.mpr c7
       clear c7
       have HZ_ := A_ H
       clear H
       try simp only [c7b0, c7b1, Bool.not_true, Bool.not_false]
       have p433 : 0 ≤ (x5_1 : Int) := of_decide_eq_true (by assumption)
       have q433 : x5_1 < (l0.length : Int) := of_decide_eq_true (by assumption)
       obtain ⟨ad433, e433, hx433_0, hx433_1, hx433_2, hx433_3, hx433_4, hx433_5, hx433_6, hx433_7, hx433_8⟩ := at_T124 HR0.out x5_1 p433 q433
       obtain rfl : ad430 = ad433 := (by injection e433)
       replace hx433_0 := cel HB.out hx433_0
       replace hx433_1 := cel HB.out hx433_1
       replace hx433_2 := cel HB.out hx433_2
       replace hx433_3 := cel HB.out hx433_3
       replace hx433_4 := cel HB.out hx433_4
       replace hx433_5 := cel HB.out hx433_5
       replace hx433_6 := cel HB.out hx433_6
       replace hx433_7 := cel HB.out hx433_7
       replace hx433_8 := cel HB.out hx433_8
       replace p433 := eq_true p433
       replace q433 := eq_true q433
       have H := HZ_.out
       clear HZ_
       by_cases c8 : (((rd_T124 l0 x5_1).f2.f0) != ((Int.tmod (wrap64 ((wrap64 (x1_1 + 1)) + 1)) 3) == 0)) = true
       ·
        rw [if_pos c8] at H
        have c8b0 : (((rd_T124 l0 x5_1).f2.f0) != ((Int.tmod (wrap64 ((wrap64 (x1_1 + 1)) + 1)) 3) == 0)) = true := c8
        (try (have c8b1 : decide (((rd_T124 l0 x5_1).f2.f0) = ((Int.tmod (wrap64 ((wrap64 (x1_1 + 1)) + 1)) 3) == 0)) = false := by simpa using c8))
        (try (have c8b2 : (((rd_T124 l0 x5_1).f2.f0) == ((Int.tmod (wrap64 ((wrap64 (x1_1 + 1)) + 1)) 3) == 0)) = false := by simpa using c8))
        (try (have c8b3 : ¬ (((rd_T124 l0 x5_1).f2.f0) = ((Int.tmod (wrap64 ((wrap64 (x1_1 + 1)) + 1)) 3) == 0)) := by simpa using c8))
        clear c8
        obtain rfl := Option.some.inj H
        try go_wp2
        go_ret
        exact ⟨z7_5_, z7_1_⟩
       ·
        rw [if_neg c8] at H
        have c8b0 : (((rd_T124 l0 x5_1).f2.f0) != ((Int.tmod (wrap64 ((wrap64 (x1_1 + 1)) + 1)) 3) == 0)) = false := by simpa using c8
        (try (have c8b1 : decide (((rd_T124 l0 x5_1).f2.f0) = ((Int.tmod (wrap64 ((wrap64 (x1_1 + 1)) + 1)) 3) == 0)) = true := by simpa using c8))
        (try (have c8b2 : (((rd_T124 l0 x5_1).f2.f0) == ((Int.tmod (wrap64 ((wrap64 (x1_1 + 1)) + 1)) 3) == 0)) = true := by simpa using c8))
        clear c8
        have H' := A_ H
        clear H
        try go_wp2
        go_loopg [1, 6] k1 (fun kq v1 v6 w' => ∃ (x1_2 : Int) (x6_2 : Int), v1 = .int .i64 x1_2 ∧ v6 = .int .i64 x6_2 ∧ Aside0 (laws_heldKeptS.l1 kq l0 x1_2 x5_1 x6_2 = some r) ∧ Aside0 (kq ≤ k1) ∧ Aside0 (Below w.heap.size w w'))
        case atStart => exact ⟨(wrap64 ((wrap64 ((wrap64 (x1_1 + 1)) + 1)) + 1)), (0), z7_3_, z7_3_, H', ⟨Nat.le_refl _⟩, ⟨z7_1_⟩⟩
        case round =>
         clear H'
         try clear p2
         try clear c3
         try clear c3b0
         try clear c4
         try clear c4b0
         try clear p4
         try clear q4
         try clear hx4
         try clear c6
         try clear c6b0
         try clear c6b1
         try clear p6
         try clear c7
         try clear c7b0
         try clear c7b1
         try clear c8
         try clear c8b0
         try clear c8b1
         try clear c8b2
         try clear hx430_0
         try clear hx430_1
         try clear hx430_2
         try clear hx430_3
         try clear hx430_4
         try clear hx430_5
         try clear hx430_6
         try clear hx430_7
         try clear hx430_8
         try clear hx432_0
         try clear hx432_1
         try clear hx432_2
         try clear hx432_3
         try clear hx432_4
         try clear hx432_5
         try clear hx432_6
         try clear hx432_7
         try clear hx432_8
         try clear hx433_0
         try clear hx433_1
         try clear hx433_2
         try clear hx433_3
         try clear hx433_4
         try clear hx433_5
         try clear hx433_6
         try clear hx433_7
         try clear hx433_8
         try clear p2
         try clear p430
         try clear p432
         try clear p433
         try clear q430
         try clear q432
         try clear q433
         obtain ⟨x1_2, x6_2, rfl, rfl, HA, HK2, HB⟩ := hrel
         cases gk with
         | zero => exact absurd HA.out (by simp [laws_heldKeptS.l1])
         | succ k2 =>
          have H := HA.out
          clear HA
          simp only [laws_heldKeptS.l1] at H
          by_cases c13 : x6_2 < 6
          ·
           rw [if_pos c13] at H
           have c13b0 := decide_eq_true c13
           clear c13
           by_cases c14 : 0 ≤ x5_1
           ·
            rw [if_pos c14] at H
            have c14b0 := decide_eq_true c14
            clear c14
            by_cases c15 : x5_1 < (l0.length : Int)
            ·
             rw [if_pos c15] at H
             have c15b0 := decide_eq_true c15
             clear c15
             by_cases c16 : 0 ≤ x6_2
             ·
              rw [if_pos c16] at H
              have c16b0 := decide_eq_true c16
              clear c16
              by_cases c17 : (rd [(rd_T124 l0 x5_1).f2.f1.f0, (rd_T124 l0 x5_1).f2.f1.f1, (rd_T124 l0 x5_1).f2.f1.f2, (rd_T124 l0 x5_1).f2.f1.f3, (rd_T124 l0 x5_1).f2.f1.f4, (rd_T124 l0 x5_1).f2.f1.f5] x6_2) = ((x1_2) % 4294967296)
              ·
               rw [if_pos c17] at H
               have c17b0 := beq_iff_eq.mpr c17
               have c17b1 := bne_eq_false_iff_eq.mpr c17
               clear c17
               have H' := A_ H
               clear H
               have p434 : 0 ≤ (x5_1 : Int) := of_decide_eq_true (by assumption)
               have q434 : x5_1 < (l0.length : Int) := of_decide_eq_true (by assumption)
               obtain ⟨ad434, e434, hx434_0, hx434_1, hx434_2, hx434_3, hx434_4, hx434_5, hx434_6, hx434_7, hx434_8⟩ := at_T124 HR0.out x5_1 p434 q434
               obtain rfl : ad430 = ad434 := (by injection e434)
               replace hx434_0 := cel HB.out hx434_0
               replace hx434_1 := cel HB.out hx434_1
               replace hx434_2 := cel HB.out hx434_2
               replace hx434_3 := cel HB.out hx434_3
               replace hx434_4 := cel HB.out hx434_4
               replace hx434_5 := cel HB.out hx434_5
               replace hx434_6 := cel HB.out hx434_6
               replace hx434_7 := cel HB.out hx434_7
               replace hx434_8 := cel HB.out hx434_8
               replace p434 := eq_true p434
               replace q434 := eq_true q434
               have p435 : 0 ≤ (x6_2 : Int) := of_decide_eq_true (by assumption)
               have q435 : (x6_2 : Int) < 6 := of_decide_eq_true (by assumption)
               have hx435_0 := cell_arr6 hx434_3 hx434_4 hx434_5 hx434_6 hx434_7 hx434_8 x6_2 p435 q435
               (try simp only [Nat.zero_add, Nat.add_zero] at hx435_0)
               replace p435 := eq_true p435
               replace q435 := eq_true q435
               go_wp2
               go_roundg k2
               case measure => have := HK1.out; have := HK2.out; omega
               case rel => exact ⟨(wrap64 (x1_2 + 1)), (wrap64 (x6_2 + 1)), z7_3_, z7_3_, H', ⟨z7_8_⟩, ⟨z7_1_⟩⟩
              ·
               rw [if_neg c17] at H
               have c17b0 : ((rd [(rd_T124 l0 x5_1).f2.f1.f0, (rd_T124 l0 x5_1).f2.f1.f1, (rd_T124 l0 x5_1).f2.f1.f2, (rd_T124 l0 x5_1).f2.f1.f3, (rd_T124 l0 x5_1).f2.f1.f4, (rd_T124 l0 x5_1).f2.f1.f5] x6_2) == ((x1_2) % 4294967296)) = false := beq_eq_false_iff_ne.mpr c17
               have c17b1 : ((rd [(rd_T124 l0 x5_1).f2.f1.f0, (rd_T124 l0 x5_1).f2.f1.f1, (rd_T124 l0 x5_1).f2.f1.f2, (rd_T124 l0 x5_1).f2.f1.f3, (rd_T124 l0 x5_1).f2.f1.f4, (rd_T124 l0 x5_1).f2.f1.f5] x6_2) != ((x1_2) % 4294967296)) = true := bne_iff_ne.mpr c17
               obtain rfl := Option.some.inj H
               have p434 : 0 ≤ (x5_1 : Int) := of_decide_eq_true (by assumption)
               have q434 : x5_1 < (l0.length : Int) := of_decide_eq_true (by assumption)
               obtain ⟨ad434, e434, hx434_0, hx434_1, hx434_2, hx434_3, hx434_4, hx434_5, hx434_6, hx434_7, hx434_8⟩ := at_T124 HR0.out x5_1 p434 q434
               obtain rfl : ad430 = ad434 := (by injection e434)
               replace hx434_0 := cel HB.out hx434_0
               replace hx434_1 := cel HB.out hx434_1
               replace hx434_2 := cel HB.out hx434_2
               replace hx434_3 := cel HB.out hx434_3
               replace hx434_4 := cel HB.out hx434_4
               replace hx434_5 := cel HB.out hx434_5
               replace hx434_6 := cel HB.out hx434_6
               replace hx434_7 := cel HB.out hx434_7
               replace hx434_8 := cel HB.out hx434_8
               replace p434 := eq_true p434
               replace q434 := eq_true q434
               have p435 : 0 ≤ (x6_2 : Int) := of_decide_eq_true (by assumption)
               have q435 : (x6_2 : Int) < 6 := of_decide_eq_true (by assumption)
               have hx435_0 := cell_arr6 hx434_3 hx434_4 hx434_5 hx434_6 hx434_7 hx434_8 x6_2 p435 q435
               (try simp only [Nat.zero_add, Nat.add_zero] at hx435_0)
               replace p435 := eq_true p435
               replace q435 := eq_true q435
               go_wp2
               go_ret
               exact ⟨z7_5_, z7_1_⟩
             ·
              rw [if_neg c16] at H
              exact absurd H (by simp)
            ·
             rw [if_neg c15] at H
             exact absurd H (by simp)
           ·
            rw [if_neg c14] at H
            exact absurd H (by simp)
          ·
           rw [if_neg c13] at H
           have c13b0 := decide_eq_false c13
           clear c13
           have H' := A_ H
           clear H
           go_wp2
           go_roundg k2
           case measure => have := HK1.out; have := HK2.out; omega
           case rel => exact ⟨(x1_2), (wrap64 (x5_1 + 1)), z7_3_, z7_3_, H', ⟨z7_8_⟩, ⟨z7_1_⟩⟩
      ·
       rw [if_neg c7] at H
       have c7b0 : (((rd_T124 l0 x5_1).f1) == (wrap64 (x1_1 + 1))) = false := beq_eq_false_iff_ne.mpr c7
       have c7b1 : (((rd_T124 l0 x5_1).f1) != (wrap64 (x1_1 + 1))) = true := bne_iff_ne.mpr c7
       obtain rfl := Option.some.inj H
       try simp only [c7b0, c7b1, Bool.not_true, Bool.not_false]
       try go_wp2
       go_ret
       exact ⟨z7_5_, z7_1_⟩
     ·
      rw [if_neg c6] at H
      have c6b0 : (((rd_T124 l0 x5_1).f0).toList == t431.toList) = false := beq_eq_false_iff_ne.mpr c6
      have c6b1 : (((rd_T124 l0 x5_1).f0).toList != t431.toList) = true := bne_iff_ne.mpr c6
      obtain rfl := Option.some.inj H
      try simp only [c6b0, c6b1, Bool.not_true, Bool.not_false]
      try go_wp2
      go_ret
      exact ⟨z7_5_, z7_1_⟩
    ·
     rw [if_neg c4] at H
     exact absurd H (by simp)
   ·
    rw [if_neg c3] at H
    have c3b0 := decide_eq_false c3
    clear c3
    obtain rfl := Option.some.inj H
    go_wp2
    go_ret
    exact ⟨z7_5_, z7_1_⟩
end Go.Proofs.Ytenhgmddpkiliaa.PB

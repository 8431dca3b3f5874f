/- (impl.Tree).least by hand. -/
import Derived.Test.YtpfnohdnaocpdaaPTx5
import Derived.Test.YtpfnohdnaocpdaaPTx2
import Derived.Test.YtpfnohdnaocpdaaPTleastH
namespace Go.Proofs.Ytpfnohdnaocpdaa.PT
open Go.RowKit Go.Proofs.YtpfnohdnaocpdaaW.PrintWords Go.Proofs.YtpfnohdnaocpdaaW.PrintLast Go.Proofs.YtpfnohdnaocpdaaW.PrintMore Go.Lib Go.Proofs.YtpfnohdnaocpdaaRP
set_option linter.unusedVariables false
set_option linter.unusedSimpArgs false
def lstN (q : List Int) (n : Nat) : List Int := ((List.range n).map Int.ofNat).filter fun i => ixI q (rd q i) == i
theorem lstN_end (q : List Int) : lstN q q.length = lstI q := rfl
theorem lstN_step (q : List Int) (i : Nat) : lstN q (i + 1) = lstN q i ++ (if ixI q (rd q (i : Int)) = (i : Int) then [(i : Int)] else []) := by
  unfold lstN
  rw [List.range_succ, List.map_append, List.filter_append]
  congr 1
  by_cases c : ixI q (rd q (i : Int)) = (i : Int)
  · rw [if_pos c]; simp [c]
  · rw [if_neg c]; simp [c]
theorem lstN_len (q : List Int) (n : Nat) : (lstN q n).length ≤ n := by
  unfold lstN
  have h := List.length_filter_le (fun i => ixI q (rd q i) == i) ((List.range n).map Int.ofNat)
  rw [List.length_map, List.length_range] at h
  exact h
theorem clsW_mono (M : List S89) : ∀ (k : Nat) (p : List Int) (c : Nat), LeO (clsW M k p c) (clsW M (k + 1) p c) := by
  intro k
  induction k with
  | zero => intro p c; exact LeO.none _
  | succ k ih => intro p c; exact (LeO.ite (LeO.refl _) (ih _ _) : LeO (if (foW M p).length = c then some (neW M p) else clsW M k (neW M p) (foW M p).length) (if (foW M p).length = c then some (neW M p) else clsW M (k + 1) (neW M p) (foW M p).length))
theorem impl_least.mono : ∀ a k, LeO (impl_least.f k a) (impl_least.f (k + 1) a) := fun a k => by
  unfold impl_least.f
  exact LeO.bind (impl_found.mono _ _) fun _ => LeO.ite (LeO.ite (LeO.bind (clsW_mono _ _ _ _) fun _ => LeO.ite (LeO.bind (impl_found.mono _ _) fun _ => LeO.refl _) (LeO.refl _)) (LeO.refl _)) (LeO.refl _)
set_option maxHeartbeats 8000000 in
set_option maxRecDepth 100000 in
theorem impl_least.calls (k : Nat) (A0 : Option Addr) (c0 : Nat) (l : List S89) (r : List S89) (w : World) (hr0 : Kd.C k89 w A0 l.length l) (hc0 : l.length ≤ c0) (h : impl_least.f k l = some r) :
    Calls Try.prog 80 #[.agg #[.slice A0 l.length c0]] w fun e w' => ∃ v, e = .returned (.agg #[v]) ∧ Kd.R k89 89 w' w.heap.size (fun _ => True) v r ∧ Below w.heap.size w w' := by
  unfold impl_least.f at h
  obtain ⟨R, hR, h_⟩ := Option.bind_eq_some_iff.mp h
  clear h
  have h := h_
  clear h_
  by_cases g1 : chkR l R = true
  case neg => rw [if_neg g1] at h; exact absurd h (by simp)
  rw [if_pos g1] at h
  by_cases g2 : chkM (renT l R (ixI R)) = true
  case neg => rw [if_neg g2] at h; exact absurd h (by simp)
  rw [if_pos g2] at h
  obtain ⟨q, hq, h_⟩ := Option.bind_eq_some_iff.mp h
  clear h
  have h := h_
  clear h_
  by_cases g3 : chkR (renT l R (ixI R)) (lstI q) = true
  case neg => rw [if_neg g3] at h; exact absurd h (by simp)
  rw [if_pos g3] at h
  obtain ⟨R2, hR2, h_⟩ := Option.bind_eq_some_iff.mp h
  clear h
  have h := h_
  clear h_
  by_cases g4 : chkR (renT (renT l R (ixI R)) (lstI q) fun v => ixI (lstI q) (ixI q (rd q v))) R2 = true
  case neg => rw [if_neg g4] at h; exact absurd h (by simp)
  rw [if_pos g4, Option.some.injEq] at h
  have hml := renT_len l R (ixI R)
  have HON := Aside0.mk (fun wr hb => only_calls k A0 c0 l R wr (Kd.C_below hr0 hb) hc0 hR (chkR_of g1).1 (by have := (chkR_of g1).2.1; omega) (chkR_of g1).2.2 : ∀ wr, Below w.heap.size w wr → _)
  obtain ⟨M, hM⟩ : ∃ M, M = renT l R (ixI R) := ⟨_, rfl⟩
  rw [← hM] at g2 hq g3 hR2 g4 h hml HON
  have HM0 := Aside0.mk (show 0 < M.length ∧ M.length ≤ 60 from by rw [hml]; exact ⟨(chkR_of g1).1, (chkR_of g1).2.1⟩)
  have G2 := Aside0.mk g2
  have G3 := Aside0.mk g3
  have G4 := Aside0.mk g4
  have HQ := Aside0.mk hq
  have HR2 := Aside0.mk hR2
  have HRR := Aside0.mk h
  clear hR g1 g2 hq g3 hR2 g4 h hml hM hr0 hc0
  have hmm := @run_makeMap Try.prog
  go_enter Try.func80, Try.ntmps80
  go_upto_region 1 with (fail)
  generalize hw2 : World.alloc (World.alloc w _) _ = w2
  have b2 : Below w.heap.size w w2 := by rw [← hw2]; exact below_alloc (below_alloc (Below.refl _ _) _) _
  have T2 := Aside0.mk (show w2.heap[w.heap.size]? = some (.cells #[.slice A0 l.length c0] 34 (0, 0)) from by rw [← hw2]; exact ha_old _ (ha_at w _ rfl))
  have R2' := Aside0.mk (show w2.heap[w.heap.size + 1]? = some (.cells #[.slice none 0 0] 34 (0, 0)) from by rw [← hw2]; exact ha_at _ _ (by simp))
  have B2 := Aside0.mk b2
  clear hw2 b2
  have tr : w2.cell? ⟨w.heap.size, 0, none⟩ = some (.slice A0 l.length c0) := (blk_cell T2.out 0).trans rfl
  go_upto_region 2 with (first
    | (go_at_call 123; (with_reducible refine (HON.out _ B2.out).mono ?_); rintro e w3 ⟨v3, rfl, hR, hb⟩
       have hR := Kd.R_lower hR B2.out.size
       obtain ⟨gm, cm, rfl, gmb, gml, curM, hgm⟩ := Kd.R_form hR HM0.out.1
       have CM3 := Aside0.mk (Kd.R_reads' hR).2.2
       have CL3 := Aside0.mk (Kd.R_reads' hR).2.1
       have OM3 := Aside0.mk hgm
       have B3 := Aside0.mk (B2.out.trans (hb.mono B2.out.size))
       have T3 := Aside0.mk ((hb.block _ (blk_lt_ T2.out)).trans T2.out)
       have R3 := Aside0.mk ((hb.block _ (blk_lt_ R2'.out)).trans R2'.out)
       have tr3 : w3.cell? ⟨w.heap.size, 0, none⟩ = some (.slice A0 l.length c0) := (blk_cell T3.out 0).trans rfl
       have zr3 : w3.frozen? ⟨w.heap.size, 0, none⟩ = false := blk_frozen T3.out 0
       clear hb hR tr hgm gmb gml)
    | fail)
  generalize hw4 : World.setCell w3 _ _ = w4
  have e4 : ∀ g, g ≠ w.heap.size → w4.heap[g]? = w3.heap[g]? := fun g hg => by rw [← hw4]; exact Below.heap_setCell w3 ⟨w.heap.size, 0, none⟩ _ g hg
  have hgt : gm ≠ w.heap.size := fun e => by
    have h1 := OM3.out
    rw [e, T3.out] at h1
    injection h1 with h1
    injection h1 with _ h1
    exact absurd h1 (by decide)
  have X4 := Aside0.mk (show LX M gm cm (.cells curM 89 (0, 0)) w.heap.size (w.heap.size + 1) w4 from ⟨(e4 gm hgt).trans OM3.out, by rw [← hw4]; exact blk_put T3.out 0 _ rfl, (e4 _ (by omega)).trans R3.out⟩)
  have B4 := Aside0.mk (show Below w.heap.size w w4 from by rw [← hw4]; exact B3.out.setCell (p := ⟨w.heap.size, 0, none⟩) (Nat.le_refl _) _)
  have CMC := Aside0.mk (fun (W : World) (e : W.heap[gm]? = some (.cells curM 89 (0, 0))) => C_same CM3.out (e.trans OM3.out.symm))
  clear hw4 e4 hgt T2 R2' B2 tr3 zr3 T3 R3 B3 OM3 CM3
  generalize hoM : (Obj.cells curM 89 (0, 0)) = oM at X4 CMC
  have HOM := Aside0.mk (fun (k : Nat) (c : Array Value) (q : Nat) (fz : Nat × Nat) (hq : q ≠ 89) (wr : World) (h1 : wr.heap[gm]? = some oM) (h2 : wr.heap[k]? = some (.cells c q fz)) (e : gm = k) => by
    rw [e, h2, ← hoM] at h1
    simp only [Option.some.injEq, Obj.cells.injEq] at h1
    exact hq h1.2.1)
  clear hoM
  have tr : w4.cell? ⟨w.heap.size, 0, none⟩ = some (.slice (some ⟨gm, 0, none⟩) M.length cm) := (blk_cell X4.out.t 0).trans rfl
  obtain ⟨ys0, hys0⟩ : ∃ ys0, ys0 = List.replicate M.length (0 : Int) := ⟨_, rfl⟩
  have HY := Aside0.mk hys0
  have YL := Aside0.mk (show ys0.length = M.length from by rw [hys0, List.length_replicate])
  rw [← hys0] at HQ
  clear hys0
  have hu85 := Try.underlying85
  go_upto_region 3 with (first | ((with_reducible refine gate_dst (N := 18) rfl ?_); refine Kd.R_make (Kd.int .i16) _ 85 rfl (N := 18) rfl 139 _ _ rfl (M.length : Int) rfl rfl Try.underlying139 (.int .i16 0) 2 infoI85 rfl (by decide) (by omega) 0 (ok := fun _ => True) (okp := fun _ => True) rfl (fun _ hk => hk) trivial (by omega) (by have := HM0.out; omega) (Below.refl _ _) (Nat.le_refl _) ?_; intro v18 w5 ho5 hb hg_ hnew_; clear hg_ hnew_; rw [Int.toNat_natCast, ← HY.out] at ho5; obtain ⟨gp, cp, rfl, gpb, gpl, _⟩ := Kd.R_form ho5 (by rw [YL.out]; exact HM0.out.1); have P5 := Aside0.mk (B16.of_R ho5); have PC5 := Aside0.mk (Kd.R_reads' ho5).2.1; have X5 := Aside0.mk (X4.out.below hb); have B5 := Aside0.mk (B4.out.trans (hb.mono B4.out.size)); clear hb ho5 gpb gpl) | fail)
  generalize hw6 : World.alloc w5 _ = w6
  have b6 : Below w5.heap.size w5 w6 := by rw [← hw6]; exact below_alloc (Below.refl _ _) _
  have K6 := Aside0.mk (show w6.heap[w5.heap.size]? = some (.cells #[.slice (some ⟨gp, 0, none⟩) ys0.length cp] 139 (0, 0)) from by rw [← hw6]; exact ha_at w5 _ rfl)
  have X6 := Aside0.mk (X5.out.below b6)
  have P6 := Aside0.mk (P5.out.below b6)
  have B6 := Aside0.mk (B5.out.trans (b6.mono B5.out.size))
  have HCB := Aside0.mk (show w.heap.size ≤ w5.heap.size from B5.out.size)
  clear hw6 b6 X4 B4 X5 P5 B5 tr
  generalize w5.heap.size = cb at K6 HCB ⊢
  go_wp2_with (fail)
  go_loopg [4] k (fun kq v4 wr => ∃ (p : List Int) (c : Nat) (gq cq : Nat), v4 = .int .i64 (c : Int) ∧ Aside0 (clsW M kq p c = some q) ∧ Aside0 (kq ≤ k) ∧ Aside0 (p.length = M.length ∧ c ≤ 60 ∧ ∀ v ∈ p, 0 ≤ v ∧ v ≤ 60) ∧ Aside0 (wr.heap[cb]? = some (.cells #[.slice (some ⟨gq, 0, none⟩) p.length cq] 139 (0, 0))) ∧ Aside0 (p.length ≤ cq) ∧ Aside0 (B16 gq p wr) ∧ Aside0 (LX M gm cm oM w.heap.size (w.heap.size + 1) wr) ∧ Aside0 (Below w.heap.size w wr))
  case atStart => exact ⟨ys0, 0, gp, cp, rfl, HQ, ⟨Nat.le_refl _⟩, ⟨YL.out, by omega, fun v hv => by rw [HY.out] at hv; have := (List.mem_replicate.1 hv).2; omega⟩, K6, PC5, P6, X6, B6⟩
  case round =>
    clear HQ K6 P6 X6 B6 PC5 YL HY
    obtain ⟨p, c, gq, cq, rfl, HA, HK1, HP, HK, HC, HQB, HX, HB⟩ := hrel
    cases gk with
    | zero => exact absurd HA.out (by simp [clsW])
    | succ k1 =>
      have H := HA.out
      clear HA
      rw [clsW] at H
      have H' := Aside0.mk H
      clear H
      have tr : wr.cell? ⟨w.heap.size, 0, none⟩ = some (.slice (some ⟨gm, 0, none⟩) M.length cm) := (blk_cell HX.out.t 0).trans rfl
      go_upto_region 5 with (fail)
      generalize hw7 : World.alloc (World.alloc wr _) _ = w7
      have b7 : Below wr.heap.size wr w7 := by rw [← hw7]; exact below_alloc (below_alloc (Below.refl _ _) _) _
      have F7 := Aside0.mk (show FS w.heap.size (wr.heap.size + 1) wr.heap.size [gm] [] w7 from by
        rw [← hw7]
        exact FS.empty (by have := HB.out.size; omega) HB.out.size (fun k hk => by obtain rfl := List.mem_singleton.1 hk; have := blk_lt_ HX.out.m; exact ⟨by simp; omega, by omega, by omega⟩) (ha_at _ _ (by simp)) ((World.ownsMap_made wr Try.prog 89 _).alloc _))
      have K7 := Aside0.mk ((b7.block _ (blk_lt_ HK.out)).trans HK.out)
      have Q7 := Aside0.mk (HQB.out.below b7)
      have X7 := Aside0.mk (HX.out.below b7)
      have B7 := Aside0.mk (HB.out.trans (b7.mono HB.out.size))
      clear hw7 b7 HK HQB HX HB tr
      generalize wr.heap.size + 1 = gf at F7 ⊢
      generalize wr.heap.size = bm at F7 ⊢
      have tr : w7.cell? ⟨w.heap.size, 0, none⟩ = some (.slice (some ⟨gm, 0, none⟩) M.length cm) := (blk_cell X7.out.t 0).trans rfl
      obtain ⟨zs0, hzs0⟩ : ∃ zs0, zs0 = List.replicate M.length (0 : Int) := ⟨_, rfl⟩
      have HZ := Aside0.mk hzs0
      have ZL := Aside0.mk (show zs0.length = M.length from by rw [hzs0, List.length_replicate])
      clear hzs0
      go_upto_region 6 with (first | ((with_reducible refine gate_dst (N := 25) rfl ?_); refine Kd.R_make (Kd.int .i16) _ 85 rfl (N := 25) rfl 139 _ _ rfl (M.length : Int) rfl rfl Try.underlying139 (.int .i16 0) 2 infoI85 rfl (by decide) (by omega) 0 (ok := fun _ => True) (okp := fun _ => True) rfl (fun _ hk => hk) trivial (by omega) (by have := HM0.out; omega) (Below.refl _ _) (Nat.le_refl _) ?_; intro v25 w8 ho5 hb hg_ hnew_; clear hg_ hnew_; rw [Int.toNat_natCast, ← HZ.out] at ho5; obtain ⟨gn, cn, rfl, gnb, gnl, _⟩ := Kd.R_form ho5 (by rw [ZL.out]; exact HM0.out.1); have N8 := Aside0.mk (B16.of_R ho5); have NC8 := Aside0.mk (Kd.R_reads' ho5).2.1; have HNB := Aside0.mk (show w.heap.size ≤ gn from Nat.le_trans B7.out.size gnb); have NQ8 := Aside0.mk (show gq ≠ gn from by have := Q7.out.lt; omega); have F8 := Aside0.mk (F7.out.below hb); have K8 := Aside0.mk ((hb.block _ (blk_lt_ K7.out)).trans K7.out); have Q8 := Aside0.mk (Q7.out.below hb); have X8 := Aside0.mk (X7.out.below hb); have B8 := Aside0.mk (B7.out.trans (hb.mono B7.out.size)); clear hb ho5 gnb gnl) | fail)
      clear tr F7 K7 Q7 X7 B7
      have tr : w8.cell? ⟨w.heap.size, 0, none⟩ = some (.slice (some ⟨gm, 0, none⟩) M.length cm) := (blk_cell X8.out.t 0).trans rfl
      go_wp2_with (fail)
      rw [ZL.out] at NC8 ⊢
      go_loopw [29] (fun v29 wr => ∃ (i : Nat) (ys : List Int), v29 = .int .i64 (i : Int) ∧ Aside0 (i ≤ M.length) ∧ Aside0 (ys.length = M.length) ∧ Aside0 (ys.take i = (neW M p).take i) ∧ Aside0 (FS w.heap.size gf bm [gm] (fndsL [] ((kyW M p).take i)) wr) ∧ Aside0 (B16 gn ys wr) ∧ Aside0 (B16 gq p wr) ∧ Aside0 (wr.heap[cb]? = some (.cells #[.slice (some ⟨gq, 0, none⟩) p.length cq] 139 (0, 0))) ∧ Aside0 (LX M gm cm oM w.heap.size (w.heap.size + 1) wr) ∧ Aside0 (Below w.heap.size w wr)) (fun v _ => M.length - (intOf v).toNat)
      case atStart => exact ⟨0, zs0, rfl, ⟨Nat.zero_le _⟩, ZL, ⟨by simp⟩, F8, N8, Q8, K8, X8, B8⟩
      case round =>
        clear F8 N8 Q8 K8 X8 B8 ZL HZ tr
        obtain ⟨i, ys, rfl, HI, YL, YT, HF, HN, HQB, HK, HX, HB⟩ := hrel
        by_cases ci : i < M.length
        · obtain ⟨ad1, e1, y0, y1, y2, y3, y4⟩ := at_T89 (CMC.out wr HX.out.m) (i : Int) (by omega) (by omega)
          injection e1 with e1
          subst e1
          rw [Int.toNat_natCast] at y0 y1 y2 y3 y4
          have G1 := Aside0.mk (okT_rd (by have := G2.out; unfold chkM at this; rw [Bool.and_eq_true] at this; exact this.1) (i : Int) (by omega) (by omega))
          have GD := Aside0.mk (chkM_rd G2.out i ci)
          obtain ⟨x, hx⟩ : ∃ x, x = rd_T89 M (i : Int) := ⟨_, rfl⟩
          have HXX := Aside0.mk hx
          rw [← hx] at y0 y1 y2 y3 y4 G1 GD
          clear hx
          simp only [add_plain] at y0 y1 y2 y3 y4
          have di : decide ((i : Int) < (M.length : Int)) = true := decide_eq_true (by omega)
          have ti := eq_true (show (i : Int) < (M.length : Int) by omega)
          have t0 := eq_true (show (0 : Int) ≤ (i : Int) by omega)
          have d0 : decide ((0 : Int) ≤ (i : Int)) = true := decide_eq_true (by omega)
          have CI := Aside0.mk ci
          clear ci
          go_upto_region 9 with (fail)
          generalize hwx : World.alloc wr _ = wx
          have bx : Below wr.heap.size wr wx := by rw [← hwx]; exact below_alloc (Below.refl _ _) _
          have X0 := Aside0.mk (show wx.heap[wr.heap.size]? = some (.cells (n89 (renJ (rd p) x 0)) 89 (0, 0)) from by rw [← hwx]; exact ha_at wr _ rfl)
          have F0 := Aside0.mk (HF.out.avoid2 bx (Nat.le_refl _) (blk_lt_ X0.out))
          have N0 := Aside0.mk (HN.out.below bx)
          have Q0 := Aside0.mk (HQB.out.below bx)
          have K0 := Aside0.mk ((bx.block _ (blk_lt_ HK.out)).trans HK.out)
          have L0 := Aside0.mk (HX.out.below bx)
          have B0 := Aside0.mk (HB.out.trans (bx.mono HB.out.size))
          have HNE := Aside0.mk (show gm ≠ wr.heap.size ∧ w.heap.size ≠ wr.heap.size ∧ w.heap.size + 1 ≠ wr.heap.size ∧ cb ≠ wr.heap.size ∧ gn ≠ wr.heap.size ∧ gq ≠ wr.heap.size from by
            have h1 := blk_lt_ HX.out.m; have h2 := blk_lt_ HX.out.t; have h3 := blk_lt_ HX.out.r; have h4 := blk_lt_ HK.out; have h5 := HN.out.lt; have h6 := HQB.out.lt
            exact ⟨by omega, by omega, by omega, by omega, by omega, by omega⟩)
          have HKX := Aside0.mk (show w.heap.size ≤ wr.heap.size from HB.out.size)
          clear bx hwx HF HN HQB HK HX HB y0 y1 y2 y3 y4 di ti t0 d0
          generalize wr.heap.size = kx at X0 F0 HNE HKX ⊢
          have x5 := bc5 X0.out
          go_upto_region 10 with (first | (go_at_call 124; (with_reducible refine (ways_x ⟨kx, 0, none⟩ x _ x5.1).mono ?_); rintro e w' ⟨rfl, rfl⟩) | fail)
          clear x5
          go_loopw [36] (fun v36 wr => ∃ j : Nat, v36 = .int .i64 (j : Int) ∧ Aside0 (j ≤ (waysL x).length) ∧ Aside0 (wr.heap[kx]? = some (.cells (n89 (renJ (rd p) x j)) 89 (0, 0))) ∧ Aside0 (FS w.heap.size gf bm [kx, gm] (fndsL [] ((kyW M p).take i)) wr) ∧ Aside0 (B16 gn ys wr) ∧ Aside0 (B16 gq p wr) ∧ Aside0 (wr.heap[cb]? = some (.cells #[.slice (some ⟨gq, 0, none⟩) p.length cq] 139 (0, 0))) ∧ Aside0 (LX M gm cm oM w.heap.size (w.heap.size + 1) wr) ∧ Aside0 (Below w.heap.size w wr)) (fun v _ => (waysL x).length - (intOf v).toNat)
          case atStart => exact ⟨0, rfl, ⟨Nat.zero_le _⟩, X0, F0, N0, Q0, K0, L0, B0⟩
          case round =>
            clear X0 F0 N0 Q0 K0 L0 B0
            obtain ⟨j, rfl, HJ, Xj, Fj, Nj, Qj, Kj, Lj, Bj⟩ := hrel
            have hw3 : (waysL x).length ≤ 3 := by rw [waysL_len]; split <;> omega
            by_cases cj : j < (waysL x).length
            · have dj : decide ((j : Int) < ((waysL x).length : Int)) = true := decide_eq_true (by omega)
              rcases (show j = 0 ∨ j = 1 ∨ j = 2 by omega) with rfl | rfl | rfl
              · -- the way 0
                have p5 := bc5 Xj.out
                have mw : 0 ≤ x.f2.f0 ∧ x.f2.f0 < (M.length : Int) := G1.out.2.1
                have mp : x.f2.f0 < (p.length : Int) := by rw [HP.out.1]; exact mw.2
                have pc := Qj.out.atI mw.1 mp
                have kc : wr.cell? ⟨cb, 0, none⟩ = some (.slice (some ⟨gq, 0, none⟩) p.length cq) := (blk_cell Kj.out 0).trans rfl
                have zx := bf5 Xj.out
                have t0 := eq_true mw.1
                have t1 := eq_true mp
                have d0 := decide_eq_true mw.1
                have d1 := decide_eq_true mp
                have q2 := p5.2.2.1
                have q3 := p5.2.2.2.1
                have q4 := p5.2.2.2.2
                simp only [renJ, uW, Nat.lt_irrefl, if_false, Nat.not_lt_zero, (by decide : ¬ (1 : Nat) < 1), (by decide : (0 : Nat) < 1), (by decide : ¬ (2 : Nat) < 1), (by decide : (0 : Nat) < 2), (by decide : (1 : Nat) < 2), if_true] at q2 q3 q4
                clear p5 mw mp
                go_upto_region 12 with (fail)
                go_region
                obtain ⟨w9, hw9⟩ : ∃ w9, w9 = (wr.setCell ⟨kx, 2, none⟩ (.int .i16 (rd p x.f2.f0))).drew := ⟨_, rfl⟩
                rw [← hw9]
                have X9 := Aside0.mk (show w9.heap[kx]? = some (.cells (n89 (renJ (rd p) x 1)) 89 (0, 0)) from by rw [hw9]; exact blk_put Xj.out 2 _ rfl)
                have F9 := Aside0.mk (show FS w.heap.size gf bm [kx, gm] (fndsL [] ((kyW M p).take i)) w9 from by rw [hw9]; exact (Fj.out.setAv (p := ⟨kx, 2, none⟩) (by simp) _).below (below_drew1 (Below.refl _ _)))
                have N9 := Aside0.mk (show B16 gn ys w9 from by rw [hw9]; exact (Nj.out.far (p := ⟨kx, 2, none⟩) _ HNE.out.2.2.2.2.1).keep rfl)
                have Q9 := Aside0.mk (show B16 gq p w9 from by rw [hw9]; exact (Qj.out.far (p := ⟨kx, 2, none⟩) _ HNE.out.2.2.2.2.2).keep rfl)
                have K9 := Aside0.mk (show w9.heap[cb]? = some (.cells #[.slice (some ⟨gq, 0, none⟩) p.length cq] 139 (0, 0)) from by rw [hw9]; exact hs_ne (p := ⟨kx, 2, none⟩) _ Kj.out HNE.out.2.2.2.1)
                have L9 := Aside0.mk (show LX M gm cm oM w.heap.size (w.heap.size + 1) w9 from by rw [hw9]; exact (Lj.out.far (p := ⟨kx, 2, none⟩) _ HNE.out.1 HNE.out.2.1 HNE.out.2.2.1).below (below_drew1 (Below.refl _ _)))
                have B9 := Aside0.mk (show Below w.heap.size w w9 from by rw [hw9]; exact below_drew1 (Bj.out.setCell (p := ⟨kx, 2, none⟩) HKX.out _))
                clear hw9 Xj Fj Nj Qj Kj Lj Bj pc kc zx t0 t1 d0 d1 q2 q3 q4
                go_wp2
                go_roundw
                case rel => exact ⟨1, by first | (with_reducible rfl) | go_num, ⟨by omega⟩, X9, F9, N9, Q9, K9, L9, B9⟩
                case measure => simp [intOf]; omega
              · -- the way 1
                have p5 := bc5 Xj.out
                have mw : 0 ≤ x.f2.f1 ∧ x.f2.f1 < (M.length : Int) := G1.out.2.2.1
                have mp : x.f2.f1 < (p.length : Int) := by rw [HP.out.1]; exact mw.2
                have pc := Qj.out.atI mw.1 mp
                have kc : wr.cell? ⟨cb, 0, none⟩ = some (.slice (some ⟨gq, 0, none⟩) p.length cq) := (blk_cell Kj.out 0).trans rfl
                have zx := bf5 Xj.out
                have t0 := eq_true mw.1
                have t1 := eq_true mp
                have d0 := decide_eq_true mw.1
                have d1 := decide_eq_true mp
                have q2 := p5.2.2.1
                have q3 := p5.2.2.2.1
                have q4 := p5.2.2.2.2
                simp only [renJ, uW, Nat.lt_irrefl, if_false, Nat.not_lt_zero, (by decide : ¬ (1 : Nat) < 1), (by decide : (0 : Nat) < 1), (by decide : ¬ (2 : Nat) < 1), (by decide : (0 : Nat) < 2), (by decide : (1 : Nat) < 2), if_true] at q2 q3 q4
                clear p5 mw mp
                go_upto_region 12 with (fail)
                go_region
                obtain ⟨w9, hw9⟩ : ∃ w9, w9 = (wr.setCell ⟨kx, 3, none⟩ (.int .i16 (rd p x.f2.f1))).drew := ⟨_, rfl⟩
                rw [← hw9]
                have X9 := Aside0.mk (show w9.heap[kx]? = some (.cells (n89 (renJ (rd p) x 2)) 89 (0, 0)) from by rw [hw9]; exact blk_put Xj.out 3 _ rfl)
                have F9 := Aside0.mk (show FS w.heap.size gf bm [kx, gm] (fndsL [] ((kyW M p).take i)) w9 from by rw [hw9]; exact (Fj.out.setAv (p := ⟨kx, 3, none⟩) (by simp) _).below (below_drew1 (Below.refl _ _)))
                have N9 := Aside0.mk (show B16 gn ys w9 from by rw [hw9]; exact (Nj.out.far (p := ⟨kx, 3, none⟩) _ HNE.out.2.2.2.2.1).keep rfl)
                have Q9 := Aside0.mk (show B16 gq p w9 from by rw [hw9]; exact (Qj.out.far (p := ⟨kx, 3, none⟩) _ HNE.out.2.2.2.2.2).keep rfl)
                have K9 := Aside0.mk (show w9.heap[cb]? = some (.cells #[.slice (some ⟨gq, 0, none⟩) p.length cq] 139 (0, 0)) from by rw [hw9]; exact hs_ne (p := ⟨kx, 3, none⟩) _ Kj.out HNE.out.2.2.2.1)
                have L9 := Aside0.mk (show LX M gm cm oM w.heap.size (w.heap.size + 1) w9 from by rw [hw9]; exact (Lj.out.far (p := ⟨kx, 3, none⟩) _ HNE.out.1 HNE.out.2.1 HNE.out.2.2.1).below (below_drew1 (Below.refl _ _)))
                have B9 := Aside0.mk (show Below w.heap.size w w9 from by rw [hw9]; exact below_drew1 (Bj.out.setCell (p := ⟨kx, 3, none⟩) HKX.out _))
                clear hw9 Xj Fj Nj Qj Kj Lj Bj pc kc zx t0 t1 d0 d1 q2 q3 q4
                go_wp2
                go_roundw
                case rel => exact ⟨2, by first | (with_reducible rfl) | go_num, ⟨by omega⟩, X9, F9, N9, Q9, K9, L9, B9⟩
                case measure => simp [intOf]; omega
              · -- the way 2
                have p5 := bc5 Xj.out
                have mw : 0 ≤ x.f2.f2 ∧ x.f2.f2 < (M.length : Int) := G1.out.2.2.2
                have mp : x.f2.f2 < (p.length : Int) := by rw [HP.out.1]; exact mw.2
                have pc := Qj.out.atI mw.1 mp
                have kc : wr.cell? ⟨cb, 0, none⟩ = some (.slice (some ⟨gq, 0, none⟩) p.length cq) := (blk_cell Kj.out 0).trans rfl
                have zx := bf5 Xj.out
                have t0 := eq_true mw.1
                have t1 := eq_true mp
                have d0 := decide_eq_true mw.1
                have d1 := decide_eq_true mp
                have q2 := p5.2.2.1
                have q3 := p5.2.2.2.1
                have q4 := p5.2.2.2.2
                simp only [renJ, uW, Nat.lt_irrefl, if_false, Nat.not_lt_zero, (by decide : ¬ (1 : Nat) < 1), (by decide : (0 : Nat) < 1), (by decide : ¬ (2 : Nat) < 1), (by decide : (0 : Nat) < 2), (by decide : (1 : Nat) < 2), if_true] at q2 q3 q4
                clear p5 mw mp
                go_upto_region 12 with (fail)
                go_region
                obtain ⟨w9, hw9⟩ : ∃ w9, w9 = (wr.setCell ⟨kx, 4, none⟩ (.int .i16 (rd p x.f2.f2))).drew := ⟨_, rfl⟩
                rw [← hw9]
                have X9 := Aside0.mk (show w9.heap[kx]? = some (.cells (n89 (renJ (rd p) x 3)) 89 (0, 0)) from by rw [hw9]; exact blk_put Xj.out 4 _ rfl)
                have F9 := Aside0.mk (show FS w.heap.size gf bm [kx, gm] (fndsL [] ((kyW M p).take i)) w9 from by rw [hw9]; exact (Fj.out.setAv (p := ⟨kx, 4, none⟩) (by simp) _).below (below_drew1 (Below.refl _ _)))
                have N9 := Aside0.mk (show B16 gn ys w9 from by rw [hw9]; exact (Nj.out.far (p := ⟨kx, 4, none⟩) _ HNE.out.2.2.2.2.1).keep rfl)
                have Q9 := Aside0.mk (show B16 gq p w9 from by rw [hw9]; exact (Qj.out.far (p := ⟨kx, 4, none⟩) _ HNE.out.2.2.2.2.2).keep rfl)
                have K9 := Aside0.mk (show w9.heap[cb]? = some (.cells #[.slice (some ⟨gq, 0, none⟩) p.length cq] 139 (0, 0)) from by rw [hw9]; exact hs_ne (p := ⟨kx, 4, none⟩) _ Kj.out HNE.out.2.2.2.1)
                have L9 := Aside0.mk (show LX M gm cm oM w.heap.size (w.heap.size + 1) w9 from by rw [hw9]; exact (Lj.out.far (p := ⟨kx, 4, none⟩) _ HNE.out.1 HNE.out.2.1 HNE.out.2.2.1).below (below_drew1 (Below.refl _ _)))
                have B9 := Aside0.mk (show Below w.heap.size w w9 from by rw [hw9]; exact below_drew1 (Bj.out.setCell (p := ⟨kx, 4, none⟩) HKX.out _))
                clear hw9 Xj Fj Nj Qj Kj Lj Bj pc kc zx t0 t1 d0 d1 q2 q3 q4
                go_wp2
                go_roundw
                case rel => exact ⟨3, by first | (with_reducible rfl) | go_num, ⟨by omega⟩, X9, F9, N9, Q9, K9, L9, B9⟩
                case measure => simp [intOf]; omega
            · have hj3 : j = (waysL x).length := by have := HJ.out; omega
              subst hj3
              have dj : decide (((waysL x).length : Int) < ((waysL x).length : Int)) = false := decide_eq_false (by omega)
              have h5 := Xj.out
              rw [renJ_end] at h5
              have HY := Aside0.mk (show I16p (renN (rd p) x) from ren_I16 G1.out.1 GD.out (fun v hv => by
                have hvr : 0 ≤ v ∧ v < (M.length : Int) := by
                  obtain ⟨g1, g2, g3⟩ := G1.out.2
                  unfold waysL at hv
                  split at hv
                  · simp only [List.mem_singleton] at hv; subst hv; exact g1
                  · simp only [List.mem_cons, List.not_mem_nil, or_false] at hv
                    rcases hv with rfl | rfl | rfl
                    · exact g1
                    · exact g2
                    · exact g3
                have := rd_in60 HP.out.2.2 hvr.1 (by rw [HP.out.1]; exact hvr.2)
                omega) (by have := G1.out.2.1; have := HM0.out.2; omega) (by have := G1.out.2.2.1; have := HM0.out.2; omega) (by have := G1.out.2.2.2; have := HM0.out.2; omega))
              have XS := Aside0.mk (fo_len M p i)
              have YS := Aside0.mk (ne_step M p ys i CI.out YL.out YT.out)
              have FS' := Aside0.mk (fo_step M p i CI.out)
              rw [← HXX.out] at YS FS'
              obtain ⟨y, hy⟩ : ∃ y, y = renN (rd p) x := ⟨_, rfl⟩
              rw [← hy] at h5 HY YS FS'
              clear hy
              obtain ⟨xs, hxs⟩ : ∃ xs, xs = fndsL [] ((kyW M p).take i) := ⟨_, rfl⟩
              rw [← hxs] at XS YS FS' Fj
              clear hxs
              have y5 := bc5 h5
              have HIP := Aside0.mk (show ((ixP xs y : Nat) : Int) ≤ 60 from by have := (fndL_has xs y).1; have := XS.out; have := HM0.out.2; omega)
              clear h5
              go_upto_region 15 with (first
                | (go_at_call 125; (with_reducible refine (find_calls w.heap.size gf bm [kx, gm] xs y HY.out (by have := XS.out; have := HM0.out.2; omega) w _ Fj.out Bj.out Bj.out.size).mono ?_); rintro e w9 hP; obtain ⟨rfl, f_, b_, k_, a_⟩ := hP
                   have F9 := Aside0.mk f_
                   have B9 := Aside0.mk b_
                   have N9 := Aside0.mk (Nj.out.ks k_ (by decide))
                   have Q9 := Aside0.mk (Qj.out.ks k_ (by decide))
                   have K9 := Aside0.mk (k_.2 _ _ _ _ Kj.out (by decide))
                   have L9 := Aside0.mk (Lj.out.ks k_ (by decide) (a_ gm (by simp)))
                   have t0 := eq_true (show (0 : Int) ≤ (i : Int) by omega)
                   have t1 := eq_true (show (i : Int) < (M.length : Int) by have := CI.out; omega)
                   have d0 : decide ((0 : Int) ≤ (i : Int)) = true := decide_eq_true (by omega)
                   have d1 : decide ((i : Int) < (M.length : Int)) = true := decide_eq_true (by have := CI.out; omega)
                   have n1 := N9.out.at (i := i) (by rw [YL.out]; exact CI.out)
                   have n2 := N9.out.fz i
                   clear f_ b_ k_ a_ y5)
                | fail)
              obtain ⟨curN, hcn⟩ := N9.out.type
              have HWI : Aside0 (wrap64 ((i : Int) + 1) = ((i + 1 : Nat) : Int)) := ⟨by have := HM0.out.2; have := CI.out; unfold wrap64; omega⟩
              obtain ⟨wz, hwz⟩ : ∃ wz, wz = w9.setCell ⟨gn, i, none⟩ (.int .i16 ((ixP xs y : Nat) : Int)) := ⟨_, rfl⟩
              rw [← hwz]
              have FZ := Aside0.mk (show FS w.heap.size gf bm [gm] (fndsL [] ((kyW M p).take (i + 1))) wz from by rw [hwz, ← FS'.out]; exact F9.out.less.set (p := ⟨gn, i, none⟩) hcn (by decide) (by decide) _)
              have NZ := Aside0.mk (show B16 gn (ys.set i ((ixP xs y : Nat) : Int)) wz from by rw [hwz]; exact N9.out.put (by rw [YL.out]; exact CI.out) _)
              have QZ := Aside0.mk (show B16 gq p wz from by rw [hwz]; exact Q9.out.far (p := ⟨gn, i, none⟩) _ NQ8.out)
              have KZ := Aside0.mk (show wz.heap[cb]? = some (.cells #[.slice (some ⟨gq, 0, none⟩) p.length cq] 139 (0, 0)) from by rw [hwz]; exact hs_ne (p := ⟨gn, i, none⟩) _ K9.out (N9.out.ne K9.out (by decide)).symm)
              have LZ := Aside0.mk (show LX M gm cm oM w.heap.size (w.heap.size + 1) wz from by rw [hwz]; exact L9.out.far (p := ⟨gn, i, none⟩) _ (HOM.out gn curN 85 (0, 0) (by decide) w9 L9.out.m hcn) (N9.out.ne L9.out.t (by decide)).symm (N9.out.ne L9.out.r (by decide)).symm)
              have BZ := Aside0.mk (show Below w.heap.size w wz from by rw [hwz]; exact B9.out.setCell (p := ⟨gn, i, none⟩) HNB.out _)
              clear hwz hcn F9 N9 Q9 K9 L9 B9 Xj Fj Nj Qj Kj Lj Bj t0 t1 d0 d1 n1 n2
              go_wp2
              go_roundw
              case rel => exact ⟨i + 1, ys.set i ((ixP xs y : Nat) : Int), by rw [HWI.out], ⟨by have := CI.out; omega⟩, ⟨by rw [List.length_set]; exact YL.out⟩, YS, FZ, NZ, QZ, KZ, LZ, BZ⟩
              case measure => rw [HWI.out]; have := CI.out; simp only [intOf, Int.toNat_natCast]; omega
        · have hi : i = M.length := by have := HI.out; omega
          subst hi
          have di : decide ((M.length : Int) < (M.length : Int)) = false := decide_eq_false (by omega)
          have hys : ys = neW M p := by
            have h := YT.out
            rw [List.take_of_length_le (by rw [YL.out]; exact Nat.le_refl _), List.take_of_length_le (by rw [ne_len]; exact Nat.le_refl _)] at h
            exact h
          rw [hys] at HN
          clear hys YT YL
          rw [List.take_of_length_le (by rw [ky_len]; exact Nat.le_refl _)] at HF
          replace HF : Aside0 (FS w.heap.size gf bm [gm] (foW M p) wr) := HF
          have kc : wr.cell? ⟨cb, 0, none⟩ = some (.slice (some ⟨gq, 0, none⟩) p.length cq) := (blk_cell HK.out 0).trans rfl
          have kz : wr.frozen? ⟨cb, 0, none⟩ = false := blk_frozen HK.out 0
          go_upto_region 17 with (fail)
          obtain ⟨wa, hwa⟩ : ∃ wa, wa = wr.setCell ⟨cb, 0, none⟩ (.slice (some ⟨gn, 0, none⟩) M.length cn) := ⟨_, rfl⟩
          rw [← hwa]
          have FA := Aside0.mk (show FS w.heap.size gf bm [gm] (foW M p) wa from by rw [hwa]; exact HF.out.set (p := ⟨cb, 0, none⟩) HK.out (by decide) (by decide) _)
          have NA := Aside0.mk (show B16 gn (neW M p) wa from by rw [hwa]; exact HN.out.far (p := ⟨cb, 0, none⟩) _ (HN.out.ne HK.out (by decide)))
          have KA := Aside0.mk (show wa.heap[cb]? = some (.cells #[.slice (some ⟨gn, 0, none⟩) (neW M p).length cn] 139 (0, 0)) from by rw [hwa, ne_len]; exact blk_put HK.out 0 _ rfl)
          have LA := Aside0.mk (show LX M gm cm oM w.heap.size (w.heap.size + 1) wa from by
            rw [hwa]
            refine HX.out.far (p := ⟨cb, 0, none⟩) _ (HOM.out cb _ 139 (0, 0) (by decide) wr HX.out.m HK.out) (fun e => ?_) (fun e => ?_)
            · have h1 := HX.out.t
              rw [e] at h1
              have h1 := h1.symm.trans HK.out
              simp at h1
            · have h1 := HX.out.r
              rw [e] at h1
              have h1 := h1.symm.trans HK.out
              simp at h1)
          have BA := Aside0.mk (show Below w.heap.size w wa from by rw [hwa]; exact HB.out.setCell (p := ⟨cb, 0, none⟩) HCB.out _)
          clear hwa HF HN HQB HK HX HB kc kz di
          obtain ⟨AF, cF, hcF⟩ := FA.out.count
          have yF := bc2 hcF
          have CFL := Aside0.mk (show (foW M p).length ≤ 60 from by have h := fo_len M p M.length; rw [List.take_of_length_le (by rw [ky_len]; exact Nat.le_refl _)] at h; have := HM0.out.2; exact Nat.le_trans h this)
          have H := H'.out
          clear hcF H'
          by_cases ce : (foW M p).length = c
          · rw [if_pos ce, Option.some.injEq] at H
            have de : (((foW M p).length : Int) == (c : Int)) = true := beq_iff_eq.mpr (by omega)
            have HNQ := Aside0.mk H
            rw [H] at NA KA
            clear H ce
            go_upto_region 19 with (fail)
            clear CFL yF
            have HQL : Aside0 (q.length = M.length) := ⟨by rw [← HNQ.out]; exact ne_len M p⟩
            clear HNQ de
            go_upto_region 20 with (first
              | ((with_reducible refine gate_dst (N := 70) rfl ?_); refine Kd.R_lit (Kd.int .i16) _ 85 ?hg (N := 70) ?hd (xs := ([] : List Int)) (inner := []) (ok := fun _ => True) (okp := fun _ => True) ?hr ?hp (fun _ hk => hk) trivial (Below.refl _ _) (Nat.le_refl _) (by simp) ?_; (case hd => rfl); (case hg => rfl); (case hr => first | (go_simp; done) | (go_simp; rfl)); (case hp => exact (Reps.none _ _)); intro v70 w5 ho5 hb hg_ hnew_; clear hg_ hnew_; obtain ⟨A9, c9, rfl⟩ := Kd.R_slice ho5
                 have N5 := Aside0.mk (Kd.R_lower (Kd.R_mono (Kd.R_bound ho5) (fun k hk => (show k ≠ gn from by have := NA.out.lt; have := hk.2.1; omega))) BA.out.size)
                 have A5 := Aside0.mk (NA.out.below hb)
                 have K5 := Aside0.mk ((hb.block _ (blk_lt_ KA.out)).trans KA.out)
                 have L5 := Aside0.mk (LA.out.below hb)
                 have B5 := Aside0.mk (BA.out.trans (hb.mono BA.out.size))
                 clear hb ho5)
              | fail)
            generalize hw6 : World.alloc w5 _ = w6
            have b6 : Below w5.heap.size w5 w6 := by rw [← hw6]; exact below_alloc (Below.refl _ _) _
            have I6 := Aside0.mk (show w6.heap[w5.heap.size]? = some (.cells #[.slice A9 0 c9] 139 (0, 0)) from by rw [← hw6]; exact ha_at w5 _ rfl)
            have N6 := Aside0.mk (Kd.R_below N5.out b6)
            have A6 := Aside0.mk (A5.out.below b6)
            have K6 := Aside0.mk ((b6.block _ (blk_lt_ K5.out)).trans K5.out)
            have L6 := Aside0.mk (L5.out.below b6)
            have B6 := Aside0.mk (B5.out.trans (b6.mono B5.out.size))
            have HLB := Aside0.mk (show w.heap.size ≤ w5.heap.size from B5.out.size)
            have NCL := Aside0.mk (show cb ≠ w5.heap.size from by have := blk_lt_ K5.out; omega)
            clear hw6 b6 N5 A5 K5 L5 B5 NA KA LA BA
            generalize w5.heap.size = lb at I6 HLB NCL ⊢
            have kc : w6.cell? ⟨cb, 0, none⟩ = some (.slice (some ⟨gn, 0, none⟩) q.length cn) := (blk_cell K6.out 0).trans rfl
            go_wp2_with (fail)
            go_loopw [73] (fun v73 wr => ∃ (i : Nat) (A : Option Addr) (cl : Nat), v73 = .int .i64 (i : Int) ∧ Aside0 (i ≤ q.length) ∧ Aside0 (wr.heap[lb]? = some (.cells #[.slice A (lstN q i).length cl] 139 (0, 0))) ∧ Aside0 (Kd.R (Kd.int .i16) 85 wr w.heap.size (fun k => k ≠ gn) (.slice A (lstN q i).length cl) (lstN q i)) ∧ Aside0 (B16 gn q wr) ∧ Aside0 (wr.heap[cb]? = some (.cells #[.slice (some ⟨gn, 0, none⟩) q.length cn] 139 (0, 0))) ∧ Aside0 (LX M gm cm oM w.heap.size (w.heap.size + 1) wr) ∧ Aside0 (Below w.heap.size w wr)) (fun v _ => q.length - (intOf v).toNat)
            case atStart => exact ⟨0, A9, c9, rfl, ⟨Nat.zero_le _⟩, I6, N6, A6, K6, L6, B6⟩
            case round =>
              clear I6 N6 A6 K6 L6 B6 kc
              obtain ⟨i, A, cl, rfl, HI, II, HN, HA, HK, HX, HB⟩ := hrel
              by_cases ci : i < q.length
              · have di : decide ((i : Int) < (q.length : Int)) = true := decide_eq_true (by omega)
                have ti := eq_true (show (i : Int) < (q.length : Int) by omega)
                have t0 := eq_true (show (0 : Int) ≤ (i : Int) by omega)
                have d0 : decide ((0 : Int) ≤ (i : Int)) = true := decide_eq_true (by omega)
                have kc : wr.cell? ⟨cb, 0, none⟩ = some (.slice (some ⟨gn, 0, none⟩) q.length cn) := (blk_cell HK.out 0).trans rfl
                have qc := HA.out.at (i := i) ci
                have CI := Aside0.mk ci
                clear ci
                have HCQ := Aside0.mk (HA.out.C (by have := HQL.out; have := HM0.out.2; omega))
                have HIX := Aside0.mk (fun (W : World) (hW : Kd.C (Kd.int .i16) W (some ⟨gn, 0, none⟩) q.length q) => index_calls (some ⟨gn, 0, none⟩) cn q (rd q (i : Int)) (by have := HQL.out; have := HM0.out.2; omega) W hW (by have := HQL.out; have := NC8.out; omega))
                go_wp2
                repeat (go_quiet (first | (go_at_call 99; (with_reducible refine (HIX.out _ ?side1).mono ?_); (case side1 => repeat (first | exact HCQ.out | (with_reducible refine Kd.C_alloc ?_ _) | (with_reducible refine Kd.C_drewN ?_ _) | (with_reducible refine Kd.C_drew ?_))); rintro e w' ⟨rfl, ⟨nd, rfl⟩⟩; (try first | exact ⟨rfl, _, World.drewN_drewN _ _ _⟩ | exact ⟨rfl, _, Eq.trans (World.drewN_drewN _ _ _) (congrArg (World.drewN _) (Nat.add_assoc _ _ _))⟩))))
                have HWI : Aside0 (wrap64 ((i : Int) + 1) = ((i + 1 : Nat) : Int)) := ⟨by have := HQL.out; have := HM0.out.2; have := CI.out; unfold wrap64; omega⟩
                have ST := Aside0.mk (lstN_step q i)
                clear kc qc ti t0 d0 di
                by_cases cs : ixI q (rd q (i : Int)) = (i : Int)
                · rw [if_pos cs] at ST
                  have ds : (ixI q (rd q (i : Int)) == (i : Int)) = true := beq_iff_eq.mpr cs
                  clear cs
                  generalize hwd : World.drewN wr _ = wd
                  have b6 : Below wr.heap.size wr wd := by rw [← hwd]; exact pw_below_drewN (Below.refl _ _) _
                  have I6 := Aside0.mk ((b6.block _ (blk_lt_ II.out)).trans II.out)
                  have N6 := Aside0.mk (Kd.R_below HN.out b6)
                  have A6 := Aside0.mk (HA.out.below b6)
                  have K6 := Aside0.mk ((b6.block _ (blk_lt_ HK.out)).trans HK.out)
                  have L6 := Aside0.mk (HX.out.below b6)
                  have B6 := Aside0.mk (HB.out.trans (b6.mono HB.out.size))
                  have xl : wd.cell? ⟨lb, 0, none⟩ = some (.slice A (lstN q i).length cl) := (blk_cell I6.out 0).trans rfl
                  have HW16 : Aside0 (IntKind.i16.wrap (i : Int) = (i : Int)) := ⟨IntWalk.i16_in _ (by have := HQL.out; have := HM0.out.2; have := CI.out; omega)⟩
                  clear hwd b6 II HN HA HK HX HB
                  go_wp2_with (first
                    | ((with_reducible refine gate_builtin (b := .append) (xs := #[.tmp 84, .tmp 87]) rfl ?_); at_builtin
                       refine Kd.R_append (Kd.int .i16) (w0 := w) (W := wd) w.heap.size rfl (.tmp 84) (.tmp 87) 139 85 (.int .i16 0) 2 rfl Try.underlying139 infoI85 rfl (by decide) (by omega) (.slice A (lstN q i).length cl) (lstN q i) (IntKind.i16.wrap (i : Int)) [.int .i16 (IntKind.i16.wrap (i : Int))] (fun k => k ≠ gn) (fun _ => False) rfl rfl rfl (fun _ h => h.elim) (fun k hk => by have := A6.out.lt; omega) N6.out B6.out B6.out.size (by have := lstN_len q i; have := HQL.out; have := HM0.out.2; have := CI.out; omega) ?_
                       intro v13 w13 hN hb_ hg hat
                       rw [HW16.out, ← ST.out] at hN
                       obtain ⟨A8, c8, rfl⟩ := Kd.R_slice hN
                       have hty : ∀ k, (Value.ownBlock (.slice A (lstN q i).length cl)) = some k → ∃ c, wd.heap[k]? = some (.cells c 85 (0, 0)) := fun k hk => Kd.R_typed N6.out k hk
                       have hks : Ks [85] wd w13 := Ks.grown hg (fun k c q fz e hk => by obtain ⟨c', h1⟩ := hty k e; rw [h1] at hk; injection hk with hk; injection hk with _ hk; rw [← hk]; simp)
                       have I13 := Aside0.mk (hks.2 _ _ _ _ I6.out (by decide))
                       have K13 := Aside0.mk (hks.2 _ _ _ _ K6.out (by decide))
                       have A13 := Aside0.mk (A6.out.keep (hg.block gn A6.out.lt (fun e => N6.out.1 gn e.symm rfl)))
                       have L13 := Aside0.mk (L6.out.ks hks (by decide) (hg.block gm (blk_lt_ L6.out.m) (fun e => by obtain ⟨c', h1⟩ := hty gm e.symm; exact HOM.out gm c' 85 (0, 0) (by decide) wd L6.out.m h1 rfl)))
                       have B13 := Aside0.mk hb_
                       have N13 := Aside0.mk hN
                       have zl : w13.frozen? ⟨lb, 0, none⟩ = false := blk_frozen I13.out 0
                       have yl : w13.cell? ⟨lb, 0, none⟩ = some (.slice A (lstN q i).length cl) := (blk_cell I13.out 0).trans rfl
                       clear hty hks hN hb_ hg hat xl I6 N6 A6 K6 L6 B6)
                    | fail)
                  go_roundw
                  case rel => exact ⟨i + 1, A8, c8, by rw [HWI.out], ⟨by have := CI.out; omega⟩, ⟨blk_put I13.out 0 _ rfl⟩, ⟨Kd.R_mono (Kd.R_far (p := ⟨lb, 0, none⟩) (Kd.R_types N13.out I13.out (by decide)) (fun _ hk => hk.2) _) (fun _ hk => hk.1)⟩, ⟨A13.out.far (p := ⟨lb, 0, none⟩) _ (A13.out.ne I13.out (by decide))⟩, ⟨hs_ne (p := ⟨lb, 0, none⟩) _ K13.out (fun e => NCL.out e)⟩, ⟨L13.out.far (p := ⟨lb, 0, none⟩) _ (HOM.out lb _ 139 (0, 0) (by decide) w13 L13.out.m I13.out) (fun e => by have h1 := L13.out.t; rw [e] at h1; have h1 := h1.symm.trans I13.out; simp at h1) (fun e => by have h1 := L13.out.r; rw [e] at h1; have h1 := h1.symm.trans I13.out; simp at h1)⟩, ⟨B13.out.setCell (p := ⟨lb, 0, none⟩) HLB.out _⟩⟩
                  case measure => rw [HWI.out]; have := CI.out; simp only [intOf, Int.toNat_natCast]; omega
                · rw [if_neg cs, List.append_nil] at ST
                  have ds : (ixI q (rd q (i : Int)) == (i : Int)) = false := beq_eq_false_iff_ne.mpr cs
                  clear cs
                  generalize hwd : World.drewN wr _ = wd
                  have b6 : Below wr.heap.size wr wd := by rw [← hwd]; exact pw_below_drewN (Below.refl _ _) _
                  have I6 := Aside0.mk ((b6.block _ (blk_lt_ II.out)).trans II.out)
                  have N6 := Aside0.mk (Kd.R_below HN.out b6)
                  rw [← ST.out] at I6 N6
                  have A6 := Aside0.mk (HA.out.below b6)
                  have K6 := Aside0.mk ((b6.block _ (blk_lt_ HK.out)).trans HK.out)
                  have L6 := Aside0.mk (HX.out.below b6)
                  have B6 := Aside0.mk (HB.out.trans (b6.mono HB.out.size))
                  clear hwd b6 II HN HA HK HX HB
                  go_wp2
                  go_roundw
                  case rel => exact ⟨i + 1, A, cl, by rw [HWI.out], ⟨by have := CI.out; omega⟩, I6, N6, A6, K6, L6, B6⟩
                  case measure => rw [HWI.out]; have := CI.out; simp only [intOf, Int.toNat_natCast]; omega
              · have hi : i = q.length := by have := HI.out; omega
                subst hi
                have di : decide ((q.length : Int) < (q.length : Int)) = false := decide_eq_false (by omega)
                rw [lstN_end] at II HN
                have xc : wr.cell? ⟨w.heap.size, 0, none⟩ = some (.slice (some ⟨gm, 0, none⟩) M.length cm) := (blk_cell HX.out.t 0).trans rfl
                have xl : wr.cell? ⟨lb, 0, none⟩ = some (.slice A (lstI q).length cl) := (blk_cell II.out 0).trans rfl
                have GR := Aside0.mk (chkR_of G3.out)
                have CC := Aside0.mk (Kd.R_reads' HN.out).2.2
                have CL := Aside0.mk (Kd.R_reads' HN.out).2.1
                have CM := Aside0.mk (CMC.out wr HX.out.m)
                have HE : Aside0 (∀ args w, (callFunc 127 args).run Try.prog w = .ok (.enter 127 args) w) := ⟨enters_of Try.func127 (by kernel_rfl) rfl⟩
                have CLO : Aside0 (∀ x, (∃ a ∈ lstI q, x ∈ waysL (rd_T89 M a)) → ∀ wz, Below wr.heap.size wr wz → Calls Try.prog 127 (#[.int .i16 x] ++ #[.pointer (some ⟨cb, 0, none⟩), .pointer (some ⟨lb, 0, none⟩)]) wz fun e w' => e = .returned (.int .i16 (ixI (lstI q) (ixI q (rd q x)))) ∧ Below wz.heap.size wz w') :=
                  ⟨fun x hx wz hb => by
                    obtain ⟨a, ha, hx⟩ := hx
                    have ga := GR.out.2.2 a ha
                    have hok : okT M = true := by have := G2.out; unfold chkM at this; rw [Bool.and_eq_true] at this; exact this.1
                    have hxr : 0 ≤ x ∧ x < (M.length : Int) := by
                      obtain ⟨_, g1, g2, g3⟩ := okT_rd hok a ga.1 ga.2
                      unfold waysL at hx
                      split at hx
                      · simp only [List.mem_singleton] at hx; subst hx; exact g1
                      · simp only [List.mem_cons, List.not_mem_nil, or_false] at hx
                        rcases hx with rfl | rfl | rfl
                        · exact g1
                        · exact g2
                        · exact g3
                    exact clo127 gn 0 cn cl cb lb A q (lstI q) x (by have := HQL.out; have := HM0.out.2; omega) (by have := GR.out.2.1; omega) hxr.1 (by have := HQL.out; omega) wz (HA.out.below hb) (by have := HQL.out; have := NC8.out; omega) (Kd.C_below CC.out hb) CL.out ((hb.block _ (blk_lt_ HK.out)).trans HK.out) ((hb.block _ (blk_lt_ II.out)).trans II.out)⟩
                obtain ⟨T, hT⟩ : ∃ T, T = renT M (lstI q) fun v => ixI (lstI q) (ixI q (rd q v)) := ⟨_, rfl⟩
                have HT := Aside0.mk hT
                rw [← hT] at G4 HR2 HRR
                have HTL : Aside0 (T.length = (lstI q).length) := ⟨by rw [hT]; exact renT_len _ _ _⟩
                clear hT
                go_wp2_with (first
                  | (go_at_call 126; (with_reducible refine (renamed_calls 127 #[.pointer (some ⟨cb, 0, none⟩), .pointer (some ⟨lb, 0, none⟩)] HE.out (fun v => ixI (lstI q) (ixI q (rd q v))) (some ⟨gm, 0, none⟩) cm M A cl (lstI q) _ CM.out CL3.out CC.out CL.out GR.out.1 (by have := GR.out.2.1; omega) GR.out.2.2 CLO.out).mono ?_); rintro e w5 ⟨v5, rfl, hR, hb⟩
                     rw [← HT.out] at hR
                     obtain ⟨A5, c5, e5⟩ := Kd.R_slice hR
                     subst e5
                     have Q5 := Aside0.mk (Kd.R_lower hR HB.out.size)
                     have B5 := Aside0.mk (HB.out.trans (hb.mono HB.out.size))
                     have L5 := Aside0.mk (HX.out.below hb)
                     clear hb hR xc xl)
                  | (go_at_call 123; (with_reducible refine (only_calls k A5 c5 T R2 _ (Kd.C_alloc (Kd.R_reads' Q5.out).2.2 _) (Kd.R_reads' Q5.out).2.1 HR2.out (chkR_of G4.out).1 (by have := (chkR_of G4.out).2.1; omega) (chkR_of G4.out).2.2).mono ?_); rintro e w7 ⟨v7, rfl, hR, hb⟩
                     rw [HRR.out] at hR
                     have b7 : Below w5.heap.size w5 w7 := (below_alloc (Below.refl _ _) _ : Below w5.heap.size w5 (w5.alloc _)).trans (hb.mono (by simp))
                     have hR := Kd.R_lower hR (base' := w.heap.size) (by have := B5.out.size; simp; omega)
                     obtain ⟨A7, c7, e7⟩ := Kd.R_slice hR
                     subst e7
                     have Q7 := Aside0.mk hR
                     have L7 := Aside0.mk (L5.out.below b7)
                     have B7 := Aside0.mk (B5.out.trans (b7.mono B5.out.size))
                     have xr : w7.cell? ⟨w.heap.size + 1, 0, none⟩ = some (.slice none 0 0) := (blk_cell L7.out.r 0).trans rfl
                     have zr : w7.frozen? ⟨w.heap.size + 1, 0, none⟩ = false := blk_frozen L7.out.r 0
                     clear hb hR b7)
                  | fail)
                exact bodyPost_ret (results_cell_row rfl _ _ (w.heap.size + 1) 34 #[.slice A7 r.length c7] (0, 0) _ rfl (blk_put L7.out.r 0 _ rfl) Try.underlying34 rfl (by kernel_rfl)) rfl ⟨_, rfl, Kd.R_mono (Kd.R_far (p := ⟨w.heap.size + 1, 0, none⟩) (Kd.R_types Q7.out L7.out.r (by decide)) (fun _ hk => hk.2) _) (fun _ _ => trivial), B7.out.setCell (p := ⟨w.heap.size + 1, 0, none⟩) (by show w.heap.size ≤ w.heap.size + 1; omega) _⟩
          · rw [if_neg ce] at H
            have de : (((foW M p).length : Int) == (c : Int)) = false := beq_eq_false_iff_ne.mpr (by omega)
            have HA := Aside0.mk H
            clear H ce
            go_wp2
            go_roundg k1
            case measure => have := HK1.out; omega
            case rel => exact ⟨neW M p, (foW M p).length, gn, cn, rfl, HA, ⟨by have := HK1.out; omega⟩, ⟨ne_len M p, CFL.out, fun v hv => by
              unfold neW at hv
              obtain ⟨x, hx, rfl⟩ := List.mem_map.1 hv
              have h1 : ixP (foW M p) x ≤ (foW M p).length := List.findIdx_le_length
              have := CFL.out
              omega⟩, KA, ⟨by rw [ne_len]; exact NC8.out⟩, NA, LA, BA⟩
end Go.Proofs.Ytpfnohdnaocpdaa.PT

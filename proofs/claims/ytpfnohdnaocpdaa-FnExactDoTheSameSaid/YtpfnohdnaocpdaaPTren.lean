/- (impl.Tree).renamed by hand: the nodes of a list, whose ways go through a closure. -/
import Derived.Test.YtpfnohdnaocpdaaPTx2
import Derived.Test.YtpfnohdnaocpdaaPTfound
import Derived.Test.YtpfnohdnaocpdaaPTks
import Derived.Test.YtpfnohdnaocpdaaPTha
import Derived.Shelf.Abstract
namespace Go.Proofs.Ytpfnohdnaocpdaa.PT
open Go.RowKit Go.Proofs.YtpfnohdnaocpdaaW.PrintWords Go.Proofs.YtpfnohdnaocpdaaW.PrintLast Go.Proofs.YtpfnohdnaocpdaaW.PrintMore Go.Lib Go.Proofs.YtpfnohdnaocpdaaRP
set_option linter.unusedVariables false
set_option linter.unusedSimpArgs false

theorem infoR89 : (Try.prog.info? 89).map (fun i => (i.zero, i.size, i.bytes)) = some (some (.agg #[.int .i8 0, .int .i8 0, .int .i16 0, .int .i16 0, .int .i16 0]), 5, 8) := by kernel_rfl
def renN (g : Int → Int) (x : S89) : S89 := if x.f0 = 2 then ⟨x.f0, x.f1, ⟨g x.f2.f0, x.f2.f1, x.f2.f2⟩⟩ else ⟨x.f0, x.f1, ⟨g x.f2.f0, g x.f2.f1, g x.f2.f2⟩⟩
/-- A way that has been renamed, or not yet. -/
def uW (t j : Nat) (g : Int → Int) (v : Int) : Int := if t < j then g v else v
def renJ (g : Int → Int) (x : S89) (j : Nat) : S89 := ⟨x.f0, x.f1, ⟨uW 0 j g x.f2.f0, uW 1 j g x.f2.f1, uW 2 j g x.f2.f2⟩⟩
theorem renJ_end (g : Int → Int) (x : S89) : renJ g x (waysL x).length = renN g x := by
  unfold renJ renN
  rw [waysL_len]
  split <;> simp [uW]
def n89 (x : S89) : Array Value := #[.int .i8 x.f0, .int .i8 x.f1, .int .i16 x.f2.f0, .int .i16 x.f2.f1, .int .i16 x.f2.f2]
def renT (T : List S89) (R : List Int) (g : Int → Int) : List S89 := R.map fun a => renN g (rd_T89 T a)
theorem renT_step (T : List S89) (R : List Int) (g : Int → Int) (ys : List S89) (i : Nat) (hi : i < R.length) (hy : ys.length = R.length) (h : ys.take i = renT T (R.take i) g) : (ys.set i (renN g (rd_T89 T (rd R (i : Int))))).take (i + 1) = renT T (R.take (i + 1)) g := by
  have e : R.take (i + 1) = R.take i ++ [rd R (i : Int)] := by
    rw [List.take_add_one]
    simp [rd, List.getD, hi]
  rw [e]
  unfold renT at h ⊢
  rw [List.map_append, ← h, List.take_add_one, List.take_set, List.set_eq_of_length_le (by simp; omega), List.getElem?_set_self (by omega)]
  rfl
theorem rdR_mem {R : List Int} {i : Nat} (h : i < R.length) : rd R (i : Int) ∈ R := by
  simp [rd, List.getD, h]
set_option maxHeartbeats 8000000 in
set_option maxRecDepth 100000 in
theorem renamed_calls (FN : FuncId) (caps : Array Value) (eg : ∀ args w, (callFunc FN args).run Try.prog w = .ok (.enter FN args) w) (g : Int → Int) (A0 : Option Addr) (c0 : Nat) (l : List S89) (A1 : Option Addr) (c1 : Nat) (R : List Int) (w : World)
    (hr0 : Kd.C k89 w A0 l.length l) (hc0 : l.length ≤ c0) (hr1 : Kd.C (Kd.int .i16) w A1 R.length R) (hc1 : R.length ≤ c1) (h0 : 0 < R.length) (hl : R.length ≤ 4000)
    (hin : ∀ a ∈ R, 0 ≤ a ∧ a < l.length)
    (hf : ∀ x, (∃ a ∈ R, x ∈ waysL (rd_T89 l a)) → ∀ wr, Below w.heap.size w wr → Calls Try.prog FN (#[.int .i16 x] ++ caps) wr fun e w' => e = .returned (.int .i16 (g x)) ∧ Below wr.heap.size wr w') :
    Calls Try.prog 126 #[.agg #[.slice A0 l.length c0], .slice A1 R.length c1, .func (.func FN) #[] caps] w fun e w' => ∃ v, e = .returned (.agg #[v]) ∧ Kd.R k89 89 w' w.heap.size (fun _ => True) v (renT l R g) ∧ Below w.heap.size w w' := by
  have hR0 : rd R ((0 : Nat) : Int) ∈ R := rdR_mem h0
  obtain ⟨adT, eT, _⟩ := at_T89 hr0 _ (hin _ hR0).1 (hin _ hR0).2
  subst eT
  obtain ⟨adR, eR, _⟩ := Kd.at_int hr1 0 (Int.le_refl 0) (by omega)
  subst eR
  clear hR0
  have HR0 := Aside0.mk hr0
  have HR1 := Aside0.mk hr1
  have HP := Aside0.mk h0
  have HL := Aside0.mk hl
  have HIN := Aside0.mk hin
  have HF := Aside0.mk hf
  have HC1 := Aside0.mk hc1
  have HC0 := Aside0.mk hc0
  have HE := Aside0.mk eg
  clear hr0 hr1 h0 hl hin hf eg hc0 hc1
  go_enter Try.func126, Try.ntmps126
  go_upto_region 1 with (fail)
  generalize hw2 : World.alloc (World.alloc w _) _ = w2
  have b2 : Below w.heap.size w w2 := by rw [← hw2]; exact below_alloc (below_alloc (Below.refl _ _) _) _
  have T2 := Aside0.mk (show w2.heap[w.heap.size]? = some (.cells #[.slice (some adT) l.length c0] 34 (0, 0)) from by rw [← hw2]; exact ha_old _ (ha_at w _ rfl))
  have R2 := Aside0.mk (show w2.heap[w.heap.size + 1]? = some (.cells #[.slice none 0 0] 34 (0, 0)) from by rw [← hw2]; exact ha_at _ _ (by simp))
  have B2 := Aside0.mk b2
  clear hw2 b2
  obtain ⟨ys0, hys0⟩ : ∃ ys0, ys0 = List.replicate R.length z89 := ⟨_, rfl⟩
  have HY := Aside0.mk hys0
  clear hys0
  have hu89 := Try.underlying89
  go_upto_region 2 with (first | ((with_reducible refine gate_dst (N := 14) rfl ?_); refine Kd.R_make k89 _ 89 rfl (N := 14) rfl 32 _ _ rfl (R.length : Int) rfl rfl Try.underlying32 (.agg #[(.int .i8 0), (.int .i8 0), (.int .i16 0), (.int .i16 0), (.int .i16 0)]) 8 infoR89 rfl (by decide) (by omega) z89 (ok := fun _ => True) (okp := fun _ => True) (k89_mkM _ _ _ z89) (fun _ hk => hk) trivial (by omega) (by have := HL.out; omega) (Below.refl _ _) (Nat.le_refl _) ?_; intro v14 w4 ho5 hb hg_ hnew_; clear hg_ hnew_; rw [Int.toNat_natCast, ← HY.out] at ho5; have T4 := Aside0.mk ((hb.block _ (blk_lt_ T2.out)).trans T2.out); have R4 := Aside0.mk ((hb.block _ (blk_lt_ R2.out)).trans R2.out); have B4 := Aside0.mk (B2.out.trans (hb.mono B2.out.size)); have N4 := Aside0.mk (Kd.R_lower ho5 B2.out.size); clear hb ho5) | fail)
  obtain ⟨An, cn, en⟩ := Kd.R_slice N4.out
  subst en
  have hyl : ys0.length = R.length := by rw [HY.out, List.length_replicate]
  rw [hyl] at N4 ⊢
  have YL := Aside0.mk hyl
  clear hyl T2 R2 B2
  go_wp2_with (fail)
  go_loopw [17] (fun v17 wr => ∃ (i : Nat) (ys : List S89), v17 = .int .i64 (i : Int) ∧ Aside0 (i ≤ R.length) ∧ Aside0 (ys.length = R.length) ∧ Aside0 (ys.take i = renT l (R.take i) g) ∧ Aside0 (Kd.R k89 89 wr w.heap.size (fun _ => True) (.slice An R.length cn) ys) ∧ Aside0 (wr.heap[w.heap.size]? = some (.cells #[.slice (some adT) l.length c0] 34 (0, 0))) ∧ Aside0 (wr.heap[w.heap.size + 1]? = some (.cells #[.slice none 0 0] 34 (0, 0))) ∧ Aside0 (Below w.heap.size w wr)) (fun v _ => R.length - (intOf v).toNat)
  case atStart => exact ⟨0, ys0, rfl, ⟨Nat.zero_le _⟩, YL, ⟨by simp [renT]⟩, N4, T4, R4, B4⟩
  case round =>
    clear N4 T4 R4 B4 YL
    obtain ⟨i, ys, rfl, HI, YL, YT, HN, HT, H2, HB⟩ := hrel
    have tr : wr.cell? ⟨w.heap.size, 0, none⟩ = some (.slice (some adT) l.length c0) := (blk_cell HT.out 0).trans rfl
    by_cases ci : i < R.length
    · obtain ⟨m, hm⟩ : ∃ m, m = rd R (i : Int) := ⟨_, rfl⟩
      obtain ⟨hm0, hm1⟩ := HIN.out m (by rw [hm]; exact rdR_mem ci)
      have HMM := Aside0.mk (show m ∈ R from by rw [hm]; exact rdR_mem ci)
      obtain ⟨ad1, e1, hx1⟩ := Kd.at_int HR1.out (i : Int) (by omega) (by omega)
      injection e1 with e1
      subst e1
      rw [← hm, Int.toNat_natCast] at hx1
      replace hx1 := cel HB.out hx1
      obtain ⟨ad2, e2, y0, y1, y2, y3, y4⟩ := at_T89 HR0.out m hm0 hm1
      injection e2 with e2
      subst e2
      obtain ⟨x, hx⟩ : ∃ x, x = rd_T89 l m := ⟨_, rfl⟩
      have HXX := Aside0.mk hx
      have HM := Aside0.mk hm
      rw [← hx] at y0 y1 y2 y3 y4
      replace y0 := cel HB.out y0
      replace y1 := cel HB.out y1
      replace y2 := cel HB.out y2
      replace y3 := cel HB.out y3
      replace y4 := cel HB.out y4
      clear hx hm
      have t0 := eq_true (show (0 : Int) ≤ (i : Int) by omega)
      have d0 : decide ((0 : Int) ≤ (i : Int)) = true := decide_eq_true (by omega)
      have di : decide ((i : Int) < (R.length : Int)) = true := decide_eq_true (by omega)
      have ti := eq_true (show (i : Int) < (R.length : Int) by omega)
      have tm0 := eq_true hm0
      have dm0 := decide_eq_true hm0
      have tm1 := eq_true hm1
      have dm1 := decide_eq_true hm1
      have CI := Aside0.mk ci
      clear hm0 hm1 ci
      go_upto_region 6 with (fail)
      generalize hwx : World.alloc wr _ = wx
      have bx : Below wr.heap.size wr wx := by rw [← hwx]; exact below_alloc (Below.refl _ _) _
      have X0 := Aside0.mk (show wx.heap[wr.heap.size]? = some (.cells (n89 (renJ g x 0)) 89 (0, 0)) from by rw [← hwx]; exact ha_at wr _ rfl)
      have T0 := Aside0.mk ((bx.block _ (blk_lt_ HT.out)).trans HT.out)
      have R0 := Aside0.mk ((bx.block _ (blk_lt_ H2.out)).trans H2.out)
      have N0 := Aside0.mk (show Kd.R k89 89 wx w.heap.size (fun k => k ≠ wr.heap.size) (.slice An R.length cn) ys from Kd.R_mono (Kd.R_move (Kd.R_bound HN.out) (fun k hk => bx.block k hk.2.2.1)) (fun k hk => by have := hk.2.2.1; omega))
      have HNE := Aside0.mk (show w.heap.size ≠ wr.heap.size ∧ w.heap.size + 1 ≠ wr.heap.size from by have h1 := blk_lt_ HT.out; have h3 := blk_lt_ H2.out; exact ⟨by omega, by omega⟩)
      have HKX := Aside0.mk (show w.heap.size ≤ wr.heap.size from HB.out.size)
      have B0 := Aside0.mk (HB.out.trans (bx.mono HB.out.size))
      clear bx hwx HN HT H2 HB y0 y1 y2 y3 y4 hx1 tr t0 d0 di ti tm0 dm0 tm1 dm1
      generalize wr.heap.size = kx at X0 HNE N0 HKX ⊢
      have x5 := bc5 X0.out
      go_upto_region 7 with (first | (go_at_call 124; (with_reducible refine (ways_x ⟨kx, 0, none⟩ x _ x5.1).mono ?_); rintro e w' ⟨rfl, rfl⟩) | fail)
      clear x5
      go_loopw [29] (fun v29 wr => ∃ j : Nat, v29 = .int .i64 (j : Int) ∧ Aside0 (j ≤ (waysL x).length) ∧ Aside0 (wr.heap[kx]? = some (.cells (n89 (renJ g x j)) 89 (0, 0))) ∧ Aside0 (Kd.R k89 89 wr w.heap.size (fun k => k ≠ kx) (.slice An R.length cn) ys) ∧ Aside0 (wr.heap[w.heap.size]? = some (.cells #[.slice (some adT) l.length c0] 34 (0, 0))) ∧ Aside0 (wr.heap[w.heap.size + 1]? = some (.cells #[.slice none 0 0] 34 (0, 0))) ∧ Aside0 (Below w.heap.size w wr)) (fun v _ => (waysL x).length - (intOf v).toNat)
      case atStart => exact ⟨0, rfl, ⟨Nat.zero_le _⟩, X0, N0, T0, R0, B0⟩
      case round =>
        clear X0 N0 T0 R0 B0
        obtain ⟨j, rfl, HJ, Xj, Nj, Tj, Rj, Bj⟩ := hrel
        have hw3 : (waysL x).length ≤ 3 := by rw [waysL_len]; split <;> omega
        by_cases cj : j < (waysL x).length
        · have dj : decide ((j : Int) < ((waysL x).length : Int)) = true := decide_eq_true (by omega)
          have hwm : rd (waysL x) (j : Int) ∈ waysL x := rdR_mem cj
          rcases (show j = 0 ∨ j = 1 ∨ j = 2 by omega) with rfl | rfl | rfl
          · have HG := Aside0.mk (HF.out x.f2.f0 ⟨m, HMM.out, by rw [← HXX.out]; unfold waysL; split <;> simp⟩)
            have p5 := bc5 Xj.out
            have HEk := HE.out
            go_wp2_with (first | (go_at_fn FN; refine (HG.out _ Bj.out).mono ?_; rintro e w' ⟨rfl, hb⟩
                                  have Xd := Aside0.mk ((hb.block _ (blk_lt_ Xj.out)).trans Xj.out)
                                  have Nd := Aside0.mk (Kd.R_below Nj.out hb)
                                  have Td := Aside0.mk ((hb.block _ (blk_lt_ Tj.out)).trans Tj.out)
                                  have Rd := Aside0.mk ((hb.block _ (blk_lt_ Rj.out)).trans Rj.out)
                                  have Bd := Aside0.mk (Bj.out.trans (hb.mono Bj.out.size))
                                  have zf := bf5 Xd.out
                                  have bf := bc5 Xd.out
                                  clear hb) | fail)
            go_roundw
            case rel => exact ⟨1, by first | (with_reducible rfl) | go_num, ⟨by omega⟩, ⟨blk_put Xd.out 2 _ rfl⟩, ⟨Kd.R_far (p := ⟨kx, 2, none⟩) Nd.out (fun _ h => h) _⟩, ⟨hs_ne (p := ⟨kx, 2, none⟩) _ Td.out HNE.out.1⟩, ⟨hs_ne (p := ⟨kx, 2, none⟩) _ Rd.out HNE.out.2⟩, ⟨Bd.out.setCell (p := ⟨kx, 2, none⟩) HKX.out _⟩⟩
            case measure => simp [intOf]; omega
          · have HG := Aside0.mk (HF.out x.f2.f1 ⟨m, HMM.out, by rw [← HXX.out]; rw [waysL_len] at cj; unfold waysL; split <;> simp_all⟩)
            have p5 := bc5 Xj.out
            have HEk := HE.out
            go_wp2_with (first | (go_at_fn FN; refine (HG.out _ Bj.out).mono ?_; rintro e w' ⟨rfl, hb⟩
                                  have Xd := Aside0.mk ((hb.block _ (blk_lt_ Xj.out)).trans Xj.out)
                                  have Nd := Aside0.mk (Kd.R_below Nj.out hb)
                                  have Td := Aside0.mk ((hb.block _ (blk_lt_ Tj.out)).trans Tj.out)
                                  have Rd := Aside0.mk ((hb.block _ (blk_lt_ Rj.out)).trans Rj.out)
                                  have Bd := Aside0.mk (Bj.out.trans (hb.mono Bj.out.size))
                                  have zf := bf5 Xd.out
                                  have bf := bc5 Xd.out
                                  clear hb) | fail)
            go_roundw
            case rel => exact ⟨2, by first | (with_reducible rfl) | go_num, ⟨by omega⟩, ⟨blk_put Xd.out 3 _ rfl⟩, ⟨Kd.R_far (p := ⟨kx, 3, none⟩) Nd.out (fun _ h => h) _⟩, ⟨hs_ne (p := ⟨kx, 3, none⟩) _ Td.out HNE.out.1⟩, ⟨hs_ne (p := ⟨kx, 3, none⟩) _ Rd.out HNE.out.2⟩, ⟨Bd.out.setCell (p := ⟨kx, 3, none⟩) HKX.out _⟩⟩
            case measure => simp [intOf]; omega
          · have HG := Aside0.mk (HF.out x.f2.f2 ⟨m, HMM.out, by rw [← HXX.out]; rw [waysL_len] at cj; unfold waysL; split <;> simp_all⟩)
            have p5 := bc5 Xj.out
            have HEk := HE.out
            go_wp2_with (first | (go_at_fn FN; refine (HG.out _ Bj.out).mono ?_; rintro e w' ⟨rfl, hb⟩
                                  have Xd := Aside0.mk ((hb.block _ (blk_lt_ Xj.out)).trans Xj.out)
                                  have Nd := Aside0.mk (Kd.R_below Nj.out hb)
                                  have Td := Aside0.mk ((hb.block _ (blk_lt_ Tj.out)).trans Tj.out)
                                  have Rd := Aside0.mk ((hb.block _ (blk_lt_ Rj.out)).trans Rj.out)
                                  have Bd := Aside0.mk (Bj.out.trans (hb.mono Bj.out.size))
                                  have zf := bf5 Xd.out
                                  have bf := bc5 Xd.out
                                  clear hb) | fail)
            go_roundw
            case rel => exact ⟨3, by first | (with_reducible rfl) | go_num, ⟨by omega⟩, ⟨blk_put Xd.out 4 _ rfl⟩, ⟨Kd.R_far (p := ⟨kx, 4, none⟩) Nd.out (fun _ h => h) _⟩, ⟨hs_ne (p := ⟨kx, 4, none⟩) _ Td.out HNE.out.1⟩, ⟨hs_ne (p := ⟨kx, 4, none⟩) _ Rd.out HNE.out.2⟩, ⟨Bd.out.setCell (p := ⟨kx, 4, none⟩) HKX.out _⟩⟩
            case measure => simp [intOf]; omega
        · have hj3 : j = (waysL x).length := by have := HJ.out; omega
          subst hj3
          have h5 := Xj.out
          rw [renJ_end] at h5
          obtain ⟨nx, hnx⟩ : ∃ nx, nx = renN g x := ⟨_, rfl⟩
          rw [← hnx] at h5
          have HNX := Aside0.mk hnx
          clear hnx
          have y5 := bc5 h5
          have H5 := Aside0.mk h5
          clear h5
          obtain ⟨go, co, eo, gb, gl, cl, HG⟩ := Kd.R_form Nj.out (by rw [YL.out]; exact HP.out)
          injection eo with ea_ en_ ec_
          subst ea_ ec_
          clear en_
          have GB := Aside0.mk gb
          have p0 : (0 : Int) ≤ (i : Int) := by omega
          have p1 : (i : Int) < (R.length : Int) := by have := CI.out; omega
          obtain ⟨ce, hcl, hM, hcc, hfr⟩ := Kd.R_elem Nj.out z89 (i : Int) p0 p1
          obtain rfl := k89_openM hM
          have HP12 := Kd.R_seg Nj.out (i : Int) p0 p1 (seg := (n89 nx).toList) (j := 0) hcl hcc (show 5 ≤ 5 from by decide) (x' := nx) (k89_mkM _ _ (fun k => False) nx) (fun _ hk => hk.elim)
          have q0 := hcc 0 _ rfl
          have q1 := hcc 1 _ rfl
          have q2 := hcc 2 _ rfl
          have q3 := hcc 3 _ rfl
          have q4 := hcc 4 _ rfl
          have f0 := hfr 0
          have f1 := hfr 1
          have f2 := hfr 2
          have f3 := hfr 3
          have f4 := hfr 4
          have t0 := eq_true p0
          have t1 := eq_true p1
          have d0 := decide_eq_true p0
          have d1 := decide_eq_true p1
          (try simp only [show (k89).sz = 5 from rfl, Nat.mul_one, Nat.add_zero, Int.toNat_natCast] at q0 q1 q2 q3 q4 f0 f1 f2 f3 f4)
          have hne : go ≠ kx := Nj.out.1 go (by simp [Value.ownBlock])
          clear hcl hcc hfr hM p0 p1 Xj
          have HWI : Aside0 (wrap64 ((i : Int) + 1) = ((i + 1 : Nat) : Int)) := ⟨by have := HL.out; have := CI.out; unfold wrap64; omega⟩
          go_wp2
          obtain ⟨w13, hw⟩ : ∃ w13, w13 = (((((wr.setCell ⟨go, i * 5, none⟩ (.int .i8 nx.f0)).setCell ⟨go, i * 5 + 1, none⟩ (.int .i8 nx.f1)).setCell ⟨go, i * 5 + 2, none⟩ (.int .i16 nx.f2.f0)).setCell ⟨go, i * 5 + 3, none⟩ (.int .i16 nx.f2.f1)).setCell ⟨go, i * 5 + 4, none⟩ (.int .i16 nx.f2.f2)) := ⟨_, rfl⟩
          have hg : wr.grownBy w13 (some go) := (by rw [hw]; exact HP12.2)
          have X13 := Aside0.mk (show Kd.R k89 89 w13 w.heap.size (fun k => k ≠ kx) (.slice (some ⟨go, 0, none⟩) R.length cn) (ys.set i nx) from by rw [hw]; exact HP12.1)
          have T13 := Aside0.mk (blk_grown (g := w.heap.size) Tj.out hg (Kd.R_ne Nj.out Tj.out (by decide)))
          have R13 := Aside0.mk (blk_grown (g := w.heap.size + 1) Rj.out hg (Kd.R_ne Nj.out Rj.out (by decide)))
          have B13 := Aside0.mk (show Below w.heap.size w w13 from by rw [hw]; exact below_set (below_set (below_set (below_set (below_set Bj.out GB.out) GB.out) GB.out) GB.out) GB.out)
          clear hg HP12
          go_roundw
          case rel =>
            rw [← hw]
            exact ⟨i + 1, ys.set i nx, by rw [HWI.out], ⟨by have := CI.out; omega⟩, ⟨by rw [List.length_set]; exact YL.out⟩, ⟨by rw [HNX.out, HXX.out, HM.out]; exact renT_step l R g ys i CI.out YL.out YT.out⟩, ⟨Kd.R_mono X13.out (fun _ _ => trivial)⟩, T13, R13, B13⟩
          case measure => rw [HWI.out]; have := CI.out; simp only [intOf, Int.toNat_natCast]; omega
    · have hi : i = R.length := by have := HI.out; omega
      subst hi
      have di : decide ((R.length : Int) < (R.length : Int)) = false := decide_eq_false (by omega)
      have xr : wr.cell? ⟨w.heap.size + 1, 0, none⟩ = some (.slice none 0 0) := (blk_cell H2.out 0).trans rfl
      have zr : wr.frozen? ⟨w.heap.size + 1, 0, none⟩ = false := blk_frozen H2.out 0
      have hys : ys = renT l R g := by
        have h := YT.out
        rw [List.take_of_length_le (by rw [YL.out]; exact Nat.le_refl _), List.take_length] at h
        exact h
      rw [hys] at HN
      go_wp2
      exact bodyPost_ret (results_cell_row rfl _ _ (w.heap.size + 1) 34 #[.slice An R.length cn] (0, 0) _ rfl (blk_put H2.out 0 _ rfl) Try.underlying34 rfl (by kernel_rfl)) rfl ⟨_, rfl, Kd.R_mono (Kd.R_far (p := ⟨w.heap.size + 1, 0, none⟩) (Kd.R_types HN.out H2.out (by decide)) (fun _ hk => hk.2) _) (fun _ _ => trivial), HB.out.setCell (p := ⟨w.heap.size + 1, 0, none⟩) (by show w.heap.size ≤ w.heap.size + 1; omega) _⟩
end Go.Proofs.Ytpfnohdnaocpdaa.PT

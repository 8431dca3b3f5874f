/- impl.MoebiusTree by hand: the walk. -/
import Derived.Test.YtpfnohdnaocpdaaPTx6
import Derived.Test.YtpfnohdnaocpdaaPTx7
import Derived.Test.YtpfnohdnaocpdaaPTx8
import Derived.Test.YtpfnohdnaocpdaaPTmoebA
import Derived.Deep.CutBlock
namespace Go.Proofs.Ytpfnohdnaocpdaa.PT
open Go.RowKit Go.Proofs.YtpfnohdnaocpdaaW.PrintWords Go.Proofs.YtpfnohdnaocpdaaW.PrintLast Go.Proofs.YtpfnohdnaocpdaaW.PrintMore Go.Lib Go.Proofs.YtpfnohdnaocpdaaRP
set_option linter.unusedVariables false
set_option linter.unusedSimpArgs false
def mX (xs : List S60) (b : Nat → S60) : Nat → List S60
  | 0 => xs
  | j + 1 => fndL (mX xs b j) (b j)
theorem mfnd_le (xs : List S60) (p : S60) : (fndL xs p).length ≤ xs.length + 1 := by
  unfold fndL
  split
  · omega
  · simp
theorem mX_len (xs : List S60) (b : Nat → S60) : ∀ j : Nat, (mX xs b j).length ≤ xs.length + j := by
  intro j
  induction j with
  | zero => exact Nat.le_refl _
  | succ j ih => exact Nat.le_trans (mfnd_le _ _) (by omega)
def uM (k j : Nat) (c : Nat) : Int := if k < j then (c : Int) else 0
set_option maxHeartbeats 8000000 in
set_option maxRecDepth 100000 in
theorem mt_good (k : Nat) (a b c d : Int) (w : World) (h0 : impl_ValidMoebius.f k a b c d = some true) (h1 : impl_Moebius_lies.f k a b c d (-2) 2 = some true) (r : Q4) (hr : impl_Moebius_reduced.f k a b c d = some r) (hwf : wfS (s60 r) = true) (rn : List S89) (rf : Bool) (h : mtl k [s60 r] [] 0 false = some (rn, rf)) (r1 : List S89) (r2 : Int) (hfin : finM (rn, rf) = (r1, r2)) :
    Calls Try.prog 42 #[.agg #[.int .i64 a, .int .i64 b, .int .i64 c, .int .i64 d]] w fun e w' => MtPost r1 r2 w e w' := by
  have HFIN := Aside0.mk hfin
  have V0 := Aside0.mk h0
  have V1 := Aside0.mk h1
  have VR := Aside0.mk hr
  obtain ⟨ra, rb, rc, rd_⟩ := r
  have HNF := Aside0.mk (newFinder_calls ⟨ra, rb, rc, rd_⟩ (wfS_I (p := ⟨ra, rb, rc, rd_⟩) hwf))
  have H' := Aside0.mk h
  clear h0 h1 hr hwf h hfin
  go_enter Try.func42, Try.ntmps42
  go_upto_region 1 with (fail)
  generalize hw1 : World.alloc (World.alloc w _) _ = w1
  have K0 : w1.heap[w.heap.size]? = some (.cells #[.int .i64 a, .int .i64 b, .int .i64 c, .int .i64 d] 60 (0, 0)) := by rw [← hw1]; exact ha_old _ (ha_at _ _ rfl)
  have K2 : w1.heap[w.heap.size + 1]? = some (.cells #[.slice none 0 0] 34 (0, 0)) := by rw [← hw1]; exact ha_at _ _ (by simp)
  have HB : Aside0 (Below w.heap.size w w1) := ⟨by rw [← hw1]; exact below_alloc (below_alloc (Below.refl _ _) _) _⟩
  have G0 := Aside0.mk K0
  have G2 := Aside0.mk K2
  clear hw1 K0 K2
  have k0 := bc4 G0.out
  go_upto_region 5 with (first
      | (go_at_call 85; (with_reducible refine (impl_ValidMoebius.calls k a b c d true _ V0.out).mono ?_); rintro e w7 ⟨rfl, hb⟩
         have B7 := Aside0.mk (HB.out.trans (hb.mono HB.out.size))
         have H0 := Aside0.mk ((hb.block _ (blk_lt_ G0.out)).trans G0.out)
         have H2 := Aside0.mk ((hb.block _ (blk_lt_ G2.out)).trans G2.out)
         have j0 := bc4 H0.out
         clear hb k0)
      | (go_at_call 86; (with_reducible refine (impl_Moebius_lies.calls k a b c d (-2) 2 true _ V1.out).mono ?_); rintro e w8 ⟨rfl, hb⟩
         have B8 := Aside0.mk (B7.out.trans (hb.mono B7.out.size))
         have I0 := Aside0.mk ((hb.block _ (blk_lt_ H0.out)).trans H0.out)
         have I2 := Aside0.mk ((hb.block _ (blk_lt_ H2.out)).trans H2.out)
         have i0 := bc4 I0.out
         clear hb j0)
      | fail)
  go_upto_region 6 with (first
      | (go_at_call 88; (with_reducible refine (impl_Moebius_reduced.calls k a b c d ra rb rc rd_ _ VR.out).mono ?_); rintro e w9 ⟨rfl, hb⟩
         have B9 := Aside0.mk (B8.out.trans (hb.mono B8.out.size))
         have J2 := Aside0.mk ((hb.block _ (blk_lt_ I2.out)).trans I2.out)
         clear hb i0)
      | (go_at_call 87; (with_reducible refine (HNF.out w9).mono ?_); rintro e w3 hN
         obtain ⟨gc, bm, rfl, hF, hb⟩ := hN
         have F3 := Aside0.mk hF
         have B3 := Aside0.mk hb
         clear hF hb)
      | fail)
  generalize hw4 : World.alloc w3 _ = w4
  have b34 : Below w3.heap.size w3 w4 := by rw [← hw4]; exact below_alloc (Below.refl _ _) _
  have b4 : Below w9.heap.size w9 w4 := B3.out.trans (b34.mono B3.out.size)
  have PB4 := Aside0.mk (show w4.heap[w3.heap.size]? = some (.cells #[.pointer (some ⟨gc, 0, none⟩)] 128 (0, 0)) from by rw [← hw4]; exact ha_at w3 _ rfl)
  have F4 := Aside0.mk ((F3.out.lower B9.out.size).below b34)
  have R4 := Aside0.mk ((b4.block _ (blk_lt_ J2.out)).trans J2.out)
  have C4 := Aside0.mk (B9.out.trans (b4.mono B9.out.size))
  clear hw4 b34 b4 F3 B3 J2 B9 I0 I2 H0 H2 B7 B8 G0 G2 HB HNF
  generalize w3.heap.size = pb at PB4 ⊢
  go_upto_region 7 with (first
    | ((with_reducible refine gate_dst (N := 25) rfl ?_); refine Kd.R_lit k89 _ 89 ?hg (N := 25) ?hd (xs := ([] : List S89)) (inner := []) (ok := fun _ => True) (okp := fun _ => True) ?hr ?hp (fun _ hk => hk) trivial (Below.refl _ _) (Nat.le_refl _) (by simp) ?_; (case hd => rfl); (case hg => rfl); (case hr => first | (go_simp; done) | (go_simp; rfl)); (case hp => exact (Reps.none _ _)); intro v25 w5 ho5 hb hg_ hnew_; clear hg_ hnew_
       have P5 := Aside0.mk ((hb.block _ (blk_lt_ PB4.out)).trans PB4.out)
       have F5 := Aside0.mk (F4.out.below hb)
       have R5 := Aside0.mk ((hb.block _ (blk_lt_ R4.out)).trans R4.out)
       have C5 := Aside0.mk (C4.out.trans (hb.mono C4.out.size))
       have N5 := Aside0.mk (Kd.R_lower ho5 C4.out.size)
       clear hb ho5)
    | fail)
  go_upto_region 8 with (fail)
  generalize hw6 : World.alloc w5 _ = w6
  have b6 : Below w5.heap.size w5 w6 := by rw [← hw6]; exact below_alloc (Below.refl _ _) _
  have X6 := Aside0.mk (show BM w5.heap.size pb gc false w6 from ⟨by rw [← hw6]; exact ha_at w5 _ rfl, (b6.block _ (blk_lt_ P5.out)).trans P5.out⟩)
  have F6 := Aside0.mk (F5.out.below b6)
  have R6 := Aside0.mk ((b6.block _ (blk_lt_ R5.out)).trans R5.out)
  have C6 := Aside0.mk (C5.out.trans (b6.mono C5.out.size))
  have N6 := Aside0.mk (Kd.R_below N5.out b6)
  have HOB := Aside0.mk C5.out.size
  clear hw6 b6 PB4 F4 R4 C4 P5 F5 R5 C5 N5
  generalize w5.heap.size = ob at X6 HOB ⊢
  go_wp2_with (fail)
  go_loopg [5, 8] k (fun kq v5 v8 wr => ∃ (xs : List S60) (ns : List S89) (i : Nat) (over : Bool), v8 = .int .i64 (i : Int) ∧ Aside0 (mtl kq xs ns i over = some (rn, rf)) ∧ Aside0 (kq ≤ k) ∧ Aside0 (FS w.heap.size gc bm [] xs wr) ∧ Aside0 (BM ob pb gc over wr) ∧ Aside0 (Kd.R k89 89 wr w.heap.size (fun _ => True) v5 ns) ∧ Aside0 (wr.heap[w.heap.size + 1]? = some (.cells #[.slice none 0 0] 34 (0, 0))) ∧ Aside0 (Below w.heap.size w wr))
  case atStart => exact ⟨[s60 (ra, rb, rc, rd_)], [], 0, false, rfl, H', ⟨Nat.le_refl _⟩, F6, X6, N6, R6, C6⟩
  case round =>
    clear H' F6 X6 N6 R6 C6
    obtain ⟨xs, ns, i, over, rfl, HA, HK1, HF, HX, HN, H2, HB⟩ := hrel
    cases gk with
    | zero => exact absurd HA.out (by simp [mtl])
    | succ k1 =>
      have H := HA.out
      clear HA
      rw [mtl] at H
      obtain ⟨vl, hv, hR⟩ := HF.out.row
      obtain ⟨A, cA, rfl, hle, hC⟩ := Kd.R_reads hR
      obtain ⟨An, cn, en⟩ := Kd.R_slice HN.out
      subst en
      have HC := Aside0.mk hC
      have HV := Aside0.mk hv
      have xl : _ ∧ _ := bc2 hv
      have xp : wr.cell? ⟨pb, 0, none⟩ = some (.pointer (some ⟨gc, 0, none⟩)) := (blk_cell HX.out.p 0).trans rfl
      have xo : wr.cell? ⟨ob, 0, none⟩ = some (.bool over) := (blk_cell HX.out.o 0).trans rfl
      have xr : wr.cell? ⟨w.heap.size + 1, 0, none⟩ = some (.slice none 0 0) := (blk_cell H2.out 0).trans rfl
      have zr : wr.frozen? ⟨w.heap.size + 1, 0, none⟩ = false := blk_frozen H2.out 0
      clear hv hR hC hle
      by_cases ci : i < xs.length
      · have di : decide ((i : Int) < (xs.length : Int)) = true := decide_eq_true (by omega)
        have ti := eq_true (show (i : Int) < (xs.length : Int) by omega)
        cases over with
        | true =>
          rw [if_neg (by simp)] at H
          simp only [Option.some.injEq, Prod.mk.injEq] at H
          obtain ⟨rfl, rfl⟩ := H
          have hf := HFIN.out
          simp only [finM, if_true, Prod.mk.injEq] at hf
          obtain ⟨rfl, rfl⟩ := hf
          go_wp2
          exact bodyPost_ret (results_ct rfl _ _ (w.heap.size + 1) 34 #[.slice none 0 0] (0, 0) _ rfl (blk_put H2.out 0 _ rfl) Try.underlying34 rfl (by kernel_rfl)) rfl ⟨.slice none 0 0, rfl, Kd.R_nil _ _ _ _ _, HB.out.setCell (p := ⟨w.heap.size + 1, 0, none⟩) (by show w.heap.size ≤ w.heap.size + 1; omega) _⟩
        | false =>
          rw [if_pos ⟨ci, rfl⟩] at H
          by_cases cl : xs.length ≤ 3600 ∧ ns.length ≤ 3600
          case neg => rw [if_neg cl] at H; exact absurd H (by simp)
          rw [if_pos cl] at H
          obtain ⟨adl, el, e0, e1, e2, e3⟩ := at_T60 HC.out (i : Int) (by omega) (by omega)
          cases el
          rw [Int.toNat_natCast] at e0 e1 e2 e3
          obtain ⟨s, hs⟩ : ∃ s, s = rd_T60 xs (i : Int) := ⟨_, rfl⟩
          rw [← hs] at H e0 e1 e2 e3
          clear hs
          obtain ⟨sa, sb, sc, sd⟩ := s
          simp only at H e0 e1 e2 e3
          obtain ⟨⟨dg, ok⟩, ht, H⟩ := Option.bind_eq_some_iff.mp H
          have HTL := Aside0.mk ht
          have HL := Aside0.mk cl
          have HWI : Aside0 (wrap64 ((i : Int) + 1) = ((i + 1 : Nat) : Int)) := ⟨by have := cl.1; unfold wrap64; omega⟩
          have HH := Aside0.mk H
          clear ht cl H xr zr
          have t0 := eq_true (show (0 : Int) ≤ (i : Int) by omega)
          have d0 : decide ((0 : Int) ≤ (i : Int)) = true := decide_eq_true (by omega)
          go_upto_region 13 with (fail)
          generalize hwp : World.alloc wr _ = wp
          have bp : Below wr.heap.size wr wp := by rw [← hwp]; exact below_alloc (Below.refl _ _) _
          have P0 := Aside0.mk (show wp.heap[wr.heap.size]? = some (.cells #[.int .i64 sa, .int .i64 sb, .int .i64 sc, .int .i64 sd] 60 (0, 0)) from by rw [← hwp]; exact ha_at wr _ rfl)
          have FP := Aside0.mk (HF.out.avoid bp (Nat.le_refl _) (blk_lt_ P0.out))
          have XP := Aside0.mk (HX.out.below bp)
          have NP := Aside0.mk (Kd.R_below HN.out bp)
          have RP := Aside0.mk ((bp.block _ (blk_lt_ H2.out)).trans H2.out)
          have CP := Aside0.mk (HB.out.trans (bp.mono HB.out.size))
          clear bp hwp HF HX HN H2 HB HV HC xl xp xo e0 e1 e2 e3 di ti t0 d0
          generalize wr.heap.size = kp at P0 FP ⊢
          have PP := P0
          have p4 := bc4 P0.out
          clear P0
          go_upto_region 14 with (first
            | (go_at_call 92; (with_reducible refine (impl_Moebius_tells.calls k1 sa sb sc sd dg ok _ HTL.out).mono ?_); rintro e w8 ⟨rfl, hb⟩
               have F8 := Aside0.mk (FP.out.below hb)
               have X8 := Aside0.mk (XP.out.below hb)
               have N8 := Aside0.mk (Kd.R_below NP.out hb)
               have R8 := Aside0.mk ((hb.block _ (blk_lt_ RP.out)).trans RP.out)
               have C8 := Aside0.mk (CP.out.trans (hb.mono CP.out.size))
               have P8 := Aside0.mk ((hb.block _ (blk_lt_ PP.out)).trans PP.out)
               clear hb p4)
            | fail)
          have HOA := Aside0.mk (show ob ∉ [kp] from fun hm => by
            have e := List.mem_singleton.1 hm
            have h1 := X8.out.o
            rw [e, P8.out] at h1
            injection h1 with h1
            injection h1 with _ h1
            exact absurd h1 (by decide))
          have p4 := bc4 P8.out
          cases ok with
          | true =>
            have h := HH.out
            rw [if_pos rfl] at h
            obtain ⟨⟨b0, b1, b2, b3⟩, hbh, h⟩ := Option.bind_eq_some_iff.mp h
            obtain ⟨o, ho, h⟩ := Option.bind_eq_some_iff.mp h
            have HBH := Aside0.mk hbh
            have HO := Aside0.mk (show ovS false ⟨b0, b1, b2, b3⟩ = some o from ho)
            have HA := Aside0.mk (show mtl k1 (fndL xs ⟨b0, b1, b2, b3⟩) (ns ++ [⟨2, dg, ⟨((ixP xs ⟨b0, b1, b2, b3⟩ : Nat) : Int), 0, 0⟩⟩]) (i + 1) (o || decide (60 < ((fndL xs ⟨b0, b1, b2, b3⟩)).length)) = some (rn, rf) from h)
            clear hbh ho h HH
            go_upto_region 23 with (first
              | (go_at_call 93; (with_reducible refine (impl_Moebius_behind.calls k1 sa sb sc sd dg b0 b1 b2 b3 _ HBH.out).mono ?_); rintro e w9 ⟨rfl, hb⟩
                 have F9 := Aside0.mk (F8.out.below hb)
                 have X9 := Aside0.mk (X8.out.below hb)
                 have N9 := Aside0.mk (Kd.R_below N8.out hb)
                 have R9 := Aside0.mk ((hb.block _ (blk_lt_ R8.out)).trans R8.out)
                 have C9 := Aside0.mk (C8.out.trans (hb.mono C8.out.size))
                 have P9 := Aside0.mk ((hb.block _ (blk_lt_ P8.out)).trans P8.out)
                 clear hb p4)
              | (go_at_call 89; (with_reducible refine (cloM_calls ob pb gc bm [kp] xs false o ⟨b0, b1, b2, b3⟩ HO.out (by have := HL.out; omega) HOB.out HOA.out _ X9.out F9.out C9.out).mono ?_); rintro e wc hP; obtain ⟨rfl, f_, x_, c_, k_, a_⟩ := hP
                 have Fc := Aside0.mk f_
                 have Xc := Aside0.mk x_
                 have Cc := Aside0.mk c_
                 have Nc := Aside0.mk (R_Ks N9.out k_ (by decide))
                 have Rc := Aside0.mk (k_.2 _ _ _ _ R9.out (by decide))
                 have Pc := Aside0.mk ((a_ kp (by simp)).trans P9.out)
                 clear f_ x_ c_ k_ a_)
              | (go_at_call 73; (with_reducible refine (impl_tells.calls dg ((ixP xs ⟨b0, b1, b2, b3⟩ : Nat) : Int) 2 dg ((ixP xs ⟨b0, b1, b2, b3⟩ : Nat) : Int) 0 0 _ rfl).mono ?_); rintro e wt ⟨rfl, hb⟩
                 have Ft := Aside0.mk (Fc.out.below hb)
                 have Xt := Aside0.mk (Xc.out.below hb)
                 have Nt := Aside0.mk (Kd.R_below Nc.out hb)
                 have Rt := Aside0.mk ((hb.block _ (blk_lt_ Rc.out)).trans Rc.out)
                 have Ct := Aside0.mk (Cc.out.trans (hb.mono Cc.out.size))
                 have Pt := Aside0.mk ((hb.block _ (blk_lt_ Pc.out)).trans Pc.out)
                 clear hb)
              | ((with_reducible refine gate_builtin (b := .append) (xs := #[.tmp 53, .tmp 61]) rfl ?_); at_builtin
                 refine Kd.R_append k89 (w0 := w) (W := wt) w.heap.size rfl (.tmp 53) (.tmp 61) 32 89 (.agg #[.int .i8 0, .int .i8 0, .int .i16 0, .int .i16 0, .int .i16 0]) 8 rfl Try.underlying32 info89 rfl (by decide) (by decide) (.slice An ns.length cn) ns ⟨2, dg, ⟨((ixP xs ⟨b0, b1, b2, b3⟩ : Nat) : Int), 0, 0⟩⟩ [.int .i8 2, .int .i8 dg, .int .i16 ((ixP xs ⟨b0, b1, b2, b3⟩ : Nat) : Int), .int .i16 0, .int .i16 0] (fun _ => True) (fun _ => False) rfl rfl (k89_mkM _ _ _ _) (fun _ h => h.elim) (fun _ _ => trivial) Nt.out Ct.out Ct.out.size (by have := HL.out; omega) ?_
                 intro v13 w13 hN hb_ hg hat
                 have hty : ∀ k, (Value.ownBlock (.slice An ns.length cn)) = some k → ∃ c q fz, wt.heap[k]? = some (.cells c q fz) ∧ q ≠ 60 ∧ q ≠ 135 ∧ q = 89 := fun k hk => by obtain ⟨cs_, hc_⟩ := Kd.R_typed Nt.out k hk; exact ⟨_, _, _, hc_, by decide, by decide, rfl⟩
                 have hks : Ks [89] wt w13 := Ks.grown hg (fun k c q fz e hk => by obtain ⟨c', q', fz', h1, _, _, h2⟩ := hty k e; rw [h1] at hk; injection hk with hk; injection hk with _ hk; rw [← hk, h2]; simp)
                 have F13 := Aside0.mk (Ft.out.grown hg (fun k e => by obtain ⟨c', q', fz', h1, h2, h3, _⟩ := hty k e; exact .inr ⟨c', q', fz', h1, h2, h3⟩))
                 have X13 := Aside0.mk (Xt.out.ks hks (by decide) (by decide))
                 have R13 := Aside0.mk (hks.2 _ _ _ _ Rt.out (by decide))
                 have C13 := Aside0.mk hb_
                 have N13 := Aside0.mk hN
                 clear hty hks hN hb_ hg hat)
              | fail)
            have HRO := Aside0.mk (show w.heap.size + 1 ≠ ob from fun e => by
              have h1 := R13.out
              rw [e, X13.out.o] at h1
              injection h1 with h1
              injection h1 with _ h1
              exact absurd h1 (by decide))
            have yo := (blk_cell X13.out.o 0)
            have zo : w13.frozen? ⟨ob, 0, none⟩ = false := blk_frozen X13.out.o 0
            cases o with
            | true =>
              have yo : w13.cell? ⟨ob, 0, none⟩ = some (.bool true) := yo.trans rfl
              go_wp2
              go_roundg k1
              case measure => have := HK1.out; omega
              case rel => exact ⟨(fndL xs ⟨b0, b1, b2, b3⟩), ns ++ [⟨2, dg, ⟨((ixP xs ⟨b0, b1, b2, b3⟩ : Nat) : Int), 0, 0⟩⟩], i + 1, _, by first | (with_reducible rfl) | (rw [HWI.out]; done) | go_num, HA, ⟨by have := HK1.out; omega⟩, ⟨F13.out.forget.set (p := ⟨ob, 0, none⟩) X13.out.o (by decide) (by decide) _⟩, ⟨X13.out.put _⟩, ⟨Kd.R_mono (Kd.R_far (p := ⟨ob, 0, none⟩) (Kd.R_types N13.out X13.out.o (by decide)) (fun _ hk => hk.2) _) (fun _ _ => trivial)⟩, ⟨hs_ne (p := ⟨ob, 0, none⟩) _ R13.out HRO.out⟩, ⟨C13.out.setCell (p := ⟨ob, 0, none⟩) HOB.out _⟩⟩
            | false =>
              have yo : w13.cell? ⟨ob, 0, none⟩ = some (.bool false) := yo.trans rfl
              have yp : w13.cell? ⟨pb, 0, none⟩ = some (.pointer (some ⟨gc, 0, none⟩)) := (blk_cell X13.out.p 0).trans rfl
              obtain ⟨v9, hv9, hR9⟩ := F13.out.row
              obtain ⟨A9, c9, rfl, _, _⟩ := Kd.R_reads hR9
              have xl9 : _ ∧ _ := bc2 hv9
              have dl : decide ((60 : Int) < (((fndL xs ⟨b0, b1, b2, b3⟩)).length : Int)) = decide (60 < ((fndL xs ⟨b0, b1, b2, b3⟩)).length) := decide_eq_decide.2 (by omega)
              clear hv9 hR9
              go_wp2
              go_roundg k1
              case measure => have := HK1.out; omega
              case rel => exact ⟨(fndL xs ⟨b0, b1, b2, b3⟩), ns ++ [⟨2, dg, ⟨((ixP xs ⟨b0, b1, b2, b3⟩ : Nat) : Int), 0, 0⟩⟩], i + 1, _, by first | (with_reducible rfl) | (rw [HWI.out]; done) | go_num, HA, ⟨by have := HK1.out; omega⟩, ⟨F13.out.forget.set (p := ⟨ob, 0, none⟩) X13.out.o (by decide) (by decide) _⟩, ⟨X13.out.put _⟩, ⟨Kd.R_mono (Kd.R_far (p := ⟨ob, 0, none⟩) (Kd.R_types N13.out X13.out.o (by decide)) (fun _ hk => hk.2) _) (fun _ _ => trivial)⟩, ⟨hs_ne (p := ⟨ob, 0, none⟩) _ R13.out HRO.out⟩, ⟨C13.out.setCell (p := ⟨ob, 0, none⟩) HOB.out _⟩⟩
          | false =>
            have h := HH.out
            rw [if_neg (by simp)] at h
            obtain ⟨⟨p0, p1, p2, p3⟩, hb0, h⟩ := Option.bind_eq_some_iff.mp h
            obtain ⟨o0, ho0, h⟩ := Option.bind_eq_some_iff.mp h
            obtain ⟨⟨q0, q1, q2, q3⟩, hb1, h⟩ := Option.bind_eq_some_iff.mp h
            obtain ⟨o1, ho1, h⟩ := Option.bind_eq_some_iff.mp h
            obtain ⟨⟨u0, u1, u2, u3⟩, hb2, h⟩ := Option.bind_eq_some_iff.mp h
            obtain ⟨o2, ho2, h⟩ := Option.bind_eq_some_iff.mp h
            have HB0 := Aside0.mk hb0
            have HB1 := Aside0.mk hb1
            have HB2 := Aside0.mk hb2
            have HA := Aside0.mk (show mtl k1 (fndL (fndL (fndL xs ⟨p0, p1, p2, p3⟩) ⟨q0, q1, q2, q3⟩) ⟨u0, u1, u2, u3⟩) (ns ++ [⟨1, 0, ⟨((ixP xs ⟨p0, p1, p2, p3⟩ : Nat) : Int), ((ixP (fndL xs ⟨p0, p1, p2, p3⟩) ⟨q0, q1, q2, q3⟩ : Nat) : Int), ((ixP (fndL (fndL xs ⟨p0, p1, p2, p3⟩) ⟨q0, q1, q2, q3⟩) ⟨u0, u1, u2, u3⟩ : Nat) : Int)⟩⟩]) (i + 1) (o2 || decide (60 < ((fndL (fndL (fndL xs ⟨p0, p1, p2, p3⟩) ⟨q0, q1, q2, q3⟩) ⟨u0, u1, u2, u3⟩)).length)) = some (rn, rf) from h)
            obtain ⟨bs, hbs⟩ : ∃ bs : Nat → S60, bs = fun j => if j = 0 then ⟨p0, p1, p2, p3⟩ else if j = 1 then ⟨q0, q1, q2, q3⟩ else ⟨u0, u1, u2, u3⟩ := ⟨_, rfl⟩
            obtain ⟨os, hos⟩ : ∃ os : Nat → Bool, os = fun j => if j = 0 then false else if j = 1 then o0 else if j = 2 then o1 else o2 := ⟨_, rfl⟩
            have e0 : bs 0 = ⟨p0, p1, p2, p3⟩ := by rw [hbs]; rfl
            have e1 : bs 1 = ⟨q0, q1, q2, q3⟩ := by rw [hbs]; rfl
            have e2 : bs 2 = ⟨u0, u1, u2, u3⟩ := by rw [hbs]; rfl
            have g0 : os 0 = false := by rw [hos]; rfl
            have g1 : os 1 = o0 := by rw [hos]; rfl
            have g2 : os 2 = o1 := by rw [hos]; rfl
            have g3 : os 3 = o2 := by rw [hos]; rfl
            have HO0 := Aside0.mk (show ovS (os 0) ⟨p0, p1, p2, p3⟩ = some (os 1) by rw [g0, g1]; exact ho0)
            have HO1 := Aside0.mk (show ovS (os 1) ⟨q0, q1, q2, q3⟩ = some (os 2) by rw [g1, g2]; exact ho1)
            have HO2 := Aside0.mk (show ovS (os 2) ⟨u0, u1, u2, u3⟩ = some (os 3) by rw [g2, g3]; exact ho2)
            have HX1 := Aside0.mk (show mX xs bs 1 = (fndL xs ⟨p0, p1, p2, p3⟩) by show fndL xs (bs 0) = _; rw [e0])
            have HX2 := Aside0.mk (show mX xs bs 2 = (fndL (fndL xs ⟨p0, p1, p2, p3⟩) ⟨q0, q1, q2, q3⟩) by show fndL (fndL xs (bs 0)) (bs 1) = _; rw [e0, e1])
            have HX3 := Aside0.mk (show mX xs bs 3 = (fndL (fndL (fndL xs ⟨p0, p1, p2, p3⟩) ⟨q0, q1, q2, q3⟩) ⟨u0, u1, u2, u3⟩) by show fndL (fndL (fndL xs (bs 0)) (bs 1)) (bs 2) = _; rw [e0, e1, e2])
            have HE := Aside0.mk (And.intro e0 (And.intro e1 (And.intro e2 (And.intro g0 g3))))
            clear hb0 hb1 hb2 ho0 ho1 ho2 h HH hbs hos e0 e1 e2 g0 g1 g2 g3 p4
            go_upto_block 2 with (fail)
            generalize hwf : World.alloc w8 _ = wf
            have bf : Below w8.heap.size w8 wf := by rw [← hwf]; exact below_alloc (Below.refl _ _) _
            have Kf := Aside0.mk (show wf.heap[w8.heap.size]? = some (.cells #[.int .i8 1, .int .i8 0, .int .i16 (uM 0 0 (ixP (mX xs bs 0) (bs 0))), .int .i16 (uM 1 0 (ixP (mX xs bs 1) (bs 1))), .int .i16 (uM 2 0 (ixP (mX xs bs 2) (bs 2)))] 89 (0, 0)) from by rw [← hwf]; exact ha_at w8 _ rfl)
            have HNE := Aside0.mk (show kp ≠ w8.heap.size ∧ w.heap.size + 1 ≠ w8.heap.size from by have h1 := blk_lt_ P8.out; have h3 := blk_lt_ R8.out; exact ⟨by omega, by omega⟩)
            have Nf := Aside0.mk (show Kd.R k89 89 wf w.heap.size (fun k => k ≠ w8.heap.size) (.slice An ns.length cn) ns from Kd.R_mono (Kd.R_move (Kd.R_bound N8.out) (fun k hk => bf.block k hk.2.2.1)) (fun k hk => by have := hk.2.2.1; omega))
            have Pf := Aside0.mk ((bf.block _ (blk_lt_ P8.out)).trans P8.out)
            have Rf := Aside0.mk ((bf.block _ (blk_lt_ R8.out)).trans R8.out)
            have Ff := Aside0.mk (F8.out.below bf)
            have Xf := Aside0.mk (show BM ob pb gc (os 0) wf from by rw [HE.out.2.2.2.1]; exact X8.out.below bf)
            have Cf := Aside0.mk (C8.out.trans (bf.mono C8.out.size))
            have HKF := Aside0.mk (show w.heap.size ≤ w8.heap.size from C8.out.size)
            clear bf hwf P8 R8 N8 F8 X8 C8
            generalize w8.heap.size = kf at Kf HNE Nf HKF ⊢
            go_wp2_with (fail)
            go_loopw [64] (fun v64 wr => ∃ j : Nat, v64 = .int .i64 (j : Int) ∧ Aside0 (j ≤ 3) ∧ Aside0 (FS w.heap.size gc bm [kp] (mX xs bs j) wr) ∧ Aside0 (BM ob pb gc (os j) wr) ∧ Aside0 (Kd.R k89 89 wr w.heap.size (fun k => k ≠ kf) (.slice An ns.length cn) ns) ∧ Aside0 (wr.heap[w.heap.size + 1]? = some (.cells #[.slice none 0 0] 34 (0, 0))) ∧ Aside0 (wr.heap[kp]? = some (.cells #[.int .i64 sa, .int .i64 sb, .int .i64 sc, .int .i64 sd] 60 (0, 0))) ∧ Aside0 (wr.heap[kf]? = some (.cells #[.int .i8 1, .int .i8 0, .int .i16 (uM 0 j (ixP (mX xs bs 0) (bs 0))), .int .i16 (uM 1 j (ixP (mX xs bs 1) (bs 1))), .int .i16 (uM 2 j (ixP (mX xs bs 2) (bs 2)))] 89 (0, 0))) ∧ Aside0 (Below w.heap.size w wr)) (fun v _ => 3 - (intOf v).toNat)
            case atStart => exact ⟨0, rfl, ⟨by omega⟩, Ff, Xf, Nf, Rf, Pf, Kf, Cf⟩
            case round =>
              clear Ff Xf Nf Rf Pf Kf Cf
              obtain ⟨j, rfl, HJ3, Fj, Xj, Nj, Rj, Pj, Kj, Cj⟩ := hrel
              by_cases hj : j < 3
              · rcases (show j = 0 ∨ j = 1 ∨ j = 2 by omega) with rfl | rfl | rfl
                · have p4 := bc4 Pj.out
                  go_wp2_with (first
                    | (go_at_call 94; (with_reducible refine (impl_Moebius_with.calls k1 sa sb sc sd (-1) p0 p1 p2 p3 _ HB0.out).mono ?_); rintro e w9 ⟨rfl, hb⟩
                       have F9 := Aside0.mk (Fj.out.below hb)
                       have X9 := Aside0.mk (Xj.out.below hb)
                       have N9 := Aside0.mk (Kd.R_below Nj.out hb)
                       have R9 := Aside0.mk ((hb.block _ (blk_lt_ Rj.out)).trans Rj.out)
                       have C9 := Aside0.mk (Cj.out.trans (hb.mono Cj.out.size))
                       have P9 := Aside0.mk ((hb.block _ (blk_lt_ Pj.out)).trans Pj.out)
                       have K9 := Aside0.mk ((hb.block _ (blk_lt_ Kj.out)).trans Kj.out)
                       clear hb p4)
                    | (go_at_call 89; (with_reducible refine (cloM_calls ob pb gc bm [kp] (mX xs bs 0) (os 0) (os 1) ⟨p0, p1, p2, p3⟩ HO0.out (Nat.le_trans (mX_len xs bs 0) (by have := HL.out; omega)) HOB.out HOA.out _ X9.out F9.out C9.out).mono ?_); rintro e wd hP; obtain ⟨rfl, f_, x_, c_, k_, a_⟩ := hP
                       have Fd := Aside0.mk f_
                       have Xd := Aside0.mk x_
                       have Cd := Aside0.mk c_
                       have Nd := Aside0.mk (R_Ks N9.out k_ (by decide))
                       have Rd := Aside0.mk (k_.2 _ _ _ _ R9.out (by decide))
                       have Pd := Aside0.mk ((a_ kp (by simp)).trans P9.out)
                       have Fd := Aside0.mk (show FS w.heap.size gc bm [kp] (mX xs bs 1) wd from by show FS _ _ _ _ (fndL (mX xs bs 0) (bs 0)) _; rw [HE.out.1]; exact f_)
                       have Kd_ := Aside0.mk (k_.2 _ _ _ _ K9.out (by decide))
                       have bf := bc5 Kd_.out
                       have zf := bf5 Kd_.out
                       clear f_ x_ c_ k_ a_)
                    | fail)
                  go_round
                  case rel => exact ⟨1, by first | (with_reducible rfl) | go_num, ⟨by omega⟩, ⟨Fd.out.set (p := ⟨kf, 2, none⟩) Kd_.out (by decide) (by decide) _⟩, ⟨Xd.out.far (p := ⟨kf, 2, none⟩) Kd_.out (by decide) (by decide) _⟩, ⟨Kd.R_far (p := ⟨kf, 2, none⟩) Nd.out (fun _ h => h) _⟩, ⟨hs_ne (p := ⟨kf, 2, none⟩) _ Rd.out HNE.out.2⟩, ⟨hs_ne (p := ⟨kf, 2, none⟩) _ Pd.out HNE.out.1⟩, ⟨blk_put Kd_.out 2 _ (by rw [HE.out.1]; rfl)⟩, ⟨Cd.out.setCell (p := ⟨kf, 2, none⟩) HKF.out _⟩⟩
                  case measure => first | (simp [intOf]; done) | (simp [intOf]; omega)
                · have p4 := bc4 Pj.out
                  go_wp2_with (first
                    | (go_at_call 94; (with_reducible refine (impl_Moebius_with.calls k1 sa sb sc sd (0) q0 q1 q2 q3 _ HB1.out).mono ?_); rintro e w9 ⟨rfl, hb⟩
                       have F9 := Aside0.mk (Fj.out.below hb)
                       have X9 := Aside0.mk (Xj.out.below hb)
                       have N9 := Aside0.mk (Kd.R_below Nj.out hb)
                       have R9 := Aside0.mk ((hb.block _ (blk_lt_ Rj.out)).trans Rj.out)
                       have C9 := Aside0.mk (Cj.out.trans (hb.mono Cj.out.size))
                       have P9 := Aside0.mk ((hb.block _ (blk_lt_ Pj.out)).trans Pj.out)
                       have K9 := Aside0.mk ((hb.block _ (blk_lt_ Kj.out)).trans Kj.out)
                       clear hb p4)
                    | (go_at_call 89; (with_reducible refine (cloM_calls ob pb gc bm [kp] (mX xs bs 1) (os 1) (os 2) ⟨q0, q1, q2, q3⟩ HO1.out (Nat.le_trans (mX_len xs bs 1) (by have := HL.out; omega)) HOB.out HOA.out _ X9.out F9.out C9.out).mono ?_); rintro e wd hP; obtain ⟨rfl, f_, x_, c_, k_, a_⟩ := hP
                       have Fd := Aside0.mk f_
                       have Xd := Aside0.mk x_
                       have Cd := Aside0.mk c_
                       have Nd := Aside0.mk (R_Ks N9.out k_ (by decide))
                       have Rd := Aside0.mk (k_.2 _ _ _ _ R9.out (by decide))
                       have Pd := Aside0.mk ((a_ kp (by simp)).trans P9.out)
                       have Fd := Aside0.mk (show FS w.heap.size gc bm [kp] (mX xs bs 2) wd from by show FS _ _ _ _ (fndL (mX xs bs 1) (bs 1)) _; rw [HE.out.2.1]; exact f_)
                       have Kd_ := Aside0.mk (k_.2 _ _ _ _ K9.out (by decide))
                       have bf := bc5 Kd_.out
                       have zf := bf5 Kd_.out
                       clear f_ x_ c_ k_ a_)
                    | fail)
                  go_round
                  case rel => exact ⟨2, by first | (with_reducible rfl) | go_num, ⟨by omega⟩, ⟨Fd.out.set (p := ⟨kf, 3, none⟩) Kd_.out (by decide) (by decide) _⟩, ⟨Xd.out.far (p := ⟨kf, 3, none⟩) Kd_.out (by decide) (by decide) _⟩, ⟨Kd.R_far (p := ⟨kf, 3, none⟩) Nd.out (fun _ h => h) _⟩, ⟨hs_ne (p := ⟨kf, 3, none⟩) _ Rd.out HNE.out.2⟩, ⟨hs_ne (p := ⟨kf, 3, none⟩) _ Pd.out HNE.out.1⟩, ⟨blk_put Kd_.out 3 _ (by rw [HE.out.2.1]; rfl)⟩, ⟨Cd.out.setCell (p := ⟨kf, 3, none⟩) HKF.out _⟩⟩
                  case measure => first | (simp [intOf]; done) | (simp [intOf]; omega)
                · have p4 := bc4 Pj.out
                  go_wp2_with (first
                    | (go_at_call 94; (with_reducible refine (impl_Moebius_with.calls k1 sa sb sc sd (1) u0 u1 u2 u3 _ HB2.out).mono ?_); rintro e w9 ⟨rfl, hb⟩
                       have F9 := Aside0.mk (Fj.out.below hb)
                       have X9 := Aside0.mk (Xj.out.below hb)
                       have N9 := Aside0.mk (Kd.R_below Nj.out hb)
                       have R9 := Aside0.mk ((hb.block _ (blk_lt_ Rj.out)).trans Rj.out)
                       have C9 := Aside0.mk (Cj.out.trans (hb.mono Cj.out.size))
                       have P9 := Aside0.mk ((hb.block _ (blk_lt_ Pj.out)).trans Pj.out)
                       have K9 := Aside0.mk ((hb.block _ (blk_lt_ Kj.out)).trans Kj.out)
                       clear hb p4)
                    | (go_at_call 89; (with_reducible refine (cloM_calls ob pb gc bm [kp] (mX xs bs 2) (os 2) (os 3) ⟨u0, u1, u2, u3⟩ HO2.out (Nat.le_trans (mX_len xs bs 2) (by have := HL.out; omega)) HOB.out HOA.out _ X9.out F9.out C9.out).mono ?_); rintro e wd hP; obtain ⟨rfl, f_, x_, c_, k_, a_⟩ := hP
                       have Fd := Aside0.mk f_
                       have Xd := Aside0.mk x_
                       have Cd := Aside0.mk c_
                       have Nd := Aside0.mk (R_Ks N9.out k_ (by decide))
                       have Rd := Aside0.mk (k_.2 _ _ _ _ R9.out (by decide))
                       have Pd := Aside0.mk ((a_ kp (by simp)).trans P9.out)
                       have Fd := Aside0.mk (show FS w.heap.size gc bm [kp] (mX xs bs 3) wd from by show FS _ _ _ _ (fndL (mX xs bs 2) (bs 2)) _; rw [HE.out.2.2.1]; exact f_)
                       have Kd_ := Aside0.mk (k_.2 _ _ _ _ K9.out (by decide))
                       have bf := bc5 Kd_.out
                       have zf := bf5 Kd_.out
                       clear f_ x_ c_ k_ a_)
                    | fail)
                  go_round
                  case rel => exact ⟨3, by first | (with_reducible rfl) | go_num, ⟨by omega⟩, ⟨Fd.out.set (p := ⟨kf, 4, none⟩) Kd_.out (by decide) (by decide) _⟩, ⟨Xd.out.far (p := ⟨kf, 4, none⟩) Kd_.out (by decide) (by decide) _⟩, ⟨Kd.R_far (p := ⟨kf, 4, none⟩) Nd.out (fun _ h => h) _⟩, ⟨hs_ne (p := ⟨kf, 4, none⟩) _ Rd.out HNE.out.2⟩, ⟨hs_ne (p := ⟨kf, 4, none⟩) _ Pd.out HNE.out.1⟩, ⟨blk_put Kd_.out 4 _ (by rw [HE.out.2.2.1]; rfl)⟩, ⟨Cd.out.setCell (p := ⟨kf, 4, none⟩) HKF.out _⟩⟩
                  case measure => first | (simp [intOf]; done) | (simp [intOf]; omega)
              · have hj3 : j = 3 := by have := HJ3.out; omega
                subst hj3
                have h5 := Kj.out
                have hf3 := Fj.out
                have hx3 := Xj.out
                rw [show (uM 0 3 (ixP (mX xs bs 0) (bs 0))) = ((ixP xs ⟨p0, p1, p2, p3⟩ : Nat) : Int) by rw [HE.out.1]; rfl, show (uM 1 3 (ixP (mX xs bs 1) (bs 1))) = ((ixP (fndL xs ⟨p0, p1, p2, p3⟩) ⟨q0, q1, q2, q3⟩ : Nat) : Int) by rw [HE.out.2.1, HX1.out]; rfl, show (uM 2 3 (ixP (mX xs bs 2) (bs 2))) = ((ixP (fndL (fndL xs ⟨p0, p1, p2, p3⟩) ⟨q0, q1, q2, q3⟩) ⟨u0, u1, u2, u3⟩ : Nat) : Int) by rw [HE.out.2.2.1, HX2.out]; rfl] at h5
                rw [HX3.out] at hf3
                rw [HE.out.2.2.2.2] at hx3
                have Fe := Aside0.mk hf3
                have Xe := Aside0.mk hx3
                have Ne := Nj
                have Re := Rj
                have Ce := Cj
                have y5 := bc5 h5
                have HKL := Aside0.mk (blk_lt_ h5)
                clear h5 hf3 hx3 Fj Xj Kj
                go_upto_region 23 with (first
                  | ((with_reducible refine gate_builtin (b := .append) (xs := #[.tmp 78, .tmp 80]) rfl ?_); at_builtin
                     refine Kd.R_append k89 (w0 := w) (W := wr) w.heap.size rfl (.tmp 78) (.tmp 80) 32 89 (.agg #[.int .i8 0, .int .i8 0, .int .i16 0, .int .i16 0, .int .i16 0]) 8 rfl Try.underlying32 info89 rfl (by decide) (by decide) (.slice An ns.length cn) ns ⟨1, 0, ⟨((ixP xs ⟨p0, p1, p2, p3⟩ : Nat) : Int), ((ixP (fndL xs ⟨p0, p1, p2, p3⟩) ⟨q0, q1, q2, q3⟩ : Nat) : Int), ((ixP (fndL (fndL xs ⟨p0, p1, p2, p3⟩) ⟨q0, q1, q2, q3⟩) ⟨u0, u1, u2, u3⟩ : Nat) : Int)⟩⟩ [.int .i8 1, .int .i8 0, .int .i16 ((ixP xs ⟨p0, p1, p2, p3⟩ : Nat) : Int), .int .i16 ((ixP (fndL xs ⟨p0, p1, p2, p3⟩) ⟨q0, q1, q2, q3⟩ : Nat) : Int), .int .i16 ((ixP (fndL (fndL xs ⟨p0, p1, p2, p3⟩) ⟨q0, q1, q2, q3⟩) ⟨u0, u1, u2, u3⟩ : Nat) : Int)] (fun k => k ≠ kf) (fun _ => False) rfl rfl (k89_mkM _ _ _ _) (fun _ h => h.elim) (fun k hk => by have := HKL.out; omega) Ne.out Ce.out Ce.out.size (by have := HL.out; omega) ?_
                     intro v13 w13 hN hb_ hg hat
                     have hty : ∀ k, (Value.ownBlock (.slice An ns.length cn)) = some k → ∃ c q fz, wr.heap[k]? = some (.cells c q fz) ∧ q ≠ 60 ∧ q ≠ 135 ∧ q = 89 := fun k hk => by obtain ⟨cs_, hc_⟩ := Kd.R_typed Ne.out k hk; exact ⟨_, _, _, hc_, by decide, by decide, rfl⟩
                     have hks : Ks [89] wr w13 := Ks.grown hg (fun k c q fz e hk => by obtain ⟨c', q', fz', h1, _, _, h2⟩ := hty k e; rw [h1] at hk; injection hk with hk; injection hk with _ hk; rw [← hk, h2]; simp)
                     have F13 := Aside0.mk (Fe.out.grown hg (fun k e => by obtain ⟨c', q', fz', h1, h2, h3, _⟩ := hty k e; exact .inr ⟨c', q', fz', h1, h2, h3⟩))
                     have X13 := Aside0.mk (Xe.out.ks hks (by decide) (by decide))
                     have R13 := Aside0.mk (hks.2 _ _ _ _ Re.out (by decide))
                     have C13 := Aside0.mk hb_
                     have N13 := Aside0.mk hN
                     clear hty hks hN hb_ hg hat)
                  | fail)
                have HRO := Aside0.mk (show w.heap.size + 1 ≠ ob from fun e => by
                  have h1 := R13.out
                  rw [e, X13.out.o] at h1
                  injection h1 with h1
                  injection h1 with _ h1
                  exact absurd h1 (by decide))
                have yo := (blk_cell X13.out.o 0)
                have zo : w13.frozen? ⟨ob, 0, none⟩ = false := blk_frozen X13.out.o 0
                cases o2 with
                | true =>
                  have yo : w13.cell? ⟨ob, 0, none⟩ = some (.bool true) := yo.trans rfl
                  go_wp2
                  go_roundg k1
                  case measure => have := HK1.out; omega
                  case rel => exact ⟨(fndL (fndL (fndL xs ⟨p0, p1, p2, p3⟩) ⟨q0, q1, q2, q3⟩) ⟨u0, u1, u2, u3⟩), ns ++ [⟨1, 0, ⟨((ixP xs ⟨p0, p1, p2, p3⟩ : Nat) : Int), ((ixP (fndL xs ⟨p0, p1, p2, p3⟩) ⟨q0, q1, q2, q3⟩ : Nat) : Int), ((ixP (fndL (fndL xs ⟨p0, p1, p2, p3⟩) ⟨q0, q1, q2, q3⟩) ⟨u0, u1, u2, u3⟩ : Nat) : Int)⟩⟩], i + 1, _, by first | (with_reducible rfl) | (rw [HWI.out]; done) | go_num, HA, ⟨by have := HK1.out; omega⟩, ⟨F13.out.forget.set (p := ⟨ob, 0, none⟩) X13.out.o (by decide) (by decide) _⟩, ⟨X13.out.put _⟩, ⟨Kd.R_mono (Kd.R_far (p := ⟨ob, 0, none⟩) (Kd.R_types N13.out X13.out.o (by decide)) (fun _ hk => hk.2) _) (fun _ _ => trivial)⟩, ⟨hs_ne (p := ⟨ob, 0, none⟩) _ R13.out HRO.out⟩, ⟨C13.out.setCell (p := ⟨ob, 0, none⟩) HOB.out _⟩⟩
                | false =>
                  have yo : w13.cell? ⟨ob, 0, none⟩ = some (.bool false) := yo.trans rfl
                  have yp : w13.cell? ⟨pb, 0, none⟩ = some (.pointer (some ⟨gc, 0, none⟩)) := (blk_cell X13.out.p 0).trans rfl
                  obtain ⟨v9, hv9, hR9⟩ := F13.out.row
                  obtain ⟨A9, c9, rfl, _, _⟩ := Kd.R_reads hR9
                  have xl9 : _ ∧ _ := bc2 hv9
                  have dl : decide ((60 : Int) < (((fndL (fndL (fndL xs ⟨p0, p1, p2, p3⟩) ⟨q0, q1, q2, q3⟩) ⟨u0, u1, u2, u3⟩)).length : Int)) = decide (60 < ((fndL (fndL (fndL xs ⟨p0, p1, p2, p3⟩) ⟨q0, q1, q2, q3⟩) ⟨u0, u1, u2, u3⟩)).length) := decide_eq_decide.2 (by omega)
                  clear hv9 hR9
                  go_wp2
                  go_roundg k1
                  case measure => have := HK1.out; omega
                  case rel => exact ⟨(fndL (fndL (fndL xs ⟨p0, p1, p2, p3⟩) ⟨q0, q1, q2, q3⟩) ⟨u0, u1, u2, u3⟩), ns ++ [⟨1, 0, ⟨((ixP xs ⟨p0, p1, p2, p3⟩ : Nat) : Int), ((ixP (fndL xs ⟨p0, p1, p2, p3⟩) ⟨q0, q1, q2, q3⟩ : Nat) : Int), ((ixP (fndL (fndL xs ⟨p0, p1, p2, p3⟩) ⟨q0, q1, q2, q3⟩) ⟨u0, u1, u2, u3⟩ : Nat) : Int)⟩⟩], i + 1, _, by first | (with_reducible rfl) | (rw [HWI.out]; done) | go_num, HA, ⟨by have := HK1.out; omega⟩, ⟨F13.out.forget.set (p := ⟨ob, 0, none⟩) X13.out.o (by decide) (by decide) _⟩, ⟨X13.out.put _⟩, ⟨Kd.R_mono (Kd.R_far (p := ⟨ob, 0, none⟩) (Kd.R_types N13.out X13.out.o (by decide)) (fun _ hk => hk.2) _) (fun _ _ => trivial)⟩, ⟨hs_ne (p := ⟨ob, 0, none⟩) _ R13.out HRO.out⟩, ⟨C13.out.setCell (p := ⟨ob, 0, none⟩) HOB.out _⟩⟩
      · rw [if_neg (fun hh => ci hh.1)] at H
        simp only [Option.some.injEq, Prod.mk.injEq] at H
        obtain ⟨rfl, rfl⟩ := H
        have di : decide ((i : Int) < (xs.length : Int)) = false := decide_eq_false (by omega)
        have ti := eq_false (show ¬ (i : Int) < (xs.length : Int) by omega)
        cases over with
        | true =>
          have hf := HFIN.out
          simp only [finM, if_true, Prod.mk.injEq] at hf
          obtain ⟨rfl, rfl⟩ := hf
          go_wp2
          exact bodyPost_ret (results_ct rfl _ _ (w.heap.size + 1) 34 #[.slice none 0 0] (0, 0) _ rfl (blk_put H2.out 0 _ rfl) Try.underlying34 rfl (by kernel_rfl)) rfl ⟨.slice none 0 0, rfl, Kd.R_nil _ _ _ _ _, HB.out.setCell (p := ⟨w.heap.size + 1, 0, none⟩) (by show w.heap.size ≤ w.heap.size + 1; omega) _⟩
        | false =>
          have hf := HFIN.out
          simp only [finM, if_neg (show ¬ (false = true) by decide), Prod.mk.injEq] at hf
          obtain ⟨rfl, rfl⟩ := hf
          go_wp2
          exact bodyPost_ret (results_ct rfl _ _ (w.heap.size + 1) 34 #[.slice An ns.length cn] (0, 0) _ rfl (blk_put H2.out 0 _ rfl) Try.underlying34 rfl (by kernel_rfl)) rfl ⟨.slice An ns.length cn, rfl, Kd.R_mono (Kd.R_far (p := ⟨w.heap.size + 1, 0, none⟩) (Kd.R_types HN.out H2.out (by decide)) (fun _ hk => hk.2) _) (fun _ _ => trivial), HB.out.setCell (p := ⟨w.heap.size + 1, 0, none⟩) (by show w.heap.size ≤ w.heap.size + 1; omega) _⟩
end Go.Proofs.Ytpfnohdnaocpdaa.PT

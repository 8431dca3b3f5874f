/- impl.ComposeTrees by hand: up to its loop. -/
import Derived.Test.YtpfnohdnaocpdaaPTx4
import Derived.Test.YtpfnohdnaocpdaaPTx7
import Derived.Test.YtpfnohdnaocpdaaPTcompA
import Derived.Test.YtpfnohdnaocpdaaPTgoes
import Derived.BigRegion
namespace Go.Proofs.Ytpfnohdnaocpdaa.PT
open Go.RowKit Go.Proofs.YtpfnohdnaocpdaaW.PrintWords Go.Proofs.YtpfnohdnaocpdaaW.PrintLast Go.Proofs.YtpfnohdnaocpdaaW.PrintMore Go.Lib Go.Proofs.YtpfnohdnaocpdaaRP
set_option linter.unusedVariables false
set_option linter.unusedSimpArgs false
def uu (k j : Nat) (c : Nat) : Int := if k < j then (c : Int) else 0
theorem cX_len (l m : List S89) (a : Int) (y : S89) (xs : List S98) : ∀ j : Nat, (cX l m a y xs j).length ≤ xs.length + j := by
  intro j
  induction j with
  | zero => exact Nat.le_refl _
  | succ j ih => exact Nat.le_trans (fndL_le _ _) (by omega)
theorem AllIn.cX3 {W0 : World} {A0 A1 : Option Addr} {c0 c1 : Nat} {l m : List S89} (hT : TT W0 A0 A1 c0 c1 l m) {xs : List S98} (h : AllIn l m xs) {a : Int} {y : S89} (h0 : InR l m a y.f2.f0) (h1 : InR l m a y.f2.f1) (h2 : InR l m a y.f2.f2) : AllIn l m (cX l m a y xs 3) :=
  ((h.fnd (st_in hT h0)).fnd (st_in hT h1)).fnd (st_in hT h2)
theorem BX.far {A0 A1 : Option Addr} {c0 c1 : Nat} {l m : List S89} {tb ub fb pb gc : Nat} {fine : Bool} {w : World} (h : BX A0 A1 c0 c1 l m tb ub fb pb gc fine w) {p : Addr} {c : Array Value} {q : Nat} {fz : Nat × Nat} (hp : w.heap[p.block]? = some (.cells c q fz)) (h1 : q ≠ 34) (h2 : q ≠ 4) (h3 : q ≠ 104) (u : Value) : BX A0 A1 c0 c1 l m tb ub fb pb gc fine (w.setCell p u) := by
  have hne : ∀ {k : Nat} {c' : Array Value} {q' : Nat}, w.heap[k]? = some (.cells c' q' (0, 0)) → q ≠ q' → k ≠ p.block := fun {k c' q'} hk hq e => by
    rw [e, hp] at hk
    injection hk with hk
    injection hk with _ hk
    exact hq hk
  exact ⟨hs_ne _ h.t (hne h.t h1), hs_ne _ h.u (hne h.u h1), hs_ne _ h.f (hne h.f h2), hs_ne _ h.p (hne h.p h3)⟩
set_option maxHeartbeats 8000000 in
set_option maxRecDepth 100000 in
theorem com_good (k : Nat) (A0 A1 : Option Addr) (c0 c1 : Nat) (l m : List S89) (w : World) (hT : TT w A0 A1 c0 c1 l m) (hpl : 0 < l.length) (hpm : 0 < m.length) (h0 : impl_ValidTree.f l = some true) (h1 : impl_ValidTree.f m = some true) (rn : List S89) (rf : Bool) (h : cmp l m k [(st l m 0 0).1] [] 0 (st l m 0 0).2 = some (rn, rf)) (r1 : List S89) (r2 : Int) (hfin : fin (rn, rf) = (r1, r2)) :
    Calls Try.prog 30 #[.agg #[.slice A0 l.length c0], .agg #[.slice A1 m.length c1]] w fun e w' => ComPost r1 r2 w e w' := by
  have HFIN := Aside0.mk hfin
  clear hfin
  have hin : InR l m 0 0 := ⟨Int.le_refl 0, by omega, Int.le_refl 0, by omega⟩
  have HST := Aside0.mk (fun (W : World) (hb : Below w.heap.size w W) => stands_calls l m hT.kl hT.km hT.dm hT.ll hT.lm A0 A1 c0 c1 W (Kd.C_below hT.r0 hb) hT.h0 (Kd.C_below hT.r1 hb) hT.h1 0 0 hin)
  have HSI := st_in hT hin
  have HNF := Aside0.mk (newFinder_calls (st l m 0 0).1 (I16_of hT.ll hT.lm HSI))
  have HI0 := Aside0.mk HSI
  obtain ⟨q, hq⟩ : ∃ q, q = st l m 0 0 := ⟨_, rfl⟩
  rw [← hq] at HI0 HNF h
  replace HST : Aside0 (∀ (W : World), Below w.heap.size w W → Calls Try.prog 69 #[.agg #[.slice A0 l.length c0], .agg #[.slice A1 m.length c1], .agg #[.int .i16 0, .int .i16 0]] W fun e w' => e = .returned (.tuple #[.agg #[.int .i16 q.1.f0, .int .i16 q.1.f1], .bool q.2]) ∧ Below W.heap.size W w') := ⟨by rw [hq]; exact HST.out⟩
  clear hq HSI hin
  obtain ⟨⟨qa, qb⟩, ok⟩ := q
  have V0 := Aside0.mk h0
  have V1 := Aside0.mk h1
  have HT := Aside0.mk hT
  have H' := Aside0.mk h
  have HC0 := Aside0.mk hT.h0
  have HC1 := Aside0.mk hT.h1
  clear h0 h1 h hpl hpm hT
  go_enter Try.func30, Try.ntmps30
  go_upto_region 1 with (fail)
  generalize hw1 : World.alloc (World.alloc (World.alloc w _) _) _ = w1
  have K0 : w1.heap[w.heap.size]? = some (.cells #[.slice A0 l.length c0] 34 (0, 0)) := by rw [← hw1]; exact ha_old _ (ha_old _ (ha_at _ _ rfl))
  have K1 : w1.heap[w.heap.size + 1]? = some (.cells #[.slice A1 m.length c1] 34 (0, 0)) := by rw [← hw1]; exact ha_old _ (ha_at _ _ (by simp))
  have K2 : w1.heap[w.heap.size + 1 + 1]? = some (.cells #[.slice none 0 0] 34 (0, 0)) := by rw [← hw1]; exact ha_at _ _ (by simp)
  have HB : Aside0 (Below w.heap.size w w1) := ⟨by rw [← hw1]; exact below_alloc (below_alloc (below_alloc (Below.refl _ _) _) _) _⟩
  have G0 := Aside0.mk K0
  have G1 := Aside0.mk K1
  have G2 := Aside0.mk K2
  clear hw1 K0 K1 K2
  have k0 : w1.cell? ⟨w.heap.size, 0, none⟩ = some (.slice A0 l.length c0) := (blk_cell G0.out 0).trans rfl
  go_upto_region 3 with (first
      | (go_at_call 60; (with_reducible refine (impl_ValidTree.calls A0 c0 l true _ ?s1 ?s2 V0.out).mono ?_); (case s1 => exact Kd.C_below HT.out.r0 HB.out); (case s2 => exact HC0.out); rintro e w7 ⟨rfl, hb⟩
         have B7 := Aside0.mk hb
         have k1 : w7.cell? ⟨w.heap.size + 1, 0, none⟩ = some (.slice A1 m.length c1) := (blk_cell ((hb.block _ (blk_lt_ G1.out)).trans G1.out) 0).trans rfl
         clear hb k0)
      | (go_at_call 60; (with_reducible refine (impl_ValidTree.calls A1 c1 m true _ ?s1 ?s2 V1.out).mono ?_); (case s1 => exact Kd.C_below HT.out.r1 (HB.out.trans (B7.out.mono HB.out.size))); (case s2 => exact HC1.out); rintro e w8 ⟨rfl, hb⟩
         have B8 := Aside0.mk (B7.out.trans (hb.mono B7.out.size))
         clear hb k1)
      | fail)
  have J0 := Aside0.mk ((B8.out.block _ (blk_lt_ G0.out)).trans G0.out)
  have J1 := Aside0.mk ((B8.out.block _ (blk_lt_ G1.out)).trans G1.out)
  have J2 := Aside0.mk ((B8.out.block _ (blk_lt_ G2.out)).trans G2.out)
  have C8 := Aside0.mk (HB.out.trans (B8.out.mono HB.out.size))
  clear B7 B8 HB G0 G1 G2 V0 V1
  have j0 : w8.cell? ⟨w.heap.size, 0, none⟩ = some (.slice A0 l.length c0) := (blk_cell J0.out 0).trans rfl
  have j1 : w8.cell? ⟨w.heap.size + 1, 0, none⟩ = some (.slice A1 m.length c1) := (blk_cell J1.out 0).trans rfl
  go_upto_region 4 with (first
      | (go_at_call 69; (with_reducible refine (HST.out w8 C8.out).mono ?_); rintro e w9 ⟨rfl, hb⟩
         have B9 := Aside0.mk hb
         clear hb j0 j1)
      | fail)
  generalize hw2 : World.alloc (World.alloc w9 _) _ = w2
  have M0 := Aside0.mk (show w2.heap[w9.heap.size]? = some (.cells #[.int .i16 qa, .int .i16 qb] 101 (0, 0)) from by rw [← hw2]; exact ha_old _ (ha_at _ _ rfl))
  have M1 := Aside0.mk (show w2.heap[w9.heap.size + 1]? = some (.cells #[.bool ok] 4 (0, 0)) from by rw [← hw2]; exact ha_at _ _ (by simp))
  have b2 : Below w8.heap.size w8 w2 := by rw [← hw2]; exact below_alloc (below_alloc B9.out _) _
  have L0 := Aside0.mk ((b2.block _ (blk_lt_ J0.out)).trans J0.out)
  have L1 := Aside0.mk ((b2.block _ (blk_lt_ J1.out)).trans J1.out)
  have L2 := Aside0.mk ((b2.block _ (blk_lt_ J2.out)).trans J2.out)
  have C2 := Aside0.mk (C8.out.trans (b2.mono C8.out.size))
  have NB := Aside0.mk (show w.heap.size ≤ w9.heap.size from by have h1 := C8.out.size; have h2 := B9.out.size; omega)
  clear hw2 b2 J0 J1 J2 C8 B9 HST
  have m0 : w2.cell? ⟨w9.heap.size, 0, none⟩ = some (.int .i16 qa) := (bc2 M0.out).1
  have m1 : w2.cell? ⟨w9.heap.size, 1, none⟩ = some (.int .i16 qb) := (bc2 M0.out).2
  go_upto_region 5 with (first
      | (go_at_call 70; (with_reducible refine (HNF.out w2).mono ?_); rintro e w3 hN
         obtain ⟨gc, bm, rfl, hF, hb⟩ := hN
         have F3 := Aside0.mk hF
         have B3 := Aside0.mk hb
         clear hF hb m0 m1)
      | fail)
  generalize hw4 : World.alloc w3 _ = w4
  have b4 : Below w3.heap.size w3 w4 := by rw [← hw4]; exact below_alloc (Below.refl _ _) _
  have N4 := Aside0.mk (show w4.heap[w3.heap.size]? = some (.cells #[.pointer (some ⟨gc, 0, none⟩)] 104 (0, 0)) from by rw [← hw4]; exact ha_at w3 _ rfl)
  have b24 : Below w2.heap.size w2 w4 := B3.out.trans (b4.mono B3.out.size)
  have X4 := Aside0.mk (show BX A0 A1 c0 c1 l m w.heap.size (w.heap.size + 1) (w9.heap.size + 1) w3.heap.size gc ok w4 from ⟨(b24.block _ (blk_lt_ L0.out)).trans L0.out, (b24.block _ (blk_lt_ L1.out)).trans L1.out, (b24.block _ (blk_lt_ M1.out)).trans M1.out, N4.out⟩)
  have F4 := Aside0.mk ((F3.out.lower C2.out.size).below b4)
  have R4 := Aside0.mk ((b24.block _ (blk_lt_ L2.out)).trans L2.out)
  have C4 := Aside0.mk (C2.out.trans (b24.mono C2.out.size))
  clear hw4 b4 b24 N4 F3 B3 L0 L1 L2 C2 M0 M1 HNF
  have HFB := Aside0.mk (show w.heap.size ≤ w9.heap.size + 1 from by have := NB.out; omega)
  clear NB
  generalize w9.heap.size + 1 = fb at X4 HFB ⊢
  generalize w3.heap.size = pb at X4 ⊢
  go_wp2_with (first
    | ((with_reducible refine gate_dst (N := 35) rfl ?_); refine Kd.R_lit k89 _ 89 ?hg (N := 35) ?hd (xs := ([] : List S89)) (inner := []) (ok := fun _ => True) (okp := fun _ => True) ?hr ?hp (fun _ hk => hk) trivial (Below.refl _ _) (Nat.le_refl _) (by simp) ?_; (case hd => rfl); (case hg => rfl); (case hr => first | (go_simp; done) | (go_simp; rfl)); (case hp => exact (Reps.none _ _)); intro v35 w5 ho5 hb hg_ hnew_; clear hg_ hnew_
       have X5 := Aside0.mk (X4.out.below hb)
       have F5 := Aside0.mk (F4.out.below hb)
       have R5 := Aside0.mk ((hb.block _ (blk_lt_ R4.out)).trans R4.out)
       have C5 := Aside0.mk (C4.out.trans (hb.mono C4.out.size))
       have N5 := Aside0.mk (Kd.R_lower ho5 C4.out.size)
       clear hb ho5)
    | fail)
  have HI5 : Aside0 (AllIn l m [⟨qa, qb⟩]) := ⟨fun p hp => by rw [List.mem_singleton.1 hp]; exact HI0.out⟩
  clear X4 F4 R4 C4 HI0
  go_loopg [9, 11] k (fun kq v9 v11 wr => ∃ (xs : List S98) (ns : List S89) (i : Nat) (fine : Bool), v11 = .int .i64 (i : Int) ∧ Aside0 (cmp l m kq xs ns i fine = some (rn, rf)) ∧ Aside0 (kq ≤ k) ∧ Aside0 (AllIn l m xs) ∧ Aside0 (FS w.heap.size gc bm [] xs wr) ∧ Aside0 (BX A0 A1 c0 c1 l m w.heap.size (w.heap.size + 1) fb pb gc fine wr) ∧ Aside0 (Kd.R k89 89 wr w.heap.size (fun _ => True) v9 ns) ∧ Aside0 (wr.heap[w.heap.size + 1 + 1]? = some (.cells #[.slice none 0 0] 34 (0, 0))) ∧ Aside0 (Below w.heap.size w wr))
  case atStart => exact ⟨[⟨qa, qb⟩], [], 0, ok, rfl, H', ⟨Nat.le_refl _⟩, HI5, F5, X5, N5, R5, C5⟩
  case round =>
    clear H' HI5 F5 X5 N5 R5 C5
    obtain ⟨xs, ns, i, fine, rfl, HA, HK1, HI, HF, HX, HN, H2, HB⟩ := hrel
    cases gk with
    | zero => exact absurd HA.out (by simp [cmp])
    | succ k1 =>
      have H := HA.out
      clear HA
      rw [cmp] at H
      obtain ⟨vl, hv, hR⟩ := HF.out.row
      obtain ⟨A, cA, rfl, hle, hC⟩ := Kd.R_reads hR
      obtain ⟨An, cn, en⟩ := Kd.R_slice HN.out
      subst en
      have HC := Aside0.mk hC
      have HV := Aside0.mk hv
      have xl : _ ∧ _ := bc2 hv
      have xp : wr.cell? ⟨pb, 0, none⟩ = some (.pointer (some ⟨gc, 0, none⟩)) := (blk_cell HX.out.p 0).trans rfl
      have xf : wr.cell? ⟨fb, 0, none⟩ = some (.bool fine) := (blk_cell HX.out.f 0).trans rfl
      have xr : wr.cell? ⟨w.heap.size + 1 + 1, 0, none⟩ = some (.slice none 0 0) := (blk_cell H2.out 0).trans rfl
      have zr : wr.frozen? ⟨w.heap.size + 1 + 1, 0, none⟩ = false := blk_frozen H2.out 0
      clear hv hR hC hle
      by_cases ci : i < xs.length
      · have di : decide ((i : Int) < (xs.length : Int)) = true := decide_eq_true (by omega)
        have ti := eq_true (show (i : Int) < (xs.length : Int) by omega)
        cases fine with
        | false =>
          rw [if_neg (by simp)] at H
          simp only [Option.some.injEq, Prod.mk.injEq] at H
          obtain ⟨rfl, rfl⟩ := H
          have hf := HFIN.out
          simp only [fin, if_true, Prod.mk.injEq] at hf
          obtain ⟨rfl, rfl⟩ := hf
          go_wp2
          exact bodyPost_ret (results_ct rfl _ _ (w.heap.size + 1 + 1) 34 #[.slice none 0 0] (0, 0) _ rfl (blk_put H2.out 0 _ rfl) Try.underlying34 rfl (by kernel_rfl)) rfl ⟨.slice none 0 0, rfl, Kd.R_nil _ _ _ _ _, HB.out.setCell (p := ⟨w.heap.size + 1 + 1, 0, none⟩) (by show w.heap.size ≤ w.heap.size + 1 + 1; omega) _⟩
        | true =>
          rw [if_pos ⟨ci, rfl⟩] at H
          by_cases cl : xs.length ≤ 3600 ∧ ns.length ≤ 3600
          case neg => rw [if_neg cl] at H; exact absurd H (by simp)
          rw [if_pos cl] at H
          have hin := HI.out.rd ci
          obtain ⟨adl, el, e0, e1⟩ := at_T98 HC.out (i : Int) (by omega) (by omega)
          cases el
          rw [Int.toNat_natCast] at e0 e1
          obtain ⟨pp, hpp⟩ : ∃ pp, pp = rd_T98 xs (i : Int) := ⟨_, rfl⟩
          rw [← hpp] at H hin e0 e1
          clear hpp
          obtain ⟨pa, pq⟩ := pp
          simp only at H hin e0 e1
          have HL := Aside0.mk cl
          have HWI : Aside0 (wrap64 ((i : Int) + 1) = ((i + 1 : Nat) : Int)) := ⟨by have := cl.1; unfold wrap64; omega⟩
          have HIN := Aside0.mk hin
          have HH := Aside0.mk H
          clear cl hin H xr zr
          have t0 := eq_true (show (0 : Int) ≤ (i : Int) by omega)
          have d0 : decide ((0 : Int) ≤ (i : Int)) = true := decide_eq_true (by omega)
          go_upto_region 11 with (fail)
          generalize hwp : World.alloc wr _ = wp
          have bp : Below wr.heap.size wr wp := by rw [← hwp]; exact below_alloc (Below.refl _ _) _
          have P0 := Aside0.mk (show wp.heap[wr.heap.size]? = some (.cells #[.int .i16 pa, .int .i16 pq] 101 (0, 0)) from by rw [← hwp]; exact ha_at wr _ rfl)
          have FP := Aside0.mk (HF.out.avoid bp (Nat.le_refl _) (blk_lt_ P0.out))
          have XP := Aside0.mk (HX.out.below bp)
          have NP := Aside0.mk (Kd.R_below HN.out bp)
          have RP_ := Aside0.mk ((bp.block _ (blk_lt_ H2.out)).trans H2.out)
          have CP := Aside0.mk (HB.out.trans (bp.mono HB.out.size))
          clear bp hwp HF HX HN H2 HB HV HC xl xp xf e0 e1 di ti t0 d0
          generalize wr.heap.size = kp at P0 FP ⊢
          obtain ⟨i0, i1, i2, i3⟩ := HIN.out
          obtain ⟨ad0, e0, x0, x1, x2, x3, x4⟩ := at_T89 HT.out.r0 pa i0 i1
          obtain ⟨ad1, e1, y0, y1, y2, y3, y4⟩ := at_T89 HT.out.r1 pq i2 i3
          cases e0
          cases e1
          have hko := okT_rd HT.out.kl pa i0 i1
          have hkp := okT_rd HT.out.km pq i2 i3
          obtain ⟨X, hX⟩ : ∃ X, X = rd_T89 l pa := ⟨_, rfl⟩
          obtain ⟨Y, hY⟩ : ∃ Y, Y = rd_T89 m pq := ⟨_, rfl⟩
          replace HH := Aside0.mk (show _ from (by have h_ := HH.out; rw [← hX, ← hY] at h_; exact h_))
          rw [← hX] at x0 x1 x2 x3 x4 hko
          rw [← hY] at y0 y1 y2 y3 y4 hkp
          clear hX hY
          replace x0 := cel CP.out x0; replace x1 := cel CP.out x1; replace x2 := cel CP.out x2; replace x3 := cel CP.out x3; replace x4 := cel CP.out x4
          replace y0 := cel CP.out y0; replace y1 := cel CP.out y1; replace y2 := cel CP.out y2; replace y3 := cel CP.out y3; replace y4 := cel CP.out y4
          have c0_ : wp.cell? ⟨w.heap.size, 0, none⟩ = some (.slice (some ad0) l.length c0) := (blk_cell XP.out.t 0).trans rfl
          have c1_ : wp.cell? ⟨w.heap.size + 1, 0, none⟩ = some (.slice (some ad1) m.length c1) := (blk_cell XP.out.u 0).trans rfl
          have p0 : wp.cell? ⟨kp, 0, none⟩ = some (.int .i16 pa) := (bc2 P0.out).1
          have p1 : wp.cell? ⟨kp, 1, none⟩ = some (.int .i16 pq) := (bc2 P0.out).2
          obtain ⟨ko, kw0, kw1, kw2⟩ := hko
          obtain ⟨kq_, kv0, kv1, kv2⟩ := hkp
          have l0 : (Addr.add ad0 (pa.toNat * 5)).block < wp.heap.size := World.block_lt_of_cell? wp _ x0
          have l1 : (Addr.add ad1 (pq.toNat * 5)).block < wp.heap.size := World.block_lt_of_cell? wp _ y0
          have l2 : kp < wp.heap.size := blk_lt_ P0.out
          have l3 : w.heap.size < wp.heap.size := blk_lt_ XP.out.t
          have l4 : w.heap.size + 1 < wp.heap.size := blk_lt_ XP.out.u
          have D1 := decide_eq_true i0
          have D2 := decide_eq_true i1
          have D3 := decide_eq_true i2
          have D4 := decide_eq_true i3
          go_region_held3 (fun w' => w'.cell? (Addr.add ad0 (pa.toNat * 5)) = some (.int .i8 X.f0) ∧ w'.cell? ⟨(Addr.add ad0 (pa.toNat * 5)).block, (Addr.add ad0 (pa.toNat * 5)).off + 1, none⟩ = some (.int .i8 X.f1) ∧ w'.cell? ⟨(Addr.add ad0 (pa.toNat * 5)).block, (Addr.add ad0 (pa.toNat * 5)).off + 2, none⟩ = some (.int .i16 X.f2.f0) ∧ w'.cell? ⟨(Addr.add ad0 (pa.toNat * 5)).block, (Addr.add ad0 (pa.toNat * 5)).off + 3, none⟩ = some (.int .i16 X.f2.f1) ∧ w'.cell? ⟨(Addr.add ad0 (pa.toNat * 5)).block, (Addr.add ad0 (pa.toNat * 5)).off + 4, none⟩ = some (.int .i16 X.f2.f2) ∧ w'.cell? (Addr.add ad1 (pq.toNat * 5)) = some (.int .i8 Y.f0) ∧ w'.cell? ⟨(Addr.add ad1 (pq.toNat * 5)).block, (Addr.add ad1 (pq.toNat * 5)).off + 1, none⟩ = some (.int .i8 Y.f1) ∧ w'.cell? ⟨(Addr.add ad1 (pq.toNat * 5)).block, (Addr.add ad1 (pq.toNat * 5)).off + 2, none⟩ = some (.int .i16 Y.f2.f0) ∧ w'.cell? ⟨(Addr.add ad1 (pq.toNat * 5)).block, (Addr.add ad1 (pq.toNat * 5)).off + 3, none⟩ = some (.int .i16 Y.f2.f1) ∧ w'.cell? ⟨(Addr.add ad1 (pq.toNat * 5)).block, (Addr.add ad1 (pq.toNat * 5)).off + 4, none⟩ = some (.int .i16 Y.f2.f2) ∧ w'.cell? ⟨w.heap.size, 0, none⟩ = some (.slice (some ad0) l.length c0) ∧ w'.cell? ⟨w.heap.size + 1, 0, none⟩ = some (.slice (some ad1) m.length c1) ∧ w'.cell? ⟨kp, 0, none⟩ = some (.int .i16 pa) ∧ w'.cell? ⟨kp, 1, none⟩ = some (.int .i16 pq)) (go_keep) (fail)
          all_goals (rename_i hS; clear hS)
          generalize hgW : World.drew (World.alloc (World.alloc wp (.cells #[.int .i8 X.f0, .int .i8 X.f1, .int .i16 X.f2.f0, .int .i16 X.f2.f1, .int .i16 X.f2.f2] 89 (0, 0))) (.cells #[.int .i8 Y.f0, .int .i8 Y.f1, .int .i16 Y.f2.f0, .int .i16 Y.f2.f1, .int .i16 Y.f2.f2] 89 (0, 0))) = W8
          have hW : W8.heap = (World.alloc (World.alloc wp (.cells #[.int .i8 X.f0, .int .i8 X.f1, .int .i16 X.f2.f0, .int .i16 X.f2.f1, .int .i16 X.f2.f2] 89 (0, 0))) (.cells #[.int .i8 Y.f0, .int .i8 Y.f1, .int .i16 Y.f2.f0, .int .i16 Y.f2.f1, .int .i16 Y.f2.f2] 89 (0, 0))).heap := by rw [← hgW]; rfl
          have bW : Below wp.heap.size wp W8 := by rw [← hgW]; exact below_drew1 (below_alloc (below_alloc (Below.refl _ _) _) _)
          have M9 : W8.heap[wp.heap.size + 1]? = some (.cells #[.int .i8 Y.f0, .int .i8 Y.f1, .int .i16 Y.f2.f0, .int .i16 Y.f2.f1, .int .i16 Y.f2.f2] 89 (0, 0)) := by rw [hW]; exact ha_at (World.alloc wp _) _ (by simp)
          have M8 : W8.heap[wp.heap.size]? = some (.cells #[.int .i8 X.f0, .int .i8 X.f1, .int .i16 X.f2.f0, .int .i16 X.f2.f1, .int .i16 X.f2.f2] 89 (0, 0)) := by rw [hW]; exact ha_old _ (ha_at wp _ rfl)
          have P8 := Aside0.mk ((bW.block _ (blk_lt_ P0.out)).trans P0.out)
          have F8 := Aside0.mk (FP.out.below bW)
          have X8 := Aside0.mk (XP.out.below bW)
          have N8 := Aside0.mk (Kd.R_below NP.out bW)
          have R8 := Aside0.mk ((bW.block _ (blk_lt_ RP_.out)).trans RP_.out)
          have C8 := Aside0.mk (CP.out.trans (bW.mono CP.out.size))
          clear hgW bW hW
          generalize wp.heap.size + 1 = g9 at M9 ⊢
          generalize wp.heap.size = g8 at M8 ⊢
          rotate_left
          generalize hgW : World.drew (World.alloc (World.alloc wp (.cells #[.int .i8 Y.f0, .int .i8 Y.f1, .int .i16 Y.f2.f0, .int .i16 Y.f2.f1, .int .i16 Y.f2.f2] 89 (0, 0))) (.cells #[.int .i8 X.f0, .int .i8 X.f1, .int .i16 X.f2.f0, .int .i16 X.f2.f1, .int .i16 X.f2.f2] 89 (0, 0))) = W8
          have hW : W8.heap = (World.alloc (World.alloc wp (.cells #[.int .i8 Y.f0, .int .i8 Y.f1, .int .i16 Y.f2.f0, .int .i16 Y.f2.f1, .int .i16 Y.f2.f2] 89 (0, 0))) (.cells #[.int .i8 X.f0, .int .i8 X.f1, .int .i16 X.f2.f0, .int .i16 X.f2.f1, .int .i16 X.f2.f2] 89 (0, 0))).heap := by rw [← hgW]; rfl
          have bW : Below wp.heap.size wp W8 := by rw [← hgW]; exact below_drew1 (below_alloc (below_alloc (Below.refl _ _) _) _)
          have M8 : W8.heap[wp.heap.size + 1]? = some (.cells #[.int .i8 X.f0, .int .i8 X.f1, .int .i16 X.f2.f0, .int .i16 X.f2.f1, .int .i16 X.f2.f2] 89 (0, 0)) := by rw [hW]; exact ha_at (World.alloc wp _) _ (by simp)
          have M9 : W8.heap[wp.heap.size]? = some (.cells #[.int .i8 Y.f0, .int .i8 Y.f1, .int .i16 Y.f2.f0, .int .i16 Y.f2.f1, .int .i16 Y.f2.f2] 89 (0, 0)) := by rw [hW]; exact ha_old _ (ha_at wp _ rfl)
          have P8 := Aside0.mk ((bW.block _ (blk_lt_ P0.out)).trans P0.out)
          have F8 := Aside0.mk (FP.out.below bW)
          have X8 := Aside0.mk (XP.out.below bW)
          have N8 := Aside0.mk (Kd.R_below NP.out bW)
          have R8 := Aside0.mk ((bW.block _ (blk_lt_ RP_.out)).trans RP_.out)
          have C8 := Aside0.mk (CP.out.trans (bW.mono CP.out.size))
          clear hgW bW hW
          generalize wp.heap.size + 1 = g8 at M8 ⊢
          generalize wp.heap.size = g9 at M9 ⊢
          all_goals
            clear x0 x1 x2 x3 x4 y0 y1 y2 y3 y4 l0 l1 l2 l3 l4 c0_ c1_ p0 p1 D1 D2 D3 D4 FP XP NP RP_ CP P0
            have HW0 := Aside0.mk kw0
            have HV := Aside0.mk (And.intro kv0 (And.intro kv1 kv2))
            clear kw0 kw1 kw2 kv0 kv1 kv2 kq_
            obtain ⟨X0, X1, X2, X3, X4⟩ := X
            obtain ⟨Y0, Y1, Y2, Y3, Y4⟩ := Y
            have HH2 := HH.out
            simp only at HW0 HV HH2 ko M8 M9 ⊢
            clear HH
            have H8 := Aside0.mk M8
            have H9 := Aside0.mk M9
            have m8 := bc5 M8
            clear M8 M9
            have HFA := Aside0.mk (show fb ∉ [kp] from fun hm => by
              have e := List.mem_singleton.1 hm
              have h1 := X8.out.f
              rw [e, P8.out] at h1
              injection h1 with h1
              injection h1 with _ h1
              exact absurd h1 (by decide))
            have HCP : Aside0 (∀ j : Int, True) := ⟨fun _ => trivial⟩
            by_cases cx : X0 = 2
            · subst cx
              rw [if_pos rfl] at HH2
              have HA := Aside0.mk HH2
              clear HH2 ko
              have HJ := Aside0.mk (show InR l m X2 pq from ⟨HW0.out.1, HW0.out.2, i2, i3⟩)
              have p1 : W8.cell? ⟨kp, 1, none⟩ = some (.int .i16 pq) := (bc2 P8.out).2
              have x1 : W8.cell? ⟨g8, 1, none⟩ = some (.int .i8 X1) := m8.2.1
              have x2 : W8.cell? ⟨g8, 2, none⟩ = some (.int .i16 X2) := m8.2.2.1
              go_wp2
              refine start_ (n := 14) (S := fun w' => w'.cell? ⟨g8, 1, none⟩ = some (.int .i8 X1) ∧ w'.cell? ⟨g8, 2, none⟩ = some (.int .i16 X2) ∧ w'.cell? ⟨kp, 1, none⟩ = some (.int .i16 pq)) (ds := [10, 11, 12]) #[false, false, false, false, false, false, false, false, false, false, false, false, false, false] (by kernel_rfl) rfl rfl ⟨x1, x2, p1⟩ (fun hHeld => ?_)
              refine pure_ (i := 0) (N := some 71) (v := ?_) (a' := ?_) #[true, false, false, false, false, false, false, false, false, false, false, false, false, false] rfl rfl (by kernel_rfl) (fun _ _ _ h => h) (Or.inl ⟨by rfl, ?_⟩) ?_ ?_
              rotate_left
              · intro w'
                go_simp
                with_reducible rfl
              rotate_left
              · simp only [Act.put, List.setIfInBounds_toArray, List.set_cons_zero, List.set_cons_succ, i64_w, i32_w]
                rfl
              refine pure_ (i := 1) (N := some 72) (v := ?_) (a' := ?_) #[true, true, false, false, false, false, false, false, false, false, false, false, false, false] rfl rfl (by kernel_rfl) (fun _ _ _ h => h) (Or.inl ⟨by rfl, ?_⟩) ?_ ?_
              rotate_left
              · intro w'
                go_simp
                with_reducible rfl
              rotate_left
              · simp only [Act.put, List.setIfInBounds_toArray, List.set_cons_zero, List.set_cons_succ, i64_w, i32_w]
                rfl
              refine pure_ (i := 3) (N := some 74) (v := ?_) (a' := ?_) #[true, true, false, true, false, false, false, false, false, false, false, false, false, false] rfl rfl (by kernel_rfl) (fun _ _ _ h => h) (Or.inl ⟨by rfl, ?_⟩) ?_ ?_
              rotate_left
              · intro w'
                go_simp
                with_reducible rfl
              rotate_left
              · simp only [Act.put, List.setIfInBounds_toArray, List.set_cons_zero, List.set_cons_succ, i64_w, i32_w]
                rfl
              refine pure_ (i := 4) (N := some 75) (v := ?_) (a' := ?_) #[true, true, false, true, true, false, false, false, false, false, false, false, false, false] rfl rfl (by kernel_rfl) (fun _ _ _ h => h) (Or.inl ⟨by rfl, ?_⟩) ?_ ?_
              rotate_left
              · intro w'
                go_simp
                with_reducible rfl
              rotate_left
              · simp only [Act.put, List.setIfInBounds_toArray, List.set_cons_zero, List.set_cons_succ, i64_w, i32_w]
                rfl
              refine pure_ (i := 5) (N := some 76) (v := ?_) (a' := ?_) #[true, true, false, true, true, true, false, false, false, false, false, false, false, false] rfl rfl (by kernel_rfl) (fun _ _ _ h => h) (Or.inl ⟨by rfl, ?_⟩) ?_ ?_
              rotate_left
              · intro w'
                go_simp
                with_reducible rfl
              rotate_left
              · simp only [Act.put, List.setIfInBounds_toArray, List.set_cons_zero, List.set_cons_succ, i64_w, i32_w]
                rfl
              refine pure_ (i := 7) (N := some 78) (v := ?_) (a' := ?_) #[true, true, false, true, true, true, false, true, false, false, false, false, false, false] rfl rfl (by kernel_rfl) (fun _ _ _ h => h) (Or.inl ⟨by rfl, ?_⟩) ?_ ?_
              rotate_left
              · intro w'
                go_simp
                with_reducible rfl
              rotate_left
              · simp only [Act.put, List.setIfInBounds_toArray, List.set_cons_zero, List.set_cons_succ, i64_w, i32_w]
                rfl
              refine take_ (i := 2) (N := some 73) (v := ?_) (a' := ?_) #[true, true, true, true, true, true, false, true, false, false, false, false, false, false] rfl rfl (by kernel_rfl) (fun _ _ _ h => h) (Or.inl ⟨by rfl, ?_⟩) hHeld ?_ ?_
              rotate_left
              · rintro w' ⟨s0, s1, s2⟩
                go_simp
                with_reducible rfl
              rotate_left
              · simp only [Act.put, List.setIfInBounds_toArray, List.set_cons_zero, List.set_cons_succ, i64_w, i32_w]
                rfl
              refine take_ (i := 6) (N := some 77) (v := ?_) (a' := ?_) #[true, true, true, true, true, true, true, true, false, false, false, false, false, false] rfl rfl (by kernel_rfl) (fun _ _ _ h => h) (Or.inl ⟨by rfl, ?_⟩) hHeld ?_ ?_
              rotate_left
              · rintro w' ⟨s0, s1, s2⟩
                go_simp
                with_reducible rfl
              rotate_left
              · simp only [Act.put, List.setIfInBounds_toArray, List.set_cons_zero, List.set_cons_succ, i64_w, i32_w]
                rfl
              refine take_ (i := 8) (N := some 79) (v := ?_) (a' := ?_) #[true, true, true, true, true, true, true, true, true, false, false, false, false, false] rfl rfl (by kernel_rfl) (fun _ _ _ h => h) (Or.inl ⟨by rfl, ?_⟩) hHeld ?_ ?_
              rotate_left
              · rintro w' ⟨s0, s1, s2⟩
                go_simp
                with_reducible rfl
              rotate_left
              · simp only [Act.put, List.setIfInBounds_toArray, List.set_cons_zero, List.set_cons_succ, i64_w, i32_w]
                rfl
              refine one_ (i := 9) (N := some 80) #[true, true, true, true, true, true, true, true, true, true, false, false, false, false] rfl rfl (by kernel_rfl) (by decide) (fun K hK => ?_)
              refine goesC_ (f := 71) Try.func71 (by kernel_rfl) rfl #[.int .i16 X2, .int .i16 pq] #[.pointer (some ⟨w.heap.size, 0, none⟩), .pointer (some ⟨w.heap.size + 1, 0, none⟩), .pointer (some ⟨fb, 0, none⟩), .pointer (some ⟨pb, 0, none⟩)] #[.int .i16 X2, .int .i16 pq, .pointer (some ⟨w.heap.size, 0, none⟩), .pointer (some ⟨w.heap.size + 1, 0, none⟩), .pointer (some ⟨fb, 0, none⟩), .pointer (some ⟨pb, 0, none⟩)] (by rfl) rfl 74 rfl rfl (by simp only [List.map_toArray, List.map_cons, List.map_nil]; rfl) rfl ?_
              with_reducible refine (clo_calls HT.out w.heap.size (w.heap.size + 1) fb pb gc bm [kp] xs true X2 pq HJ.out (by have := HL.out; omega) HFB.out HFA.out _ (X8.out.below (below_drew1 (Below.refl _ _))) (F8.out.below (below_drew1 (Below.refl _ _))) (Below.drew C8.out)).mono ?_
              rintro e wc hP
              obtain ⟨rfl, f_, x_, c_, k_, a_⟩ := hP
              refine ⟨_, rfl, ?_⟩
              have Fc := Aside0.mk f_
              have Xc := Aside0.mk x_
              have Cc := Aside0.mk c_
              have Nc := Aside0.mk (R_Ks (Kd.R_below N8.out (below_drew1 (Below.refl _ _))) k_ (by decide))
              have Rc := Aside0.mk (k_.2 _ _ _ _ (show W8.drew.heap[w.heap.size + 1 + 1]? = _ from R8.out) (by decide))
              have b8 := bc5 (k_.2 _ _ _ _ (show W8.drew.heap[g8]? = _ from H8.out) (by decide))
              have bk := bc2 ((a_ kp (by simp)).trans (show W8.drew.heap[kp]? = _ from P8.out))
              clear f_ x_ c_ k_ a_
              refine hK.out _ _ ⟨b8.2.1, b8.2.2.1, bk.2⟩ (fun hHeld => ?_)
              clear hK K
              refine norm_ (a' := ?_) ?_ ?_
              rotate_left
              · show Act.put _ (some 80) _ = _
                simp only [Act.put, List.setIfInBounds_toArray, List.set_cons_zero, List.set_cons_succ, i64_w, i32_w]
                rfl
              refine last_ (i := 10) (N := some 81) #[true, true, true, true, true, true, true, true, true, true, true, false, false, false] rfl rfl (by kernel_rfl) (by decide) (fun K hK => ?_)
              refine goes_ Try.func73 (by kernel_rfl) rfl #[.int .i8 X1, .int .i16 ((ixP xs (st l m X2 pq).1 : Nat) : Int)] (by rfl) rfl rfl (by simp only [List.map_toArray, List.map_cons, List.map_nil]; rfl) ?_
              with_reducible refine (impl_tells.calls X1 ((ixP xs (st l m X2 pq).1 : Nat) : Int) 2 X1 ((ixP xs (st l m X2 pq).1 : Nat) : Int) 0 0 _ rfl).mono ?_
              rintro e wt ⟨rfl, hb_⟩
              refine ⟨_, rfl, ?_⟩
              have Ft := Aside0.mk (Fc.out.below hb_)
              have Xt := Aside0.mk (Xc.out.below hb_)
              have Ct := Aside0.mk (Cc.out.trans (hb_.mono Cc.out.size))
              have Nt := Aside0.mk (Kd.R_below Nc.out hb_)
              have Rt := Aside0.mk ((hb_.block _ (blk_lt_ Rc.out)).trans Rc.out)
              clear hb_
              refine hK.out _ _ ?_
              clear hK K
              refine norm_ (a' := ?_) ?_ ?_
              rotate_left
              · show Act.put _ (some 81) _ = _
                simp only [Act.put, List.setIfInBounds_toArray, List.set_cons_zero, List.set_cons_succ, i64_w, i32_w]
                rfl
              refine last_ (i := 11) (N := some 82) #[true, true, true, true, true, true, true, true, true, true, true, true, false, false] rfl rfl (by kernel_rfl) (by decide) (fun K hK => ?_)
              refine value_ (w1 := ?_) (v := ?_) (by rfl) rfl ?_ ?_
              rotate_left 2
              · go_simp
                constructor
                · rfl
                · rfl
              refine hK.out _ _ ?_
              clear hK K
              refine norm_ (a' := ?_) ?_ ?_
              rotate_left
              · show Act.put _ (some 82) _ = _
                simp only [Act.put, List.setIfInBounds_toArray, List.set_cons_zero, List.set_cons_succ, i64_w, i32_w]
                rfl
              refine last_ (i := 12) (N := some 83) #[true, true, true, true, true, true, true, true, true, true, true, true, true, false] rfl rfl (by kernel_rfl) (by decide) (fun K hK => ?_)
              refine Kd.R_append_step k89 (w0 := w) (W := wt) w.heap.size (by first | assumption | rfl) (.tmp 71) (.tmp 82) 32 89 (.agg #[.int .i8 0, .int .i8 0, .int .i16 0, .int .i16 0, .int .i16 0]) 8 rfl Try.underlying32 info89 rfl (by decide) (by decide) (.slice An ns.length cn) ns ⟨2, X1, ⟨((ixP xs (st l m X2 pq).1 : Nat) : Int), 0, 0⟩⟩ [.int .i8 2, .int .i8 X1, .int .i16 ((ixP xs (st l m X2 pq).1 : Nat) : Int), .int .i16 0, .int .i16 0] (fun _ => True) (fun _ => False) rfl rfl (k89_mkM _ _ _ ⟨2, X1, ⟨((ixP xs (st l m X2 pq).1 : Nat) : Int), 0, 0⟩⟩) (fun _ h => h.elim) (fun _ _ => trivial) Nt.out Ct.out Ct.out.size (by have := HL.out; omega) ?_
              intro v13 w13 hN hb_ hg hat
              have hty : ∀ k, (Value.ownBlock (.slice An ns.length cn)) = some k → ∃ c q fz, wt.heap[k]? = some (.cells c q fz) ∧ q ≠ 101 ∧ q ≠ 111 ∧ q = 89 := fun k hk => by obtain ⟨cs_, hc_⟩ := Kd.R_typed Nt.out k hk; exact ⟨_, _, _, hc_, by decide, by decide, rfl⟩
              have hks : Ks [89] wt w13 := Ks.grown hg (fun k c q fz e hk => by obtain ⟨c', q', fz', h1, _, _, h2⟩ := hty k e; rw [h1] at hk; injection hk with hk; injection hk with _ hk; rw [← hk, h2]; simp)
              have F13 := Aside0.mk (Ft.out.grown hg (fun k e => by obtain ⟨c', q', fz', h1, h2, h3, _⟩ := hty k e; exact .inr ⟨c', q', fz', h1, h2, h3⟩))
              have X13 := Aside0.mk (show BX (some ad0) (some ad1) c0 c1 l m w.heap.size (w.heap.size + 1) fb pb gc _ w13 from ⟨hks.2 _ _ _ _ Xt.out.t (by decide), hks.2 _ _ _ _ Xt.out.u (by decide), hks.2 _ _ _ _ Xt.out.f (by decide), hks.2 _ _ _ _ Xt.out.p (by decide)⟩)
              have R13 := Aside0.mk (hks.2 _ _ _ _ Rt.out (by decide))
              have C13 := Aside0.mk hb_
              have N13 := Aside0.mk hN
              clear hty hks hN hb_ hg hat
              refine hK.out _ _ ?_
              clear hK K
              refine norm_ (a' := ?_) ?_ ?_
              rotate_left
              · show Act.put _ (some 83) _ = _
                simp only [Act.put, List.setIfInBounds_toArray, List.set_cons_zero, List.set_cons_succ, i64_w, i32_w]
                rfl
              refine pure_ (i := 13) (N := some 9) (v := ?_) (a' := ?_) #[true, true, true, true, true, true, true, true, true, true, true, true, true, true] rfl rfl (by kernel_rfl) (fun _ _ _ h => h) (Or.inl ⟨by rfl, ?_⟩) ?_ ?_
              rotate_left
              · intro w'
                go_simp
                with_reducible rfl
              rotate_left
              · simp only [Act.put, List.setIfInBounds_toArray, List.set_cons_zero, List.set_cons_succ, i64_w, i32_w]
                rfl
              refine done_ (by kernel_rfl) ?_

              go_wp2
              go_roundg k1
              case measure => have := HK1.out; omega
              case rel => exact ⟨_, _, i + 1, _, by first | (with_reducible rfl) | (rw [HWI.out]; done) | go_num, HA, ⟨by have := HK1.out; omega⟩, ⟨HI.out.fnd (st_in HT.out HJ.out)⟩, ⟨F13.out.forget⟩, ⟨X13.out⟩, ⟨N13.out⟩, ⟨R13.out⟩, ⟨C13.out⟩⟩
            · have hx1 : X0 = 1 := by rcases ko with h | h; exact h; exact absurd h cx
              subst hx1
              rw [if_neg (by decide)] at HH2
              have HA := Aside0.mk HH2
              clear HH2 ko cx
              go_upto_block 2 with (fail)
              generalize hwf : World.alloc W8 _ = wf
              have bf : Below W8.heap.size W8 wf := by rw [← hwf]; exact below_alloc (Below.refl _ _) _
              have Kf := Aside0.mk (show wf.heap[W8.heap.size]? = some (.cells #[.int .i8 1, .int .i8 0, .int .i16 (uu 0 0 (cI l m pa ⟨Y0, Y1, ⟨Y2, Y3, Y4⟩⟩ xs 0)), .int .i16 (uu 1 0 (cI l m pa ⟨Y0, Y1, ⟨Y2, Y3, Y4⟩⟩ xs 1)), .int .i16 (uu 2 0 (cI l m pa ⟨Y0, Y1, ⟨Y2, Y3, Y4⟩⟩ xs 2))] 89 (0, 0)) from by rw [← hwf]; exact ha_at W8 _ rfl)
              have HNE := Aside0.mk (show kp ≠ W8.heap.size ∧ g9 ≠ W8.heap.size ∧ w.heap.size + 1 + 1 ≠ W8.heap.size from by have h1 := blk_lt_ P8.out; have h2 := blk_lt_ H9.out; have h3 := blk_lt_ R8.out; exact ⟨by omega, by omega, by omega⟩)
              have Nf := Aside0.mk (show Kd.R k89 89 wf w.heap.size (fun k => k ≠ W8.heap.size) (.slice An ns.length cn) ns from Kd.R_mono (Kd.R_move (Kd.R_bound N8.out) (fun k hk => bf.block k hk.2.2.1)) (fun k hk => by have := hk.2.2.1; omega))
              have Pf := Aside0.mk ((bf.block _ (blk_lt_ P8.out)).trans P8.out)
              have Yf := Aside0.mk ((bf.block _ (blk_lt_ H9.out)).trans H9.out)
              have Rf := Aside0.mk ((bf.block _ (blk_lt_ R8.out)).trans R8.out)
              have Ff := Aside0.mk (F8.out.below bf)
              have Xf := Aside0.mk (X8.out.below bf)
              have Cf := Aside0.mk (C8.out.trans (bf.mono C8.out.size))
              have HKF := Aside0.mk (show w.heap.size ≤ W8.heap.size from C8.out.size)
              clear bf hwf P8 H9 H8 R8 N8 F8 X8 C8 m8 HW0
              generalize W8.heap.size = kf at Kf HNE Nf HKF ⊢
              go_wp2_with (fail)
              go_loopw [85] (fun v85 wr => ∃ j : Nat, v85 = .int .i64 (j : Int) ∧ Aside0 (j ≤ 3) ∧ Aside0 (FS w.heap.size gc bm [kp] (cX l m pa ⟨Y0, Y1, ⟨Y2, Y3, Y4⟩⟩ xs j) wr) ∧ Aside0 (BX (some ad0) (some ad1) c0 c1 l m w.heap.size (w.heap.size + 1) fb pb gc (cF l m pa ⟨Y0, Y1, ⟨Y2, Y3, Y4⟩⟩ j) wr) ∧ Aside0 (Kd.R k89 89 wr w.heap.size (fun k => k ≠ kf) (.slice An ns.length cn) ns) ∧ Aside0 (wr.heap[w.heap.size + 1 + 1]? = some (.cells #[.slice none 0 0] 34 (0, 0))) ∧ Aside0 (wr.heap[kp]? = some (.cells #[.int .i16 pa, .int .i16 pq] 101 (0, 0))) ∧ Aside0 (wr.heap[g9]? = some (.cells #[.int .i8 Y0, .int .i8 Y1, .int .i16 Y2, .int .i16 Y3, .int .i16 Y4] 89 (0, 0))) ∧ Aside0 (wr.heap[kf]? = some (.cells #[.int .i8 1, .int .i8 0, .int .i16 (uu 0 j (cI l m pa ⟨Y0, Y1, ⟨Y2, Y3, Y4⟩⟩ xs 0)), .int .i16 (uu 1 j (cI l m pa ⟨Y0, Y1, ⟨Y2, Y3, Y4⟩⟩ xs 1)), .int .i16 (uu 2 j (cI l m pa ⟨Y0, Y1, ⟨Y2, Y3, Y4⟩⟩ xs 2))] 89 (0, 0))) ∧ Aside0 (Below w.heap.size w wr)) (fun v _ => 3 - (intOf v).toNat)
              case atStart => exact ⟨0, rfl, ⟨by omega⟩, Ff, Xf, Nf, Rf, Pf, Yf, Kf, Cf⟩
              case round =>
                clear Ff Xf Nf Rf Pf Yf Kf Cf
                obtain ⟨j, rfl, HJ3, Fj, Xj, Nj, Rj, Pj, Yj, Kj, Cj⟩ := hrel
                by_cases hj : j < 3
                · rcases (show j = 0 ∨ j = 1 ∨ j = 2 by omega) with rfl | rfl | rfl
                  · have HQ := Aside0.mk (show InR l m pa Y2 from ⟨i0, i1, HV.out.1.1, HV.out.1.2⟩)
                    have pk := bc2 Pj.out
                    have yk := bc5 Yj.out
                    go_wp2
                    refine start_ (n := 12) (S := fun w' => w'.cell? ⟨kp, 0, none⟩ = some (.int .i16 pa) ∧ w'.cell? ⟨g9, 2, none⟩ = some (.int .i16 Y2)) (ds := [11]) #[false, false, false, false, false, false, false, false, false, false, false, false] (by kernel_rfl) rfl rfl ⟨pk.1, yk.2.2.1⟩ (fun hHeld => ?_)
                    refine pure_ (i := 0) (N := some 88) (v := ?_) (a' := ?_) #[true, false, false, false, false, false, false, false, false, false, false, false] rfl rfl (by kernel_rfl) (fun _ _ _ h => h) (Or.inl ⟨by rfl, ?_⟩) ?_ ?_
                    rotate_left
                    · intro w'
                      go_simp
                      with_reducible rfl
                    rotate_left
                    · simp only [Act.put, List.setIfInBounds_toArray, List.set_cons_zero, List.set_cons_succ, i64_w, i32_w]
                      rfl
                    refine pure_ (i := 1) (N := some 89) (v := ?_) (a' := ?_) #[true, true, false, false, false, false, false, false, false, false, false, false] rfl rfl (by kernel_rfl) (fun _ _ _ h => h) (Or.inl ⟨by rfl, ?_⟩) ?_ ?_
                    rotate_left
                    · intro w'
                      go_simp
                      with_reducible rfl
                    rotate_left
                    · simp only [Act.put, List.setIfInBounds_toArray, List.set_cons_zero, List.set_cons_succ, i64_w, i32_w]
                      rfl
                    refine pure_ (i := 2) (N := some 90) (v := ?_) (a' := ?_) #[true, true, true, false, false, false, false, false, false, false, false, false] rfl rfl (by kernel_rfl) (fun _ _ _ h => h) (Or.inl ⟨by rfl, ?_⟩) ?_ ?_
                    rotate_left
                    · intro w'
                      go_simp
                      with_reducible rfl
                    rotate_left
                    · simp only [Act.put, List.setIfInBounds_toArray, List.set_cons_zero, List.set_cons_succ, i64_w, i32_w]
                      rfl
                    refine pure_ (i := 4) (N := some 92) (v := ?_) (a' := ?_) #[true, true, true, false, true, false, false, false, false, false, false, false] rfl rfl (by kernel_rfl) (fun _ _ _ h => h) (Or.inl ⟨by rfl, ?_⟩) ?_ ?_
                    rotate_left
                    · intro w'
                      go_simp
                      with_reducible rfl
                    rotate_left
                    · simp only [Act.put, List.setIfInBounds_toArray, List.set_cons_zero, List.set_cons_succ, i64_w, i32_w]
                      rfl
                    refine pure_ (i := 5) (N := some 93) (v := ?_) (a' := ?_) #[true, true, true, false, true, true, false, false, false, false, false, false] rfl rfl (by kernel_rfl) (fun _ _ _ h => h) (Or.inl ⟨by rfl, ?_⟩) ?_ ?_
                    rotate_left
                    · intro w'
                      go_simp
                      with_reducible rfl
                    rotate_left
                    · simp only [Act.put, List.setIfInBounds_toArray, List.set_cons_zero, List.set_cons_succ, i64_w, i32_w]
                      rfl
                    refine pure_ (i := 6) (N := some 94) (v := ?_) (a' := ?_) #[true, true, true, false, true, true, true, false, false, false, false, false] rfl rfl (by kernel_rfl) (fun _ _ _ h => h) (Or.inl ⟨by rfl, ?_⟩) ?_ ?_
                    rotate_left
                    · intro w'
                      go_simp
                      with_reducible rfl
                    rotate_left
                    · simp only [Act.put, List.setIfInBounds_toArray, List.set_cons_zero, List.set_cons_succ, i64_w, i32_w]
                      rfl
                    refine pure_ (i := 9) (N := some 97) (v := ?_) (a' := ?_) #[true, true, true, false, true, true, true, false, false, true, false, false] rfl rfl (by kernel_rfl) (fun _ _ _ h => h) (Or.inl ⟨by rfl, ?_⟩) ?_ ?_
                    rotate_left
                    · intro w'
                      go_simp
                      with_reducible rfl
                    rotate_left
                    · simp only [Act.put, List.setIfInBounds_toArray, List.set_cons_zero, List.set_cons_succ, i64_w, i32_w]
                      rfl
                    refine take_ (i := 3) (N := some 91) (v := ?_) (a' := ?_) #[true, true, true, true, true, true, true, false, false, true, false, false] rfl rfl (by kernel_rfl) (fun _ _ _ h => h) (Or.inl ⟨by rfl, ?_⟩) hHeld ?_ ?_
                    rotate_left
                    · rintro w' ⟨s0, s1⟩
                      go_simp
                      with_reducible rfl
                    rotate_left
                    · simp only [Act.put, List.setIfInBounds_toArray, List.set_cons_zero, List.set_cons_succ, i64_w, i32_w]
                      rfl
                    refine take_ (i := 7) (N := some 95) (v := ?_) (a' := ?_) #[true, true, true, true, true, true, true, true, false, true, false, false] rfl rfl (by kernel_rfl) (fun _ _ _ h => h) (Or.inl ⟨by rfl, ?_⟩) hHeld ?_ ?_
                    rotate_left
                    · rintro w' ⟨s0, s1⟩
                      go_simp
                      with_reducible rfl
                    rotate_left
                    · simp only [Act.put, List.setIfInBounds_toArray, List.set_cons_zero, List.set_cons_succ, i64_w, i32_w]
                      rfl
                    refine one_ (i := 8) (N := some 96) #[true, true, true, true, true, true, true, true, true, true, false, false] rfl rfl (by kernel_rfl) (by decide) (fun K hK => ?_)
                    refine goesC_ (f := 71) Try.func71 (by kernel_rfl) rfl #[.int .i16 pa, .int .i16 Y2] #[.pointer (some ⟨w.heap.size, 0, none⟩), .pointer (some ⟨w.heap.size + 1, 0, none⟩), .pointer (some ⟨fb, 0, none⟩), .pointer (some ⟨pb, 0, none⟩)] #[.int .i16 pa, .int .i16 Y2, .pointer (some ⟨w.heap.size, 0, none⟩), .pointer (some ⟨w.heap.size + 1, 0, none⟩), .pointer (some ⟨fb, 0, none⟩), .pointer (some ⟨pb, 0, none⟩)] (by rfl) rfl 89 rfl rfl (by simp only [List.map_toArray, List.map_cons, List.map_nil]; rfl) rfl ?_
                    with_reducible refine (clo_calls HT.out w.heap.size (w.heap.size + 1) fb pb gc bm [kp] (cX l m pa ⟨Y0, Y1, ⟨Y2, Y3, Y4⟩⟩ xs 0) (cF l m pa ⟨Y0, Y1, ⟨Y2, Y3, Y4⟩⟩ 0) pa Y2 HQ.out (Nat.le_trans (cX_len l m pa ⟨Y0, Y1, ⟨Y2, Y3, Y4⟩⟩ xs 0) (by have := HL.out; omega)) HFB.out HFA.out _ (Xj.out.below (below_drew1 (Below.refl _ _))) (Fj.out.below (below_drew1 (Below.refl _ _))) (Below.drew Cj.out)).mono ?_
                    rintro e wd hP
                    obtain ⟨rfl, f_, x_, c_, k_, a_⟩ := hP
                    refine ⟨_, rfl, ?_⟩
                    have Fd := Aside0.mk f_
                    have Xd := Aside0.mk x_
                    have Cd := Aside0.mk c_
                    have Nd := Aside0.mk (R_Ks (Kd.R_below Nj.out (below_drew1 (Below.refl _ _))) k_ (by decide))
                    have Rd := Aside0.mk (k_.2 _ _ _ _ (show wr.drew.heap[w.heap.size + 1 + 1]? = _ from Rj.out) (by decide))
                    have Yd := Aside0.mk (k_.2 _ _ _ _ (show wr.drew.heap[g9]? = _ from Yj.out) (by decide))
                    have Kd_ := Aside0.mk (k_.2 _ _ _ _ (show wr.drew.heap[kf]? = _ from Kj.out) (by decide))
                    have Pd := Aside0.mk ((a_ kp (by simp)).trans (show wr.drew.heap[kp]? = _ from Pj.out))
                    have b9 := bc5 Yd.out
                    have bk := bc2 Pd.out
                    have bf := bc5 Kd_.out
                    have zf := bf5 Kd_.out
                    clear f_ x_ c_ k_ a_
                    refine hK.out _ _ ⟨bk.1, b9.2.2.1⟩ (fun hHeld => ?_)
                    clear hK K
                    refine norm_ (a' := ?_) ?_ ?_
                    rotate_left
                    · show Act.put _ (some 96) _ = _
                      simp only [Act.put, List.setIfInBounds_toArray, List.set_cons_zero, List.set_cons_succ, i64_w, i32_w]
                      rfl
                    refine pure_ (i := 10) (N := some 98) (v := ?_) (a' := ?_) #[true, true, true, true, true, true, true, true, true, true, true, false] rfl rfl (by kernel_rfl) (fun _ _ _ h => h) (Or.inl ⟨by rfl, ?_⟩) ?_ ?_
                    rotate_left
                    · intro w'
                      go_simp
                      with_reducible rfl
                    rotate_left
                    · simp only [Act.put, List.setIfInBounds_toArray, List.set_cons_zero, List.set_cons_succ, i64_w, i32_w]
                      rfl
                    refine last_ (i := 11) (N := none) #[true, true, true, true, true, true, true, true, true, true, true, true] rfl rfl (by kernel_rfl) (by decide) (fun K hK => ?_)
                    refine skip_ (w1 := ?_) (by rfl) rfl ?_ ?_
                    rotate_left
                    · go_simp
                      rfl
                    refine hK.out _ _ ?_
                    clear hK K
                    refine done_ (by kernel_rfl) ?_
                    go_wp2
                    go_round
                    case rel => exact ⟨1, by first | (with_reducible rfl) | go_num, ⟨by omega⟩, ⟨Fd.out.set (p := ⟨kf, 2, none⟩) Kd_.out (by decide) (by decide) _⟩, ⟨Xd.out.far (p := ⟨kf, 2, none⟩) Kd_.out (by decide) (by decide) (by decide) _⟩, ⟨Kd.R_far (p := ⟨kf, 2, none⟩) Nd.out (fun _ h => h) _⟩, ⟨hs_ne (p := ⟨kf, 2, none⟩) _ Rd.out HNE.out.2.2⟩, ⟨hs_ne (p := ⟨kf, 2, none⟩) _ Pd.out HNE.out.1⟩, ⟨hs_ne (p := ⟨kf, 2, none⟩) _ Yd.out HNE.out.2.1⟩, ⟨blk_put Kd_.out 2 _ rfl⟩, ⟨Cd.out.setCell (p := ⟨kf, 2, none⟩) HKF.out _⟩⟩
                    case measure => first | (simp [intOf]; done) | (simp [intOf]; omega)
                  · have HQ := Aside0.mk (show InR l m pa Y3 from ⟨i0, i1, HV.out.2.1.1, HV.out.2.1.2⟩)
                    have pk := bc2 Pj.out
                    have yk := bc5 Yj.out
                    go_wp2
                    refine start_ (n := 12) (S := fun w' => w'.cell? ⟨kp, 0, none⟩ = some (.int .i16 pa) ∧ w'.cell? ⟨g9, 3, none⟩ = some (.int .i16 Y3)) (ds := [11]) #[false, false, false, false, false, false, false, false, false, false, false, false] (by kernel_rfl) rfl rfl ⟨pk.1, yk.2.2.2.1⟩ (fun hHeld => ?_)
                    refine pure_ (i := 0) (N := some 88) (v := ?_) (a' := ?_) #[true, false, false, false, false, false, false, false, false, false, false, false] rfl rfl (by kernel_rfl) (fun _ _ _ h => h) (Or.inl ⟨by rfl, ?_⟩) ?_ ?_
                    rotate_left
                    · intro w'
                      go_simp
                      with_reducible rfl
                    rotate_left
                    · simp only [Act.put, List.setIfInBounds_toArray, List.set_cons_zero, List.set_cons_succ, i64_w, i32_w]
                      rfl
                    refine pure_ (i := 1) (N := some 89) (v := ?_) (a' := ?_) #[true, true, false, false, false, false, false, false, false, false, false, false] rfl rfl (by kernel_rfl) (fun _ _ _ h => h) (Or.inl ⟨by rfl, ?_⟩) ?_ ?_
                    rotate_left
                    · intro w'
                      go_simp
                      with_reducible rfl
                    rotate_left
                    · simp only [Act.put, List.setIfInBounds_toArray, List.set_cons_zero, List.set_cons_succ, i64_w, i32_w]
                      rfl
                    refine pure_ (i := 2) (N := some 90) (v := ?_) (a' := ?_) #[true, true, true, false, false, false, false, false, false, false, false, false] rfl rfl (by kernel_rfl) (fun _ _ _ h => h) (Or.inl ⟨by rfl, ?_⟩) ?_ ?_
                    rotate_left
                    · intro w'
                      go_simp
                      with_reducible rfl
                    rotate_left
                    · simp only [Act.put, List.setIfInBounds_toArray, List.set_cons_zero, List.set_cons_succ, i64_w, i32_w]
                      rfl
                    refine pure_ (i := 4) (N := some 92) (v := ?_) (a' := ?_) #[true, true, true, false, true, false, false, false, false, false, false, false] rfl rfl (by kernel_rfl) (fun _ _ _ h => h) (Or.inl ⟨by rfl, ?_⟩) ?_ ?_
                    rotate_left
                    · intro w'
                      go_simp
                      with_reducible rfl
                    rotate_left
                    · simp only [Act.put, List.setIfInBounds_toArray, List.set_cons_zero, List.set_cons_succ, i64_w, i32_w]
                      rfl
                    refine pure_ (i := 5) (N := some 93) (v := ?_) (a' := ?_) #[true, true, true, false, true, true, false, false, false, false, false, false] rfl rfl (by kernel_rfl) (fun _ _ _ h => h) (Or.inl ⟨by rfl, ?_⟩) ?_ ?_
                    rotate_left
                    · intro w'
                      go_simp
                      with_reducible rfl
                    rotate_left
                    · simp only [Act.put, List.setIfInBounds_toArray, List.set_cons_zero, List.set_cons_succ, i64_w, i32_w]
                      rfl
                    refine pure_ (i := 6) (N := some 94) (v := ?_) (a' := ?_) #[true, true, true, false, true, true, true, false, false, false, false, false] rfl rfl (by kernel_rfl) (fun _ _ _ h => h) (Or.inl ⟨by rfl, ?_⟩) ?_ ?_
                    rotate_left
                    · intro w'
                      go_simp
                      with_reducible rfl
                    rotate_left
                    · simp only [Act.put, List.setIfInBounds_toArray, List.set_cons_zero, List.set_cons_succ, i64_w, i32_w]
                      rfl
                    refine pure_ (i := 9) (N := some 97) (v := ?_) (a' := ?_) #[true, true, true, false, true, true, true, false, false, true, false, false] rfl rfl (by kernel_rfl) (fun _ _ _ h => h) (Or.inl ⟨by rfl, ?_⟩) ?_ ?_
                    rotate_left
                    · intro w'
                      go_simp
                      with_reducible rfl
                    rotate_left
                    · simp only [Act.put, List.setIfInBounds_toArray, List.set_cons_zero, List.set_cons_succ, i64_w, i32_w]
                      rfl
                    refine take_ (i := 3) (N := some 91) (v := ?_) (a' := ?_) #[true, true, true, true, true, true, true, false, false, true, false, false] rfl rfl (by kernel_rfl) (fun _ _ _ h => h) (Or.inl ⟨by rfl, ?_⟩) hHeld ?_ ?_
                    rotate_left
                    · rintro w' ⟨s0, s1⟩
                      go_simp
                      with_reducible rfl
                    rotate_left
                    · simp only [Act.put, List.setIfInBounds_toArray, List.set_cons_zero, List.set_cons_succ, i64_w, i32_w]
                      rfl
                    refine take_ (i := 7) (N := some 95) (v := ?_) (a' := ?_) #[true, true, true, true, true, true, true, true, false, true, false, false] rfl rfl (by kernel_rfl) (fun _ _ _ h => h) (Or.inl ⟨by rfl, ?_⟩) hHeld ?_ ?_
                    rotate_left
                    · rintro w' ⟨s0, s1⟩
                      go_simp
                      with_reducible rfl
                    rotate_left
                    · simp only [Act.put, List.setIfInBounds_toArray, List.set_cons_zero, List.set_cons_succ, i64_w, i32_w]
                      rfl
                    refine one_ (i := 8) (N := some 96) #[true, true, true, true, true, true, true, true, true, true, false, false] rfl rfl (by kernel_rfl) (by decide) (fun K hK => ?_)
                    refine goesC_ (f := 71) Try.func71 (by kernel_rfl) rfl #[.int .i16 pa, .int .i16 Y3] #[.pointer (some ⟨w.heap.size, 0, none⟩), .pointer (some ⟨w.heap.size + 1, 0, none⟩), .pointer (some ⟨fb, 0, none⟩), .pointer (some ⟨pb, 0, none⟩)] #[.int .i16 pa, .int .i16 Y3, .pointer (some ⟨w.heap.size, 0, none⟩), .pointer (some ⟨w.heap.size + 1, 0, none⟩), .pointer (some ⟨fb, 0, none⟩), .pointer (some ⟨pb, 0, none⟩)] (by rfl) rfl 89 rfl rfl (by simp only [List.map_toArray, List.map_cons, List.map_nil]; rfl) rfl ?_
                    with_reducible refine (clo_calls HT.out w.heap.size (w.heap.size + 1) fb pb gc bm [kp] (cX l m pa ⟨Y0, Y1, ⟨Y2, Y3, Y4⟩⟩ xs 1) (cF l m pa ⟨Y0, Y1, ⟨Y2, Y3, Y4⟩⟩ 1) pa Y3 HQ.out (Nat.le_trans (cX_len l m pa ⟨Y0, Y1, ⟨Y2, Y3, Y4⟩⟩ xs 1) (by have := HL.out; omega)) HFB.out HFA.out _ (Xj.out.below (below_drew1 (Below.refl _ _))) (Fj.out.below (below_drew1 (Below.refl _ _))) (Below.drew Cj.out)).mono ?_
                    rintro e wd hP
                    obtain ⟨rfl, f_, x_, c_, k_, a_⟩ := hP
                    refine ⟨_, rfl, ?_⟩
                    have Fd := Aside0.mk f_
                    have Xd := Aside0.mk x_
                    have Cd := Aside0.mk c_
                    have Nd := Aside0.mk (R_Ks (Kd.R_below Nj.out (below_drew1 (Below.refl _ _))) k_ (by decide))
                    have Rd := Aside0.mk (k_.2 _ _ _ _ (show wr.drew.heap[w.heap.size + 1 + 1]? = _ from Rj.out) (by decide))
                    have Yd := Aside0.mk (k_.2 _ _ _ _ (show wr.drew.heap[g9]? = _ from Yj.out) (by decide))
                    have Kd_ := Aside0.mk (k_.2 _ _ _ _ (show wr.drew.heap[kf]? = _ from Kj.out) (by decide))
                    have Pd := Aside0.mk ((a_ kp (by simp)).trans (show wr.drew.heap[kp]? = _ from Pj.out))
                    have b9 := bc5 Yd.out
                    have bk := bc2 Pd.out
                    have bf := bc5 Kd_.out
                    have zf := bf5 Kd_.out
                    clear f_ x_ c_ k_ a_
                    refine hK.out _ _ ⟨bk.1, b9.2.2.2.1⟩ (fun hHeld => ?_)
                    clear hK K
                    refine norm_ (a' := ?_) ?_ ?_
                    rotate_left
                    · show Act.put _ (some 96) _ = _
                      simp only [Act.put, List.setIfInBounds_toArray, List.set_cons_zero, List.set_cons_succ, i64_w, i32_w]
                      rfl
                    refine pure_ (i := 10) (N := some 98) (v := ?_) (a' := ?_) #[true, true, true, true, true, true, true, true, true, true, true, false] rfl rfl (by kernel_rfl) (fun _ _ _ h => h) (Or.inl ⟨by rfl, ?_⟩) ?_ ?_
                    rotate_left
                    · intro w'
                      go_simp
                      with_reducible rfl
                    rotate_left
                    · simp only [Act.put, List.setIfInBounds_toArray, List.set_cons_zero, List.set_cons_succ, i64_w, i32_w]
                      rfl
                    refine last_ (i := 11) (N := none) #[true, true, true, true, true, true, true, true, true, true, true, true] rfl rfl (by kernel_rfl) (by decide) (fun K hK => ?_)
                    refine skip_ (w1 := ?_) (by rfl) rfl ?_ ?_
                    rotate_left
                    · go_simp
                      rfl
                    refine hK.out _ _ ?_
                    clear hK K
                    refine done_ (by kernel_rfl) ?_
                    go_wp2
                    go_round
                    case rel => exact ⟨2, by first | (with_reducible rfl) | go_num, ⟨by omega⟩, ⟨Fd.out.set (p := ⟨kf, 3, none⟩) Kd_.out (by decide) (by decide) _⟩, ⟨Xd.out.far (p := ⟨kf, 3, none⟩) Kd_.out (by decide) (by decide) (by decide) _⟩, ⟨Kd.R_far (p := ⟨kf, 3, none⟩) Nd.out (fun _ h => h) _⟩, ⟨hs_ne (p := ⟨kf, 3, none⟩) _ Rd.out HNE.out.2.2⟩, ⟨hs_ne (p := ⟨kf, 3, none⟩) _ Pd.out HNE.out.1⟩, ⟨hs_ne (p := ⟨kf, 3, none⟩) _ Yd.out HNE.out.2.1⟩, ⟨blk_put Kd_.out 3 _ rfl⟩, ⟨Cd.out.setCell (p := ⟨kf, 3, none⟩) HKF.out _⟩⟩
                    case measure => first | (simp [intOf]; done) | (simp [intOf]; omega)
                  · have HQ := Aside0.mk (show InR l m pa Y4 from ⟨i0, i1, HV.out.2.2.1, HV.out.2.2.2⟩)
                    have pk := bc2 Pj.out
                    have yk := bc5 Yj.out
                    go_wp2
                    refine start_ (n := 12) (S := fun w' => w'.cell? ⟨kp, 0, none⟩ = some (.int .i16 pa) ∧ w'.cell? ⟨g9, 4, none⟩ = some (.int .i16 Y4)) (ds := [11]) #[false, false, false, false, false, false, false, false, false, false, false, false] (by kernel_rfl) rfl rfl ⟨pk.1, yk.2.2.2.2⟩ (fun hHeld => ?_)
                    refine pure_ (i := 0) (N := some 88) (v := ?_) (a' := ?_) #[true, false, false, false, false, false, false, false, false, false, false, false] rfl rfl (by kernel_rfl) (fun _ _ _ h => h) (Or.inl ⟨by rfl, ?_⟩) ?_ ?_
                    rotate_left
                    · intro w'
                      go_simp
                      with_reducible rfl
                    rotate_left
                    · simp only [Act.put, List.setIfInBounds_toArray, List.set_cons_zero, List.set_cons_succ, i64_w, i32_w]
                      rfl
                    refine pure_ (i := 1) (N := some 89) (v := ?_) (a' := ?_) #[true, true, false, false, false, false, false, false, false, false, false, false] rfl rfl (by kernel_rfl) (fun _ _ _ h => h) (Or.inl ⟨by rfl, ?_⟩) ?_ ?_
                    rotate_left
                    · intro w'
                      go_simp
                      with_reducible rfl
                    rotate_left
                    · simp only [Act.put, List.setIfInBounds_toArray, List.set_cons_zero, List.set_cons_succ, i64_w, i32_w]
                      rfl
                    refine pure_ (i := 2) (N := some 90) (v := ?_) (a' := ?_) #[true, true, true, false, false, false, false, false, false, false, false, false] rfl rfl (by kernel_rfl) (fun _ _ _ h => h) (Or.inl ⟨by rfl, ?_⟩) ?_ ?_
                    rotate_left
                    · intro w'
                      go_simp
                      with_reducible rfl
                    rotate_left
                    · simp only [Act.put, List.setIfInBounds_toArray, List.set_cons_zero, List.set_cons_succ, i64_w, i32_w]
                      rfl
                    refine pure_ (i := 4) (N := some 92) (v := ?_) (a' := ?_) #[true, true, true, false, true, false, false, false, false, false, false, false] rfl rfl (by kernel_rfl) (fun _ _ _ h => h) (Or.inl ⟨by rfl, ?_⟩) ?_ ?_
                    rotate_left
                    · intro w'
                      go_simp
                      with_reducible rfl
                    rotate_left
                    · simp only [Act.put, List.setIfInBounds_toArray, List.set_cons_zero, List.set_cons_succ, i64_w, i32_w]
                      rfl
                    refine pure_ (i := 5) (N := some 93) (v := ?_) (a' := ?_) #[true, true, true, false, true, true, false, false, false, false, false, false] rfl rfl (by kernel_rfl) (fun _ _ _ h => h) (Or.inl ⟨by rfl, ?_⟩) ?_ ?_
                    rotate_left
                    · intro w'
                      go_simp
                      with_reducible rfl
                    rotate_left
                    · simp only [Act.put, List.setIfInBounds_toArray, List.set_cons_zero, List.set_cons_succ, i64_w, i32_w]
                      rfl
                    refine pure_ (i := 6) (N := some 94) (v := ?_) (a' := ?_) #[true, true, true, false, true, true, true, false, false, false, false, false] rfl rfl (by kernel_rfl) (fun _ _ _ h => h) (Or.inl ⟨by rfl, ?_⟩) ?_ ?_
                    rotate_left
                    · intro w'
                      go_simp
                      with_reducible rfl
                    rotate_left
                    · simp only [Act.put, List.setIfInBounds_toArray, List.set_cons_zero, List.set_cons_succ, i64_w, i32_w]
                      rfl
                    refine pure_ (i := 9) (N := some 97) (v := ?_) (a' := ?_) #[true, true, true, false, true, true, true, false, false, true, false, false] rfl rfl (by kernel_rfl) (fun _ _ _ h => h) (Or.inl ⟨by rfl, ?_⟩) ?_ ?_
                    rotate_left
                    · intro w'
                      go_simp
                      with_reducible rfl
                    rotate_left
                    · simp only [Act.put, List.setIfInBounds_toArray, List.set_cons_zero, List.set_cons_succ, i64_w, i32_w]
                      rfl
                    refine take_ (i := 3) (N := some 91) (v := ?_) (a' := ?_) #[true, true, true, true, true, true, true, false, false, true, false, false] rfl rfl (by kernel_rfl) (fun _ _ _ h => h) (Or.inl ⟨by rfl, ?_⟩) hHeld ?_ ?_
                    rotate_left
                    · rintro w' ⟨s0, s1⟩
                      go_simp
                      with_reducible rfl
                    rotate_left
                    · simp only [Act.put, List.setIfInBounds_toArray, List.set_cons_zero, List.set_cons_succ, i64_w, i32_w]
                      rfl
                    refine take_ (i := 7) (N := some 95) (v := ?_) (a' := ?_) #[true, true, true, true, true, true, true, true, false, true, false, false] rfl rfl (by kernel_rfl) (fun _ _ _ h => h) (Or.inl ⟨by rfl, ?_⟩) hHeld ?_ ?_
                    rotate_left
                    · rintro w' ⟨s0, s1⟩
                      go_simp
                      with_reducible rfl
                    rotate_left
                    · simp only [Act.put, List.setIfInBounds_toArray, List.set_cons_zero, List.set_cons_succ, i64_w, i32_w]
                      rfl
                    refine one_ (i := 8) (N := some 96) #[true, true, true, true, true, true, true, true, true, true, false, false] rfl rfl (by kernel_rfl) (by decide) (fun K hK => ?_)
                    refine goesC_ (f := 71) Try.func71 (by kernel_rfl) rfl #[.int .i16 pa, .int .i16 Y4] #[.pointer (some ⟨w.heap.size, 0, none⟩), .pointer (some ⟨w.heap.size + 1, 0, none⟩), .pointer (some ⟨fb, 0, none⟩), .pointer (some ⟨pb, 0, none⟩)] #[.int .i16 pa, .int .i16 Y4, .pointer (some ⟨w.heap.size, 0, none⟩), .pointer (some ⟨w.heap.size + 1, 0, none⟩), .pointer (some ⟨fb, 0, none⟩), .pointer (some ⟨pb, 0, none⟩)] (by rfl) rfl 89 rfl rfl (by simp only [List.map_toArray, List.map_cons, List.map_nil]; rfl) rfl ?_
                    with_reducible refine (clo_calls HT.out w.heap.size (w.heap.size + 1) fb pb gc bm [kp] (cX l m pa ⟨Y0, Y1, ⟨Y2, Y3, Y4⟩⟩ xs 2) (cF l m pa ⟨Y0, Y1, ⟨Y2, Y3, Y4⟩⟩ 2) pa Y4 HQ.out (Nat.le_trans (cX_len l m pa ⟨Y0, Y1, ⟨Y2, Y3, Y4⟩⟩ xs 2) (by have := HL.out; omega)) HFB.out HFA.out _ (Xj.out.below (below_drew1 (Below.refl _ _))) (Fj.out.below (below_drew1 (Below.refl _ _))) (Below.drew Cj.out)).mono ?_
                    rintro e wd hP
                    obtain ⟨rfl, f_, x_, c_, k_, a_⟩ := hP
                    refine ⟨_, rfl, ?_⟩
                    have Fd := Aside0.mk f_
                    have Xd := Aside0.mk x_
                    have Cd := Aside0.mk c_
                    have Nd := Aside0.mk (R_Ks (Kd.R_below Nj.out (below_drew1 (Below.refl _ _))) k_ (by decide))
                    have Rd := Aside0.mk (k_.2 _ _ _ _ (show wr.drew.heap[w.heap.size + 1 + 1]? = _ from Rj.out) (by decide))
                    have Yd := Aside0.mk (k_.2 _ _ _ _ (show wr.drew.heap[g9]? = _ from Yj.out) (by decide))
                    have Kd_ := Aside0.mk (k_.2 _ _ _ _ (show wr.drew.heap[kf]? = _ from Kj.out) (by decide))
                    have Pd := Aside0.mk ((a_ kp (by simp)).trans (show wr.drew.heap[kp]? = _ from Pj.out))
                    have b9 := bc5 Yd.out
                    have bk := bc2 Pd.out
                    have bf := bc5 Kd_.out
                    have zf := bf5 Kd_.out
                    clear f_ x_ c_ k_ a_
                    refine hK.out _ _ ⟨bk.1, b9.2.2.2.2⟩ (fun hHeld => ?_)
                    clear hK K
                    refine norm_ (a' := ?_) ?_ ?_
                    rotate_left
                    · show Act.put _ (some 96) _ = _
                      simp only [Act.put, List.setIfInBounds_toArray, List.set_cons_zero, List.set_cons_succ, i64_w, i32_w]
                      rfl
                    refine pure_ (i := 10) (N := some 98) (v := ?_) (a' := ?_) #[true, true, true, true, true, true, true, true, true, true, true, false] rfl rfl (by kernel_rfl) (fun _ _ _ h => h) (Or.inl ⟨by rfl, ?_⟩) ?_ ?_
                    rotate_left
                    · intro w'
                      go_simp
                      with_reducible rfl
                    rotate_left
                    · simp only [Act.put, List.setIfInBounds_toArray, List.set_cons_zero, List.set_cons_succ, i64_w, i32_w]
                      rfl
                    refine last_ (i := 11) (N := none) #[true, true, true, true, true, true, true, true, true, true, true, true] rfl rfl (by kernel_rfl) (by decide) (fun K hK => ?_)
                    refine skip_ (w1 := ?_) (by rfl) rfl ?_ ?_
                    rotate_left
                    · go_simp
                      rfl
                    refine hK.out _ _ ?_
                    clear hK K
                    refine done_ (by kernel_rfl) ?_
                    go_wp2
                    go_round
                    case rel => exact ⟨3, by first | (with_reducible rfl) | go_num, ⟨by omega⟩, ⟨Fd.out.set (p := ⟨kf, 4, none⟩) Kd_.out (by decide) (by decide) _⟩, ⟨Xd.out.far (p := ⟨kf, 4, none⟩) Kd_.out (by decide) (by decide) (by decide) _⟩, ⟨Kd.R_far (p := ⟨kf, 4, none⟩) Nd.out (fun _ h => h) _⟩, ⟨hs_ne (p := ⟨kf, 4, none⟩) _ Rd.out HNE.out.2.2⟩, ⟨hs_ne (p := ⟨kf, 4, none⟩) _ Pd.out HNE.out.1⟩, ⟨hs_ne (p := ⟨kf, 4, none⟩) _ Yd.out HNE.out.2.1⟩, ⟨blk_put Kd_.out 4 _ rfl⟩, ⟨Cd.out.setCell (p := ⟨kf, 4, none⟩) HKF.out _⟩⟩
                    case measure => first | (simp [intOf]; done) | (simp [intOf]; omega)
                · have hj3 : j = 3 := by have := HJ3.out; omega
                  subst hj3
                  have y5 := bc5 Kj.out
                  have HKL := Aside0.mk (blk_lt_ Kj.out)
                  go_wp2_with (first
                    | ((with_reducible refine gate_builtin (b := .append) (xs := #[.tmp 100, .tmp 102]) rfl ?_); at_builtin
                       refine Kd.R_append k89 (w0 := w) (W := wr) w.heap.size rfl (.tmp 100) (.tmp 102) 32 89 (.agg #[.int .i8 0, .int .i8 0, .int .i16 0, .int .i16 0, .int .i16 0]) 8 rfl Try.underlying32 info89 rfl (by decide) (by decide) (.slice An ns.length cn) ns ⟨1, 0, ⟨(cI l m pa ⟨Y0, Y1, ⟨Y2, Y3, Y4⟩⟩ xs 0 : Nat), (cI l m pa ⟨Y0, Y1, ⟨Y2, Y3, Y4⟩⟩ xs 1 : Nat), (cI l m pa ⟨Y0, Y1, ⟨Y2, Y3, Y4⟩⟩ xs 2 : Nat)⟩⟩ [.int .i8 1, .int .i8 0, .int .i16 (cI l m pa ⟨Y0, Y1, ⟨Y2, Y3, Y4⟩⟩ xs 0 : Nat), .int .i16 (cI l m pa ⟨Y0, Y1, ⟨Y2, Y3, Y4⟩⟩ xs 1 : Nat), .int .i16 (cI l m pa ⟨Y0, Y1, ⟨Y2, Y3, Y4⟩⟩ xs 2 : Nat)] (fun k => k ≠ kf) (fun _ => False) rfl rfl (k89_mkM _ _ _ _) (fun _ h => h.elim) (fun k hk => by have := HKL.out; omega) Nj.out Cj.out Cj.out.size (by have := HL.out; omega) ?_
                       intro v13 w13 hN hb_ hg hat
                       have hty : ∀ k, (Value.ownBlock (.slice An ns.length cn)) = some k → ∃ c q fz, wr.heap[k]? = some (.cells c q fz) ∧ q ≠ 101 ∧ q ≠ 111 ∧ q = 89 := fun k hk => by obtain ⟨cs_, hc_⟩ := Kd.R_typed Nj.out k hk; exact ⟨_, _, _, hc_, by decide, by decide, rfl⟩
                       have hks : Ks [89] wr w13 := Ks.grown hg (fun k c q fz e hk => by obtain ⟨c', q', fz', h1, _, _, h2⟩ := hty k e; rw [h1] at hk; injection hk with hk; injection hk with _ hk; rw [← hk, h2]; simp)
                       have F13 := Aside0.mk (Fj.out.grown hg (fun k e => by obtain ⟨c', q', fz', h1, h2, h3, _⟩ := hty k e; exact .inr ⟨c', q', fz', h1, h2, h3⟩))
                       have X13 := Aside0.mk (show BX (some ad0) (some ad1) c0 c1 l m w.heap.size (w.heap.size + 1) fb pb gc _ w13 from ⟨hks.2 _ _ _ _ Xj.out.t (by decide), hks.2 _ _ _ _ Xj.out.u (by decide), hks.2 _ _ _ _ Xj.out.f (by decide), hks.2 _ _ _ _ Xj.out.p (by decide)⟩)
                       have R13 := Aside0.mk (hks.2 _ _ _ _ Rj.out (by decide))
                       have C13 := Aside0.mk hb_
                       have N13 := Aside0.mk hN
                       clear hty hks hN hb_ hg hat)
                    | fail)
                  go_wp2
                  go_roundg k1
                  case measure => have := HK1.out; omega
                  case rel => exact ⟨_, _, i + 1, _, by first | (with_reducible rfl) | (rw [HWI.out]; done) | go_num, HA, ⟨by have := HK1.out; omega⟩, ⟨AllIn.cX3 HT.out HI.out ⟨i0, i1, HV.out.1.1, HV.out.1.2⟩ ⟨i0, i1, HV.out.2.1.1, HV.out.2.1.2⟩ ⟨i0, i1, HV.out.2.2.1, HV.out.2.2.2⟩⟩, ⟨F13.out.forget⟩, ⟨X13.out⟩, ⟨Kd.R_mono N13.out (fun _ _ => trivial)⟩, ⟨R13.out⟩, ⟨C13.out⟩⟩

      · rw [if_neg (fun hh => ci hh.1)] at H
        simp only [Option.some.injEq, Prod.mk.injEq] at H
        obtain ⟨rfl, rfl⟩ := H
        have di : decide ((i : Int) < (xs.length : Int)) = false := decide_eq_false (by omega)
        have ti := eq_false (show ¬ (i : Int) < (xs.length : Int) by omega)
        cases fine with
        | false =>
          have hf := HFIN.out
          simp only [fin, if_true, Prod.mk.injEq] at hf
          obtain ⟨rfl, rfl⟩ := hf
          go_wp2
          exact bodyPost_ret (results_ct rfl _ _ (w.heap.size + 1 + 1) 34 #[.slice none 0 0] (0, 0) _ rfl (blk_put H2.out 0 _ rfl) Try.underlying34 rfl (by kernel_rfl)) rfl ⟨.slice none 0 0, rfl, Kd.R_nil _ _ _ _ _, HB.out.setCell (p := ⟨w.heap.size + 1 + 1, 0, none⟩) (by show w.heap.size ≤ w.heap.size + 1 + 1; omega) _⟩
        | true =>
          by_cases c60 : 60 < ns.length
          · have hf := HFIN.out
            simp only [fin, if_neg (show ¬ (true = false) by decide), if_pos c60, Prod.mk.injEq] at hf
            obtain ⟨rfl, rfl⟩ := hf
            have d60 : decide ((60 : Int) < (ns.length : Int)) = true := decide_eq_true (by omega)
            have d60b : ((ns.length : Int) > 60) = True := eq_true (by omega)
            go_wp2
            exact bodyPost_ret (results_ct rfl _ _ (w.heap.size + 1 + 1) 34 #[.slice none 0 0] (0, 0) _ rfl (blk_put H2.out 0 _ rfl) Try.underlying34 rfl (by kernel_rfl)) rfl ⟨.slice none 0 0, rfl, Kd.R_nil _ _ _ _ _, HB.out.setCell (p := ⟨w.heap.size + 1 + 1, 0, none⟩) (by show w.heap.size ≤ w.heap.size + 1 + 1; omega) _⟩
          · have hf := HFIN.out
            simp only [fin, if_neg (show ¬ (true = false) by decide), if_neg c60, Prod.mk.injEq] at hf
            obtain ⟨rfl, rfl⟩ := hf
            have d60 : decide ((60 : Int) < (ns.length : Int)) = false := decide_eq_false (by omega)
            have d60b : ((ns.length : Int) > 60) = False := eq_false (by omega)
            go_wp2
            exact bodyPost_ret (results_ct rfl _ _ (w.heap.size + 1 + 1) 34 #[.slice An ns.length cn] (0, 0) _ rfl (blk_put H2.out 0 _ rfl) Try.underlying34 rfl (by kernel_rfl)) rfl ⟨.slice An ns.length cn, rfl, Kd.R_mono (Kd.R_far (p := ⟨w.heap.size + 1 + 1, 0, none⟩) (Kd.R_types HN.out H2.out (by decide)) (fun _ hk => hk.2) _) (fun _ _ => trivial), HB.out.setCell (p := ⟨w.heap.size + 1 + 1, 0, none⟩) (by show w.heap.size ≤ w.heap.size + 1 + 1; omega) _⟩
end Go.Proofs.Ytpfnohdnaocpdaa.PT

/- The closure of ComposeTrees by hand. -/
import Derived.Test.YtpfnohdnaocpdaaPTx4
import Derived.Test.YtpfnohdnaocpdaaPTnewF
namespace Go.Proofs.Ytpfnohdnaocpdaa.PT
open Go.RowKit Go.Proofs.YtpfnohdnaocpdaaW.PrintWords Go.Proofs.YtpfnohdnaocpdaaW.PrintLast Go.Proofs.YtpfnohdnaocpdaaW.PrintMore Go.Lib Go.Proofs.YtpfnohdnaocpdaaRP
set_option linter.unusedVariables false
set_option linter.unusedSimpArgs false
/-- Two trees that lie in W0, and are valid. -/
structure TT (W0 : World) (A0 A1 : Option Addr) (c0 c1 : Nat) (l m : List S89) : Prop where
  kl : okT l = true
  km : okT m = true
  dm : digT m
  ll : l.length ≤ 60
  lm : m.length ≤ 60
  r0 : Kd.C k89 W0 A0 l.length l
  h0 : l.length ≤ c0
  r1 : Kd.C k89 W0 A1 m.length m
  h1 : m.length ≤ c1
def st (l m : List S89) (a b : Int) : S98 × Bool := standsN l m (nsN l m) a b
theorem st_in {W0 : World} {A0 A1 : Option Addr} {c0 c1 : Nat} {l m : List S89} (h : TT W0 A0 A1 c0 c1 l m) {a b : Int} (hi : InR l m a b) : InR l m (st l m a b).1.f0 (st l m a b).1.f1 := standsN_in h.kl h.km h.dm _ a b hi
theorem I16_of {l m : List S89} (hl : l.length ≤ 60) (hm : m.length ≤ 60) {p : S98} (h : InR l m p.f0 p.f1) : I16p p := by
  obtain ⟨h0, h1, h2, h3⟩ := h
  exact ⟨by omega, by omega, by omega, by omega⟩
/-- The closure's boxes. -/
structure BX (A0 A1 : Option Addr) (c0 c1 : Nat) (l m : List S89) (tb ub fb pb gc : Nat) (fine : Bool) (w : World) : Prop where
  t : w.heap[tb]? = some (.cells #[.slice A0 l.length c0] 34 (0, 0))
  u : w.heap[ub]? = some (.cells #[.slice A1 m.length c1] 34 (0, 0))
  f : w.heap[fb]? = some (.cells #[.bool fine] 4 (0, 0))
  p : w.heap[pb]? = some (.cells #[.pointer (some ⟨gc, 0, none⟩)] 104 (0, 0))
theorem BX.below {A0 A1 : Option Addr} {c0 c1 : Nat} {l m : List S89} {tb ub fb pb gc : Nat} {fine : Bool} {w w1 : World} (h : BX A0 A1 c0 c1 l m tb ub fb pb gc fine w) (hb : Below w.heap.size w w1) : BX A0 A1 c0 c1 l m tb ub fb pb gc fine w1 :=
  ⟨(hb.block _ (blk_lt_ h.t)).trans h.t, (hb.block _ (blk_lt_ h.u)).trans h.u, (hb.block _ (blk_lt_ h.f)).trans h.f, (hb.block _ (blk_lt_ h.p)).trans h.p⟩
theorem BX.ks {A0 A1 : Option Addr} {c0 c1 : Nat} {l m : List S89} {tb ub fb pb gc : Nat} {fine : Bool} {w w1 : World} (h : BX A0 A1 c0 c1 l m tb ub fb pb gc fine w) (hb : Ks [101, 111] w w1) : BX A0 A1 c0 c1 l m tb ub fb pb gc fine w1 :=
  ⟨hb.2 _ _ _ _ h.t (by decide), hb.2 _ _ _ _ h.u (by decide), hb.2 _ _ _ _ h.f (by decide), hb.2 _ _ _ _ h.p (by decide)⟩
theorem BX.put {A0 A1 : Option Addr} {c0 c1 : Nat} {l m : List S89} {tb ub fb pb gc : Nat} {fine : Bool} {w : World} (h : BX A0 A1 c0 c1 l m tb ub fb pb gc fine w) (g : Bool) : BX A0 A1 c0 c1 l m tb ub fb pb gc g (w.setCell ⟨fb, 0, none⟩ (.bool g)) := by
  have hne : ∀ {k : Nat} {c : Array Value} {q : Nat}, w.heap[k]? = some (.cells c q (0, 0)) → q ≠ 4 → k ≠ fb := fun {k c q} hk hq e => by
    rw [e, h.f] at hk
    injection hk with hk
    injection hk with _ hk
    exact hq hk.symm
  exact ⟨hs_ne _ h.t (hne h.t (by decide)), hs_ne _ h.u (hne h.u (by decide)), blk_put h.f 0 _ rfl, hs_ne _ h.p (hne h.p (by decide))⟩
def CloPost (W0 : World) (A0 A1 : Option Addr) (c0 c1 : Nat) (l m : List S89) (tb ub fb pb gc bm : Nat) (av : List Nat) (xs : List S98) (fine : Bool) (a b : Int) (w : World) (e : Ending) (w' : World) : Prop :=
  e = .returned (.int .i16 (ixP xs (st l m a b).1 : Nat)) ∧ FS W0.heap.size gc bm av (fndL xs (st l m a b).1) w' ∧ BX A0 A1 c0 c1 l m tb ub fb pb gc (fine && (st l m a b).2) w' ∧ Below W0.heap.size W0 w' ∧ Ks [101, 111, 4] w w' ∧ ∀ k, k ∈ av → w'.heap[k]? = w.heap[k]?
set_option maxHeartbeats 8000000 in
set_option maxRecDepth 100000 in
theorem clo_calls {W0 : World} {A0 A1 : Option Addr} {c0 c1 : Nat} {l m : List S89} (hT : TT W0 A0 A1 c0 c1 l m) (tb ub fb pb gc bm : Nat) (av : List Nat) (xs : List S98) (fine : Bool) (a b : Int) (hi : InR l m a b) (hl : xs.length ≤ 4000) (hfb : W0.heap.size ≤ fb) (hfa : fb ∉ av) (w : World)
    (hX : BX A0 A1 c0 c1 l m tb ub fb pb gc fine w) (hF : FS W0.heap.size gc bm av xs w) (hb : Below W0.heap.size W0 w) :
    Calls Try.prog 71 #[.int .i16 a, .int .i16 b, .pointer (some ⟨tb, 0, none⟩), .pointer (some ⟨ub, 0, none⟩), .pointer (some ⟨fb, 0, none⟩), .pointer (some ⟨pb, 0, none⟩)] w fun e w' => CloPost W0 A0 A1 c0 c1 l m tb ub fb pb gc bm av xs fine a b w e w' := by
  have HS := Aside0.mk (stands_calls l m hT.kl hT.km hT.dm hT.ll hT.lm A0 A1 c0 c1 w (Kd.C_below hT.r0 hb) hT.h0 (Kd.C_below hT.r1 hb) hT.h1 a b hi)
  have HIN := Aside0.mk (I16_of hT.ll hT.lm (st_in hT hi))
  obtain ⟨q, hq⟩ : ∃ q, q = st l m a b := ⟨_, rfl⟩
  have HQ := Aside0.mk hq
  rw [← hq] at HIN
  replace HS : Aside0 (Calls Try.prog 69 #[.agg #[.slice A0 l.length c0], .agg #[.slice A1 m.length c1], .agg #[.int .i16 a, .int .i16 b]] w fun e w' => e = .returned (.tuple #[.agg #[.int .i16 q.1.f0, .int .i16 q.1.f1], .bool q.2]) ∧ Below w.heap.size w w') := ⟨by rw [hq]; exact HS.out⟩
  clear hq
  obtain ⟨⟨qa, qb⟩, ok⟩ := q
  have HX := Aside0.mk hX
  have HF := Aside0.mk hF
  have HB := Aside0.mk hb
  have HL := Aside0.mk hl
  have HFB := Aside0.mk hfb
  have HFA := Aside0.mk hfa
  have HT := Aside0.mk hT
  have x1 : w.cell? ⟨tb, 0, none⟩ = some (.slice A0 l.length c0) := (blk_cell hX.t 0).trans rfl
  have x2 : w.cell? ⟨ub, 0, none⟩ = some (.slice A1 m.length c1) := (blk_cell hX.u 0).trans rfl
  clear hX hF hb hl hfb hfa hT hi
  have BW := Aside0.mk (Below.refl w.heap.size w)
  cases fine with
  | true =>
    go_enter Try.func71, Try.ntmps71
    go_upto_region 2 with (first
      | (go_at_call 69; (with_reducible refine HS.out.mono ?_); rintro e w1 ⟨rfl, hb1⟩
         have B1 := Aside0.mk hb1
         clear hb1 x1 x2)
      | fail)
    generalize hw2 : World.alloc w1 _ = w2
    have hb2 : Below w.heap.size w w2 := by rw [← hw2]; exact below_alloc B1.out _
    have k0 : w2.cell? ⟨w1.heap.size, 0, none⟩ = some (.int .i16 qa) := by rw [← hw2]; simp
    have k1 : w2.cell? ⟨w1.heap.size, 1, none⟩ = some (.int .i16 qb) := by rw [← hw2]; simp
    have hfk : fb ≠ w1.heap.size := by
      have h1 := blk_lt_ HX.out.f
      have h2 := B1.out.size
      omega
    have X2 := Aside0.mk (HX.out.below hb2)
    have F2 := Aside0.mk ((HF.out.below hb2).set (p := ⟨fb, 0, none⟩) X2.out.f (by decide) (by decide) (.bool ok))
    have X3 := Aside0.mk (X2.out.put ok)
    have B2 := Aside0.mk hb2
    have B3 := Aside0.mk ((HB.out.trans (hb2.mono HB.out.size)).setCell (p := ⟨fb, 0, none⟩) HFB.out (.bool ok))
    have S3 := Aside0.mk (show W0.heap.size ≤ (w2.setCell ⟨fb, 0, none⟩ (.bool ok)).heap.size from by have h1 := HB.out.size; have h2 := hb2.size; simp [World.setCell]; omega)
    have y3 : w2.cell? ⟨fb, 0, none⟩ = some (.bool true) := (blk_cell X2.out.f 0).trans rfl
    have z3 : w2.frozen? ⟨fb, 0, none⟩ = false := blk_frozen X2.out.f 0
    have k02 := keep_set (q := ⟨fb, 0, none⟩) (u := .bool ok) k0 (fun e => hfk e.symm)
    have k12 := keep_set (q := ⟨fb, 0, none⟩) (u := .bool ok) k1 (fun e => hfk e.symm)
    have y4 : (w2.setCell ⟨fb, 0, none⟩ (.bool ok)).cell? ⟨pb, 0, none⟩ = some (.pointer (some ⟨gc, 0, none⟩)) := (blk_cell X3.out.p 0).trans rfl
    clear hw2 hb2 hfk
    generalize w1.heap.size = kb at k0 k1 k02 k12 ⊢
    go_wp2_with (first
      | (go_at_call 72; (with_reducible refine (find_calls W0.heap.size gc bm av xs ⟨qa, qb⟩ HIN.out HL.out W0 _ ?s1 ?s2 ?s3).mono ?_); (case s1 => exact F2.out); (case s2 => exact B3.out); (case s3 => exact S3.out); rintro e w4 ⟨rfl, f4, b4, s4, a4⟩
         have F4 := Aside0.mk f4
         have B4 := Aside0.mk b4
         have S4 := Aside0.mk s4
         have A4 := Aside0.mk a4
         clear f4 b4 s4 a4)
      | fail)
    go_ret
    have hq1 : (st l m a b).1 = ⟨qa, qb⟩ := by rw [← HQ.out]
    have hq2 : (st l m a b).2 = ok := by rw [← HQ.out]
    refine ⟨by rw [hq1]; rfl, by rw [hq1]; exact F4.out, by rw [hq2]; exact X3.out.ks S4.out, B4.out, ((Ks.below B2.out).trans (Ks.grown (grown_set w2 _ _) (fun k c q fz e hk => by
      injection e with e
      subst e
      rw [X2.out.f] at hk
      injection hk with hk
      injection hk with _ hk
      rw [← hk]
      simp))).trans (S4.out.mono (fun q hq => by simp at hq ⊢; omega)), fun k hk => ?_⟩
    rw [A4.out k hk, Below.heap_setCell w2 ⟨fb, 0, none⟩ _ k (fun e => HFA.out ((show k = fb from e) ▸ hk))]
    exact B2.out.block k (HF.out.al k hk).1
  | false =>
    go_enter Try.func71, Try.ntmps71
    go_upto_region 2 with (first
      | (go_at_call 69; (with_reducible refine HS.out.mono ?_); rintro e w1 ⟨rfl, hb1⟩
         have B1 := Aside0.mk hb1
         clear hb1 x1 x2)
      | fail)
    generalize hw2 : World.alloc w1 _ = w2
    have hb2 : Below w.heap.size w w2 := by rw [← hw2]; exact below_alloc B1.out _
    have k0 : w2.cell? ⟨w1.heap.size, 0, none⟩ = some (.int .i16 qa) := by rw [← hw2]; simp
    have k1 : w2.cell? ⟨w1.heap.size, 1, none⟩ = some (.int .i16 qb) := by rw [← hw2]; simp
    have hfk : fb ≠ w1.heap.size := by
      have h1 := blk_lt_ HX.out.f
      have h2 := B1.out.size
      omega
    have X2 := Aside0.mk (HX.out.below hb2)
    have F2 := Aside0.mk ((HF.out.below hb2).set (p := ⟨fb, 0, none⟩) X2.out.f (by decide) (by decide) (.bool false))
    have X3 := Aside0.mk (X2.out.put false)
    have B2 := Aside0.mk hb2
    have B3 := Aside0.mk ((HB.out.trans (hb2.mono HB.out.size)).setCell (p := ⟨fb, 0, none⟩) HFB.out (.bool false))
    have S3 := Aside0.mk (show W0.heap.size ≤ (w2.setCell ⟨fb, 0, none⟩ (.bool false)).heap.size from by have h1 := HB.out.size; have h2 := hb2.size; simp [World.setCell]; omega)
    have y3 : w2.cell? ⟨fb, 0, none⟩ = some (.bool false) := (blk_cell X2.out.f 0).trans rfl
    have z3 : w2.frozen? ⟨fb, 0, none⟩ = false := blk_frozen X2.out.f 0
    have k02 := keep_set (q := ⟨fb, 0, none⟩) (u := .bool false) k0 (fun e => hfk e.symm)
    have k12 := keep_set (q := ⟨fb, 0, none⟩) (u := .bool false) k1 (fun e => hfk e.symm)
    have y4 : (w2.setCell ⟨fb, 0, none⟩ (.bool false)).cell? ⟨pb, 0, none⟩ = some (.pointer (some ⟨gc, 0, none⟩)) := (blk_cell X3.out.p 0).trans rfl
    clear hw2 hb2 hfk
    generalize w1.heap.size = kb at k0 k1 k02 k12 ⊢
    go_wp2_with (first
      | (go_at_call 72; (with_reducible refine (find_calls W0.heap.size gc bm av xs ⟨qa, qb⟩ HIN.out HL.out W0 _ ?s1 ?s2 ?s3).mono ?_); (case s1 => exact F2.out); (case s2 => exact B3.out); (case s3 => exact S3.out); rintro e w4 ⟨rfl, f4, b4, s4, a4⟩
         have F4 := Aside0.mk f4
         have B4 := Aside0.mk b4
         have S4 := Aside0.mk s4
         have A4 := Aside0.mk a4
         clear f4 b4 s4 a4)
      | fail)
    go_ret
    have hq1 : (st l m a b).1 = ⟨qa, qb⟩ := by rw [← HQ.out]
    have hq2 : (st l m a b).2 = ok := by rw [← HQ.out]
    refine ⟨by rw [hq1]; rfl, by rw [hq1]; exact F4.out, by rw [hq2]; exact X3.out.ks S4.out, B4.out, ((Ks.below B2.out).trans (Ks.grown (grown_set w2 _ _) (fun k c q fz e hk => by
      injection e with e
      subst e
      rw [X2.out.f] at hk
      injection hk with hk
      injection hk with _ hk
      rw [← hk]
      simp))).trans (S4.out.mono (fun q hq => by simp at hq ⊢; omega)), fun k hk => ?_⟩
    rw [A4.out k hk, Below.heap_setCell w2 ⟨fb, 0, none⟩ _ k (fun e => HFA.out ((show k = fb from e) ▸ hk))]
    exact B2.out.block k (HF.out.al k hk).1
end Go.Proofs.Ytpfnohdnaocpdaa.PT

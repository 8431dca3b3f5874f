/- The closure of MoebiusTree by hand. -/
import Derived.Test.YtpfnohdnaocpdaaPTx6
import Derived.Test.YtpfnohdnaocpdaaPTlargest
import Derived.Test.YtpfnohdnaocpdaaPTnewFM
namespace Go.Proofs.Ytpfnohdnaocpdaa.PT
open Go.RowKit Go.Proofs.YtpfnohdnaocpdaaW.PrintWords Go.Proofs.YtpfnohdnaocpdaaW.PrintLast Go.Proofs.YtpfnohdnaocpdaaW.PrintMore Go.Lib Go.Proofs.YtpfnohdnaocpdaaRP
set_option linter.unusedVariables false
set_option linter.unusedSimpArgs false
def wfS (p : S60) : Bool := (Lit.int .i64 p.f0).wf && (Lit.int .i64 p.f1).wf && (Lit.int .i64 p.f2).wf && (Lit.int .i64 p.f3).wf
theorem wfS_I {p : S60} (h : wfS p = true) : I16p p := by
  simp only [wfS, Bool.and_eq_true] at h
  exact ⟨h.1.1.1, h.1.1.2, h.1.2, h.2⟩
/-- Is a state too large, told so far? -/
def ovS (over : Bool) (p : S60) : Option Bool := if wfS p = true then (if over = true then some true else (impl_Moebius_largest.f p.f0 p.f1 p.f2 p.f3).bind fun g => some (decide (288230376151711744 < g))) else none
structure BM (ob pb gc : Nat) (over : Bool) (w : World) : Prop where
  o : w.heap[ob]? = some (.cells #[.bool over] 4 (0, 0))
  p : w.heap[pb]? = some (.cells #[.pointer (some ⟨gc, 0, none⟩)] 128 (0, 0))
theorem BM.below {ob pb gc : Nat} {over : Bool} {w w1 : World} (h : BM ob pb gc over w) (hb : Below w.heap.size w w1) : BM ob pb gc over w1 := ⟨(hb.block _ (blk_lt_ h.o)).trans h.o, (hb.block _ (blk_lt_ h.p)).trans h.p⟩
theorem BM.ks {ob pb gc : Nat} {over : Bool} {w w1 : World} {T : List Nat} (h : BM ob pb gc over w) (hb : Ks T w w1) (h1 : 4 ∉ T) (h2 : 128 ∉ T) : BM ob pb gc over w1 := ⟨hb.2 _ _ _ _ h.o h1, hb.2 _ _ _ _ h.p h2⟩
theorem BM.far {ob pb gc : Nat} {over : Bool} {w : World} (h : BM ob pb gc over w) {p : Addr} {c : Array Value} {q : Nat} {fz : Nat × Nat} (hp : w.heap[p.block]? = some (.cells c q fz)) (h1 : q ≠ 4) (h2 : q ≠ 128) (u : Value) : BM ob pb gc over (w.setCell p u) := by
  have hne : ∀ {k : Nat} {c' : Array Value} {q' : Nat}, w.heap[k]? = some (.cells c' q' (0, 0)) → q ≠ q' → k ≠ p.block := fun {k c' q'} hk hq e => by
    rw [e, hp] at hk
    injection hk with hk
    injection hk with _ hk
    exact hq hk
  exact ⟨hs_ne _ h.o (hne h.o h1), hs_ne _ h.p (hne h.p h2)⟩
theorem BM.put {ob pb gc : Nat} {over : Bool} {w : World} (h : BM ob pb gc over w) (g : Bool) : BM ob pb gc g (w.setCell ⟨ob, 0, none⟩ (.bool g)) := by
  refine ⟨blk_put h.o 0 _ rfl, hs_ne _ h.p (fun e => ?_)⟩
  have hk := h.p
  rw [show pb = ob from e, h.o] at hk
  injection hk with hk
  injection hk with _ hk
  exact absurd hk (by decide)
def CloM (W0 : World) (ob pb gc bm : Nat) (av : List Nat) (xs : List S60) (over : Bool) (p : S60) (w : World) (e : Ending) (w' : World) : Prop :=
  e = .returned (.int .i16 (ixP xs p : Nat)) ∧ FS W0.heap.size gc bm av (fndL xs p) w' ∧ BM ob pb gc over w' ∧ Below W0.heap.size W0 w' ∧ Ks [60, 135, 4] w w' ∧ ∀ k, k ∈ av → w'.heap[k]? = w.heap[k]?
set_option maxHeartbeats 8000000 in
set_option maxRecDepth 100000 in
theorem cloM_calls {W0 : World} (ob pb gc bm : Nat) (av : List Nat) (xs : List S60) (over over' : Bool) (p : S60) (hov : ovS over p = some over') (hl : xs.length ≤ 4000) (hob : W0.heap.size ≤ ob) (hoa : ob ∉ av) (w : World)
    (hX : BM ob pb gc over w) (hF : FS W0.heap.size gc bm av xs w) (hb : Below W0.heap.size W0 w) :
    Calls Try.prog 89 #[.agg #[.int .i64 p.f0, .int .i64 p.f1, .int .i64 p.f2, .int .i64 p.f3], .pointer (some ⟨ob, 0, none⟩), .pointer (some ⟨pb, 0, none⟩)] w fun e w' => CloM W0 ob pb gc bm av xs over' p w e w' := by
  unfold ovS at hov
  by_cases hwf : wfS p = true
  case neg => rw [if_neg hwf] at hov; exact absurd hov (by simp)
  rw [if_pos hwf] at hov
  have HIN := Aside0.mk (wfS_I hwf)
  clear hwf
  obtain ⟨a, b, a2, a3⟩ := p
  simp only at hov HIN ⊢
  have HX := Aside0.mk hX
  have HF := Aside0.mk hF
  have HB := Aside0.mk hb
  have HL := Aside0.mk hl
  have HOB := Aside0.mk hob
  have HOA := Aside0.mk hoa
  clear hX hF hb hl hob hoa
  cases over with
  | true =>
    rw [if_pos rfl] at hov
    obtain rfl := Option.some.inj hov
    clear hov
    go_enter Try.func89, Try.ntmps89
    go_upto_region 1 with (fail)
    generalize hw1 : World.alloc w _ = w1
    have hb1 : Below w.heap.size w w1 := by rw [← hw1]; exact below_alloc (Below.refl _ _) _
    have k0 : w1.cell? ⟨w.heap.size, 0, none⟩ = some (.int .i64 a) := by rw [← hw1]; simp
    have k1 : w1.cell? ⟨w.heap.size, 1, none⟩ = some (.int .i64 b) := by rw [← hw1]; simp
    have k2 : w1.cell? ⟨w.heap.size, 2, none⟩ = some (.int .i64 a2) := by rw [← hw1]; simp
    have k3 : w1.cell? ⟨w.heap.size, 3, none⟩ = some (.int .i64 a3) := by rw [← hw1]; simp
    have hkb := Aside0.mk (show ob ≠ w.heap.size from by have h1 := blk_lt_ HX.out.o; omega)
    have B1 := Aside0.mk hb1
    clear hw1 hb1
    generalize hkbe : w.heap.size = kb at k0 k1 k2 k3 hkb ⊢
    have HKBE := Aside0.mk hkbe
    clear hkbe
    have x1 : w1.cell? ⟨ob, 0, none⟩ = some (.bool true) := (blk_cell (HX.out.below B1.out).o 0).trans rfl
    have B2 := Aside0.mk (show Below w.heap.size w w1 from B1.out)
    have X2 := Aside0.mk (HX.out.below B2.out)
    have F2 := Aside0.mk ((HF.out.below B2.out).set (p := ⟨ob, 0, none⟩) X2.out.o (by decide) (by decide) (.bool true))
    have X3 := Aside0.mk (X2.out.put true)
    have B3 := Aside0.mk ((HB.out.trans (B2.out.mono HB.out.size)).setCell (p := ⟨ob, 0, none⟩) HOB.out (.bool true))
    have S3 := Aside0.mk (show W0.heap.size ≤ (w1.setCell ⟨ob, 0, none⟩ (.bool true)).heap.size from by have h1 := HB.out.size; have h2 := B2.out.size; simp [World.setCell]; omega)
    have y3 : w1.cell? ⟨ob, 0, none⟩ = some (.bool true) := (blk_cell X2.out.o 0).trans rfl
    have z3 : w1.frozen? ⟨ob, 0, none⟩ = false := blk_frozen X2.out.o 0
    have m0 := keep_set (q := ⟨ob, 0, none⟩) (u := .bool true) k0 (fun e => hkb.out e.symm)
    have m1 := keep_set (q := ⟨ob, 0, none⟩) (u := .bool true) k1 (fun e => hkb.out e.symm)
    have m2 := keep_set (q := ⟨ob, 0, none⟩) (u := .bool true) k2 (fun e => hkb.out e.symm)
    have m3 := keep_set (q := ⟨ob, 0, none⟩) (u := .bool true) k3 (fun e => hkb.out e.symm)
    have y4 : (w1.setCell ⟨ob, 0, none⟩ (.bool true)).cell? ⟨pb, 0, none⟩ = some (.pointer (some ⟨gc, 0, none⟩)) := (blk_cell X3.out.p 0).trans rfl
    go_wp2_with (first
      | (go_at_call 91; (with_reducible refine (find_calls W0.heap.size gc bm av xs ⟨a, b, a2, a3⟩ HIN.out HL.out W0 _ ?s1 ?s2 ?s3).mono ?_); (case s1 => exact F2.out); (case s2 => exact B3.out); (case s3 => exact S3.out); rintro e w4 ⟨rfl, f4, b4, s4, a4⟩
         have F4 := Aside0.mk f4
         have B4 := Aside0.mk b4
         have S4 := Aside0.mk s4
         have A4 := Aside0.mk a4
         clear f4 b4 s4 a4)
      | fail)
    go_ret
    refine ⟨rfl, F4.out, X3.out.ks S4.out (by decide) (by decide), B4.out, ((Ks.below B2.out).trans (Ks.grown (grown_set w1 _ _) (fun k c q fz e hk => by
      injection e with e
      subst e
      rw [X2.out.o] at hk
      injection hk with hk
      injection hk with _ hk
      rw [← hk]
      simp))).trans (S4.out.mono (fun q hq => by simp at hq ⊢; omega)), fun k hk => ?_⟩
    rw [A4.out k hk, Below.heap_setCell w1 ⟨ob, 0, none⟩ _ k (fun e => HOA.out ((show k = ob from e) ▸ hk))]
    exact B2.out.block k (HF.out.al k hk).1
  | false =>
    rw [if_neg (by simp)] at hov
    obtain ⟨g, hg, hov⟩ := Option.bind_eq_some_iff.mp hov
    have hov := Option.some.inj hov
    have HG := Aside0.mk hg
    clear hg
    go_enter Try.func89, Try.ntmps89
    go_upto_region 1 with (fail)
    generalize hw1 : World.alloc w _ = w1
    have hb1 : Below w.heap.size w w1 := by rw [← hw1]; exact below_alloc (Below.refl _ _) _
    have k0 : w1.cell? ⟨w.heap.size, 0, none⟩ = some (.int .i64 a) := by rw [← hw1]; simp
    have k1 : w1.cell? ⟨w.heap.size, 1, none⟩ = some (.int .i64 b) := by rw [← hw1]; simp
    have k2 : w1.cell? ⟨w.heap.size, 2, none⟩ = some (.int .i64 a2) := by rw [← hw1]; simp
    have k3 : w1.cell? ⟨w.heap.size, 3, none⟩ = some (.int .i64 a3) := by rw [← hw1]; simp
    have hkb := Aside0.mk (show ob ≠ w.heap.size from by have h1 := blk_lt_ HX.out.o; omega)
    have B1 := Aside0.mk hb1
    clear hw1 hb1
    generalize hkbe : w.heap.size = kb at k0 k1 k2 k3 hkb ⊢
    have HKBE := Aside0.mk hkbe
    clear hkbe
    have x1 : w1.cell? ⟨ob, 0, none⟩ = some (.bool false) := (blk_cell (HX.out.below B1.out).o 0).trans rfl
    go_wp2_with (first
      | (go_at_call 90; (with_reducible refine (impl_Moebius_largest.calls a b a2 a3 g _ HG.out).mono ?_); rintro e w2 ⟨rfl, hb2⟩
         have B2 := Aside0.mk (show Below w.heap.size w w2 from B1.out.trans (hb2.mono B1.out.size))
         have X2 := Aside0.mk (HX.out.below B2.out)
         have F2 := Aside0.mk ((HF.out.below B2.out).set (p := ⟨ob, 0, none⟩) X2.out.o (by decide) (by decide) (.bool over'))
         have X3 := Aside0.mk (X2.out.put over')
         have B3 := Aside0.mk ((HB.out.trans (B2.out.mono HB.out.size)).setCell (p := ⟨ob, 0, none⟩) HOB.out (.bool over'))
         have S3 := Aside0.mk (show W0.heap.size ≤ (w2.setCell ⟨ob, 0, none⟩ (.bool over')).heap.size from by have h1 := HB.out.size; have h2 := B2.out.size; simp [World.setCell]; omega)
         have y3 : w2.cell? ⟨ob, 0, none⟩ = some (.bool false) := (blk_cell X2.out.o 0).trans rfl
         have z3 : w2.frozen? ⟨ob, 0, none⟩ = false := blk_frozen X2.out.o 0
         have m0 := keep_set (q := ⟨ob, 0, none⟩) (u := .bool over') (cel hb2 k0) (fun e => hkb.out e.symm)
         have m1 := keep_set (q := ⟨ob, 0, none⟩) (u := .bool over') (cel hb2 k1) (fun e => hkb.out e.symm)
         have m2 := keep_set (q := ⟨ob, 0, none⟩) (u := .bool over') (cel hb2 k2) (fun e => hkb.out e.symm)
         have m3 := keep_set (q := ⟨ob, 0, none⟩) (u := .bool over') (cel hb2 k3) (fun e => hkb.out e.symm)
         have y4 : (w2.setCell ⟨ob, 0, none⟩ (.bool over')).cell? ⟨pb, 0, none⟩ = some (.pointer (some ⟨gc, 0, none⟩)) := (blk_cell X3.out.p 0).trans rfl
         clear hb2 x1 k0 k1 k2 k3)
      | (go_at_call 91; (with_reducible refine (find_calls W0.heap.size gc bm av xs ⟨a, b, a2, a3⟩ HIN.out HL.out W0 _ ?s1 ?s2 ?s3).mono ?_); (case s1 => exact F2.out); (case s2 => exact B3.out); (case s3 => exact S3.out); rintro e w4 ⟨rfl, f4, b4, s4, a4⟩
         have F4 := Aside0.mk f4
         have B4 := Aside0.mk b4
         have S4 := Aside0.mk s4
         have A4 := Aside0.mk a4
         clear f4 b4 s4 a4)
      | fail)
    go_ret
    refine ⟨rfl, F4.out, X3.out.ks S4.out (by decide) (by decide), B4.out, ((Ks.below B2.out).trans (Ks.grown (grown_set w2 _ _) (fun k c q fz e hk => by
      injection e with e
      subst e
      rw [X2.out.o] at hk
      injection hk with hk
      injection hk with _ hk
      rw [← hk]
      simp))).trans (S4.out.mono (fun q hq => by simp at hq ⊢; omega)), fun k hk => ?_⟩
    rw [A4.out k hk, Below.heap_setCell w2 ⟨ob, 0, none⟩ _ k (fun e => HOA.out ((show k = ob from e) ▸ hk))]
    exact B2.out.block k (HF.out.al k hk).1
end Go.Proofs.Ytpfnohdnaocpdaa.PT

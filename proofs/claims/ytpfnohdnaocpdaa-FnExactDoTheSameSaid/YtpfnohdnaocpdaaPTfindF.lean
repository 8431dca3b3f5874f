/- A finder of pairs: a list, and a map that tells where each pair stands in it. What is known of it, and find. -/
import Derived.Test.YtpfnohdnaocpdaaPTx2
import Derived.Test.YtpfnohdnaocpdaaRP
import Derived.Test.YtpfnohdnaocpdaaPTks
import Derived.Maps.OwnSet
import Derived.WalkArith
import Derived.DeepKeys4
namespace Go.Proofs.Ytpfnohdnaocpdaa.PT
open Go.RowKit Go.Proofs.YtpfnohdnaocpdaaW.PrintWords Go.Proofs.YtpfnohdnaocpdaaW.PrintLast Go.Proofs.YtpfnohdnaocpdaaW.PrintMore Go.Lib Go.Proofs.YtpfnohdnaocpdaaRP
set_option linter.unusedVariables false
set_option linter.unusedSimpArgs false

theorem keyTK : Try.prog.keyType 89 = true := by kernel_rfl
theorem types_sz : ∃ n, Try.prog.types.size = n + 1 := ⟨Try.prog.types.size - 1, by
  have : 0 < Try.prog.types.size := of_decide_eq_true (by kernel_rfl)
  omega⟩
theorem rowK : (89 : TypeId) < Try.prog.types.size := of_decide_eq_true (by kernel_rfl)
theorem laidOut101 : laidOutB Try.prog = true := by kernel_rfl
theorem law101 : Go.Maps.Keyed Try.prog 89 := Go.Maps.Keyed.of_law (deep_law_laid laidOut101 (m := 3) (by omega) rowK (by kernel_rfl) (by kernel_rfl))
theorem zeroE85 (w : World) : (zeroValue 85).run Try.prog w = .ok (.int .i16 0) w := by kernel_rfl
theorem types_sz2 : ∃ n, Try.prog.types.size = n + 1 + 1 := ⟨Try.prog.types.size - 2, by
  have : 1 < Try.prog.types.size := of_decide_eq_true (by kernel_rfl)
  omega⟩
theorem keyK (a b c d e : Int) (ha : (Lit.int .i8 a).wf = true) (hb : (Lit.int .i8 b).wf = true) (hc : (Lit.int .i16 c).wf = true) (hd : (Lit.int .i16 d).wf = true) (he : (Lit.int .i16 e).wf = true) : ∃ kl, keyOf Try.prog 89 (.agg #[.int .i8 a, .int .i8 b, .int .i16 c, .int .i16 d, .int .i16 e]) = some kl := by
  obtain ⟨n, hn⟩ := types_sz2
  have c89 : Try.prog.cellsOf 89 = 5 := by kernel_rfl
  have c87 : Try.prog.cellsOf 87 = 3 := by kernel_rfl
  have c86 : Try.prog.cellsOf 86 = 1 := by kernel_rfl
  have c85 : Try.prog.cellsOf 85 = 1 := by kernel_rfl
  unfold keyOf
  rw [Try.underlying89]
  simp only [keyTK, Bool.true_and]
  have hf : (Value.agg #[.int .i8 a, .int .i8 b, .int .i16 c, .int .i16 d, .int .i16 e]).formed Try.prog 89 = true := by simp [Value.formed, Try.underlying89, c89]
  rw [if_pos hf, hn]
  have hcs : (Value.agg #[.int .i8 a, .int .i8 b, .int .i16 c, .int .i16 d, .int .i16 e]).cells.toList = [.int .i8 a, .int .i8 b, .int .i16 c, .int .i16 d, .int .i16 e] := rfl
  have h1 : ∀ z : Int, (Lit.int .i16 z).wf = true → Try.prog.keyLits (n + 1) 85 [.int .i16 z] = some [.int .i16 z] := fun z hz => by simp [Program.keyLits, Try.underlying85, hz]
  have h8 : ∀ z : Int, (Lit.int .i8 z).wf = true → Try.prog.keyLits (n + 1 + 1) 86 [.int .i8 z] = some [.int .i8 z] := fun z hz => by simp [Program.keyLits, Try.underlying86, hz]
  have h2 : Try.prog.keyLits (n + 1 + 1) 87 [.int .i16 c, .int .i16 d, .int .i16 e] = some [.int .i16 c, .int .i16 d, .int .i16 e] := by
    rw [Program.keyLits.eq_def]
    simp only [Try.underlying87, c87, c85]
    simp [List.range, List.range.loop, c85, h1 c hc, h1 d hd, h1 e he]
  have h3 : Try.prog.keyLits (n + 1 + 1 + 1) 89 [.int .i8 a, .int .i8 b, .int .i16 c, .int .i16 d, .int .i16 e] = some [.int .i8 a, .int .i8 b, .int .i16 c, .int .i16 d, .int .i16 e] := by
    rw [Program.keyLits.eq_def]
    simp only [Try.underlying89, c89, c87, c86, c85]
    simp [List.range, List.range.loop, c86, c87, c85, h8 a ha, h8 b hb, h2]
  rw [hcs, h3]
  exact ⟨_, rfl⟩

def eqP (x y : S89) : Bool := x.f0 == y.f0 && x.f1 == y.f1 && x.f2.f0 == y.f2.f0 && x.f2.f1 == y.f2.f1 && x.f2.f2 == y.f2.f2
theorem eqP_iff {x y : S89} : eqP x y = true ↔ x = y := by
  obtain ⟨a, b, c, d, e⟩ := x
  obtain ⟨a', b', c', d', e'⟩ := y
  simp [eqP, and_assoc]
def ixP (xs : List S89) (p : S89) : Nat := xs.findIdx fun x => eqP x p
def fndL (xs : List S89) (p : S89) : List S89 := if ixP xs p < xs.length then xs else xs ++ [p]
def I16p (p : S89) : Prop := (Lit.int .i8 p.f0).wf = true ∧ (Lit.int .i8 p.f1).wf = true ∧ (Lit.int .i16 p.f2.f0).wf = true ∧ (Lit.int .i16 p.f2.f1).wf = true ∧ (Lit.int .i16 p.f2.f2).wf = true
theorem wf16 {v : Int} (h : -32768 ≤ v) (h' : v ≤ 32767) : (Lit.int .i16 v).wf = true := WalkArith.wf_i16 ⟨h, h'⟩
noncomputable def keyP (p : S89) : Lit := @Classical.epsilon Lit ⟨.bool true⟩ fun kl => keyOf Try.prog 89 (.agg #[.int .i8 p.f0, .int .i8 p.f1, .int .i16 p.f2.f0, .int .i16 p.f2.f1, .int .i16 p.f2.f2]) = some kl
theorem keyP_of {p : S89} (h : I16p p) : keyOf Try.prog 89 (.agg #[.int .i8 p.f0, .int .i8 p.f1, .int .i16 p.f2.f0, .int .i16 p.f2.f1, .int .i16 p.f2.f2]) = some (keyP p) := Classical.epsilon_spec (keyK p.f0 p.f1 p.f2.f0 p.f2.f1 p.f2.f2 h.1 h.2.1 h.2.2.1 h.2.2.2.1 h.2.2.2.2)
theorem keyP_inj {p q : S89} (h : I16p p) (h' : I16p q) (e : keyP p = keyP q) : p = q := by
  have h1 := keyP_of h
  have h2 := keyP_of h'
  rw [← e] at h2
  have := law101.inj h1 h2
  simp only [Value.agg.injEq, Array.mk.injEq, List.cons.injEq, Value.int.injEq, true_and, and_true] at this
  exact eqP_iff.1 (by simp [eqP, this])
theorem keyP_key {p : S89} (h : I16p p) : WideAt.IsKeyLit (keyP p) := @Go.Maps.Keyed.key Try.prog 89 law101 (.agg #[.int .i8 p.f0, .int .i8 p.f1, .int .i16 p.f2.f0, .int .i16 p.f2.f1, .int .i16 p.f2.f2]) (keyP p) (keyP_of h)
structure Fnd (xs : List S89) (D : DataW Nat) : Prop where
  tidy : Go.Maps.Tidy D
  size : Go.Maps.size D ≤ xs.length
  val : ∀ p, I16p p → Go.Maps.has D (keyP p) = decide (ixP xs p < xs.length) ∧ (ixP xs p < xs.length → D.atKey (keyP p) (.lit (.int .i16 0)) = .lit (.int .i16 (ixP xs p)))
theorem Fnd.none : Fnd [] (.map []) := ⟨Go.Maps.tidy_empty, by simp [Go.Maps.size_eq], fun p _ => ⟨by simp [Go.Maps.has_eq, ixP], fun h => by simp [ixP] at h⟩⟩
theorem ixP_app (xs : List S89) (p q : S89) : ixP (xs ++ [p]) q = if ixP xs q < xs.length then ixP xs q else xs.length + (if eqP p q = true then 0 else 1) := by
  unfold ixP
  rw [List.findIdx_append]
  split
  · rfl
  · cases h : eqP p q <;> simp [List.findIdx_cons, h]; omega
theorem Fnd.put {xs : List S89} {D : DataW Nat} (h : Fnd xs D) {p : S89} (hp : I16p p) (hn : ¬ ixP xs p < xs.length) : Fnd (xs ++ [p]) (D.put (keyP p) (.lit (.int .i16 (xs.length : Nat)))) := by
  have hkl := keyP_key hp
  refine ⟨h.tidy.put hkl _, ?_, fun q hq => ?_⟩
  · rw [Go.Maps.size_put h.tidy]
    have := h.size
    rw [List.length_append, List.length_singleton]
    split <;> omega
  · rw [ixP_app, List.length_append, List.length_singleton]
    by_cases e : keyP q = keyP p
    · obtain rfl := keyP_inj hq hp e
      rw [Go.Maps.has_put_same h.tidy.isMap hkl, if_neg hn, if_pos (eqP_iff.2 rfl)]
      refine ⟨by simp, fun _ => ?_⟩
      rw [Go.Maps.atKey_put_same h.tidy.isMap hkl]
      rfl
    · have hne : ¬ eqP p q = true := fun hh => e (by rw [eqP_iff.1 hh])
      rw [Go.Maps.has_put_other e, Go.Maps.atKey_put_other e, if_neg hne]
      obtain ⟨h1, h2⟩ := h.val q hq
      rw [h1]
      by_cases c : ixP xs q < xs.length
      · rw [if_pos c]
        exact ⟨by rw [decide_eq_true c, decide_eq_true (by omega)], fun _ => h2 c⟩
      · rw [if_neg c]
        exact ⟨by rw [decide_eq_false c, decide_eq_false (by omega)], fun hh => absurd hh (by omega)⟩

/-- A finder: its two cells, its list (whose block is none of av's), its map. -/
structure FS (b0 gc bm : Nat) (av : List Nat) (xs : List S89) (w : World) : Prop where
  gl : b0 ≤ gc
  ml : b0 ≤ bm
  al : ∀ k, k ∈ av → k < w.heap.size ∧ k ≠ gc ∧ k ≠ bm
  row : ∃ v, w.heap[gc]? = some (.cells #[v, .map (some bm)] 177 (0, 0)) ∧ Kd.R k89 89 w b0 (fun k => k ∉ av) v xs
  map : ∃ D, Fnd xs D ∧ w.ownsMap Try.prog 89 (plainElem Try.prog 85) bm (Go.Maps.size D) D
theorem own_move_ {w w1 : World} {bm n : Nat} {D : DataW Nat} (h : w.ownsMap Try.prog 89 (plainElem Try.prog 85) bm n D) (e : w1.heap[bm]? = w.heap[bm]?) : w1.ownsMap Try.prog 89 (plainElem Try.prog 85) bm n D := by
  obtain ⟨es, clock, hb, F, hs, hD⟩ := h
  exact ⟨es, clock, e.trans hb, F, hs, hD⟩
theorem own_block {w : World} {bm n : Nat} {D : DataW Nat} (h : w.ownsMap Try.prog 89 (plainElem Try.prog 85) bm n D) : ∃ es clock, w.heap[bm]? = some (.map es clock) := by
  obtain ⟨es, clock, hb, F, hs, hD⟩ := h
  exact ⟨es, clock, hb⟩
theorem own_exact_ {w : World} {bm n : Nat} {D : DataW Nat} (h : w.ownsMap Try.prog 89 (plainElem Try.prog 85) bm n D) : w.ownsMap Try.prog 89 (plainElem Try.prog 85) bm (Go.Maps.size D) D := by
  obtain ⟨es, clock, hb, F, hs, hD⟩ := h
  refine ⟨es, clock, hb, F, ?_, hD⟩
  rw [hD, Go.Maps.size_eq, length_read]
  exact Nat.le_refl _
/-- Another block has been written: cells of another type, or one of av's. -/
theorem FS.grown {b0 gc bm : Nat} {av : List Nat} {xs : List S89} {w w1 : World} {row : Option Nat} (h : FS b0 gc bm av xs w) (hg : w.grownBy w1 row) (hr : ∀ k, row = some k → k ∈ av ∨ ∃ c q fz, w.heap[k]? = some (.cells c q fz) ∧ q ≠ 89 ∧ q ≠ 177) : FS b0 gc bm av xs w1 := by
  obtain ⟨gl, ml, al, ⟨v, hv, hR⟩, D, hF, hO⟩ := h
  obtain ⟨es, clock, hm⟩ := own_block hO
  refine ⟨gl, ml, fun k hk => ⟨Nat.lt_of_lt_of_le (al k hk).1 hg.size, (al k hk).2⟩, ⟨v, ?_, ?_⟩, D, hF, own_move_ hO (hg.block bm (blk_lt_ hm) (fun e => ?_))⟩
  · refine (hg.block gc (blk_lt_ hv) (fun e => ?_)).trans hv
    rcases hr gc e.symm with ha | ⟨c, q, fz, hk, _, h2⟩
    · exact (al gc ha).2.1 rfl
    · rw [hv] at hk
      injection hk with hk
      injection hk with _ hk
      exact h2 hk.symm
  · refine Kd.R_mono (Kd.R_move (Kd.R_bound hR) (fun k hk' => ?_)) (fun _ hk => hk.1)
    obtain ⟨ho, _, hlt, q, hq, cells, hc⟩ := hk'
    refine hg.block k hlt (fun e => ?_)
    rcases hr k e.symm with ha | ⟨c, q', fz, hk, h1, _⟩
    · exact ho ha
    · rw [hc] at hk
      injection hk with hk
      injection hk with _ hk
      have hE : k89.E = [] := rfl
      have : q = 89 := by rw [hE] at hq; simpa using hq
      exact h1 (hk.symm.trans this)
  · rcases hr bm e.symm with ha | ⟨c, q, fz, hk, _, _⟩
    · exact (al bm ha).2.2 rfl
    · rw [hm] at hk
      exact absurd hk (by simp)
theorem FS.below {b0 gc bm : Nat} {av : List Nat} {xs : List S89} {w w1 : World} (h : FS b0 gc bm av xs w) (hb : Below w.heap.size w w1) : FS b0 gc bm av xs w1 := by
  refine h.grown (row := Option.none) ⟨hb.os, hb.tape, hb.output, hb.size, fun k hk _ => hb.block k hk⟩ (fun k e => by cases e)
theorem FS.set {b0 gc bm : Nat} {av : List Nat} {xs : List S89} {w : World} (h : FS b0 gc bm av xs w) {p : Addr} {c : Array Value} {q : Nat} {fz : Nat × Nat} (hp : w.heap[p.block]? = some (.cells c q fz)) (h1 : q ≠ 89) (h2 : q ≠ 177) (u : Value) : FS b0 gc bm av xs (w.setCell p u) :=
  h.grown (grown_set w p u) (fun k e => by cases e; exact .inr ⟨c, q, fz, hp, h1, h2⟩)
theorem FS.lt {b0 gc bm : Nat} {av : List Nat} {xs : List S89} {w : World} (h : FS b0 gc bm av xs w) : gc < w.heap.size ∧ bm < w.heap.size := by
  obtain ⟨v, hv, _⟩ := h.row
  obtain ⟨D, _, hO⟩ := h.map
  exact ⟨blk_lt_ hv, hO.lt⟩
/-- A block that is new is none of the list's. -/
theorem FS.avoid {b0 gc bm : Nat} {av : List Nat} {xs : List S89} {w w1 : World} (h : FS b0 gc bm av xs w) (hb : Below w.heap.size w w1) {k : Nat} (h0 : w.heap.size ≤ k) (h1 : k < w1.heap.size) : FS b0 gc bm [k] xs w1 := by
  have hl := h.lt
  obtain ⟨gl, ml, al, ⟨v, hv, hR⟩, D, hF, hO⟩ := h
  refine ⟨gl, ml, fun j hj => ?_, ⟨v, (hb.block gc hl.1).trans hv, ?_⟩, D, hF, own_move_ hO (hb.block bm hl.2)⟩
  · obtain rfl := List.mem_singleton.1 hj
    exact ⟨h1, by omega, by omega⟩
  · refine Kd.R_mono (Kd.R_move (Kd.R_bound hR) (fun j hj => hb.block j hj.2.2.1)) (fun j hj => ?_)
    intro hm
    have := List.mem_singleton.1 hm
    have := hj.2.2.1
    omega
theorem FS.forget {b0 gc bm : Nat} {av : List Nat} {xs : List S89} {w : World} (h : FS b0 gc bm av xs w) : FS b0 gc bm [] xs w := by
  obtain ⟨gl, ml, al, ⟨v, hv, hR⟩, D, hF, hO⟩ := h
  exact ⟨gl, ml, (fun k hk => (nomatch hk)), ⟨v, hv, Kd.R_mono hR (fun k _ hk => (nomatch hk))⟩, D, hF, hO⟩
theorem FS.lower {b0 b1 gc bm : Nat} {av : List Nat} {xs : List S89} {w : World} (h : FS b0 gc bm av xs w) (hb : b1 ≤ b0) : FS b1 gc bm av xs w := by
  obtain ⟨gl, ml, al, ⟨v, hv, hR⟩, D, hF, hO⟩ := h
  exact ⟨by omega, by omega, al, ⟨v, hv, Kd.R_lower hR hb⟩, D, hF, hO⟩
section
variable {P : Program} {α : Type}
/-- append of one element, whose box has just been made. -/
theorem R_append_run (d : Kd α) {W : World} (base : Nat) (t ty e : TypeId) (z : Value) (bytes : Nat)
    (ht : P.underlying t = some (.slice e)) (hinfo : (P.info? e).map (fun i => (i.zero, i.size, i.bytes)) = some (some z, d.sz, bytes)) (hz : z.cells.size = d.sz) (hs0 : 0 < d.sz) (hb0 : 0 < bytes)
    (v : Value) (xs : List α) (p : α) (cs : List Value) (ok okp : Nat → Prop) (hp : d.M W base okp p cs) (hokp : ∀ k, okp k → ok k ∧ some k ≠ v.ownBlock) (hfresh : ∀ k, W.heap.size ≤ k → ok k)
    (HO : d.R e W base ok v xs) (hbase : base ≤ W.heap.size) (hl : (xs.length + 1) * bytes ≤ 140737488355328) :
    ∃ v1 w1, (Builtin.append_ #[t, t] ty #[v, .slice (some ⟨W.heap.size, 0, none⟩) 1 1]).run P (W.alloc (.cells cs.toArray e)) = .ok v1 w1 ∧ d.R e w1 base ok v1 (xs ++ [p]) ∧ W.grownBy w1 v.ownBlock ∧ (∀ k, v1.ownBlock = some k → v.ownBlock = some k ∨ W.heap.size ≤ k) := by
  obtain ⟨h0, inner, hown, hr⟩ := HO
  obtain ⟨i0, hi, hzz⟩ := Option.map_eq_some_iff.1 hinfo
  simp only [Prod.mk.injEq] at hzz
  obtain ⟨hz0, hz1, hz2⟩ := hzz
  have hlen : xs.length + 1 ≤ 140737488355328 := Nat.le_trans (Nat.le_mul_of_pos_right _ hb0) hl
  have hcl := d.K_len (d.K_of_M hp)
  obtain ⟨v', w', hrun, h2, h3, h4, h5⟩ := run_append_own_at (P := P) (W.alloc (.cells cs.toArray e)) base t ty e i0 z d.sz bytes ht hi hz0 hz1 hz2 hz hs0 v xs.length inner (hown.alloc _) ⟨W.heap.size, 0, none⟩ 1 1 cs (by rw [hcl]; simp)
    (by simpa using World.news_of_block (cs := cs.toArray) (t := e) (fr := (0, 0)) (heap_alloc_new W (.cells cs.toArray e))) (d.K_one (d.K_of_M hp)) (by simp only [maxLen]; omega) hl (by simp; omega)
  have hat : v'.ownBlock = v.ownBlock ∨ ∃ b, v'.ownBlock = some b ∧ W.heap.size ≤ b := by
    rcases h5 with h5 | h5
    · exact .inl h5
    · exact .inr ⟨_, h5, by simp⟩
  have hgr := World.grownBy.trans (World.grownBy_alloc W (.cells cs.toArray e) v.ownBlock) h3
  refine ⟨v', w', hrun, Kd.R_appended h0 hr hp hokp hfresh h2 hgr hat, hgr, fun k hk => ?_⟩
  rcases hat with hat | ⟨b, hb, hle⟩
  · exact .inl (hat ▸ hk)
  · rw [hb] at hk
    injection hk with hk
    exact .inr (by omega)
end
end Go.Proofs.Ytpfnohdnaocpdaa.PT

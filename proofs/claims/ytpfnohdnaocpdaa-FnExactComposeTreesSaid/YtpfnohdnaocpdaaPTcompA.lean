/- impl.ComposeTrees by hand. -/
import Derived.Test.YtpfnohdnaocpdaaPTx4
import Derived.Test.YtpfnohdnaocpdaaPTx7
import Derived.Test.YtpfnohdnaocpdaaPTclo
import Derived.Deep.CutBlock
namespace Go.Proofs.Ytpfnohdnaocpdaa.PT
open Go.RowKit Go.Proofs.YtpfnohdnaocpdaaW.PrintWords Go.Proofs.YtpfnohdnaocpdaaW.PrintLast Go.Proofs.YtpfnohdnaocpdaaW.PrintMore Go.Lib Go.Proofs.YtpfnohdnaocpdaaRP
set_option linter.unusedVariables false
set_option linter.unusedSimpArgs false
def digTb (l : List S89) : Bool := l.all fun x => decide (-1 ≤ x.f1 ∧ x.f1 ≤ 1)
theorem digT_of {l : List S89} (h : digTb l = true) : digT l := by
  intro i h0 h1
  have hi : i.toNat < l.length := by omega
  have e : rd_T89 l i = l[i.toNat] := by simp [rd_T89, List.getD, hi]
  have := List.all_eq_true.1 h _ (List.getElem_mem hi)
  rw [e]
  simpa using this
def nx (y : S89) : Nat → Int
  | 0 => y.f2.f0
  | 1 => y.f2.f1
  | _ => y.f2.f2
/-- The list behind j ways of a node that asks. -/
def cX (l m : List S89) (a : Int) (y : S89) (xs : List S98) : Nat → List S98
  | 0 => xs
  | j + 1 => fndL (cX l m a y xs j) (st l m a (nx y j)).1
def cI (l m : List S89) (a : Int) (y : S89) (xs : List S98) (j : Nat) : Nat := ixP (cX l m a y xs j) (st l m a (nx y j)).1
def cF (l m : List S89) (a : Int) (y : S89) : Nat → Bool
  | 0 => true
  | j + 1 => cF l m a y j && (st l m a (nx y j)).2
def cmp (l m : List S89) : Nat → List S98 → List S89 → Nat → Bool → Option (List S89 × Bool)
  | 0, _, _, _, _ => none
  | k + 1, xs, ns, i, fine => if i < xs.length ∧ fine = true then (if xs.length ≤ 3600 ∧ ns.length ≤ 3600 then (if (rd_T89 l (rd_T98 xs i).f0).f0 = 2 then cmp l m k (fndL xs (st l m (rd_T89 l (rd_T98 xs i).f0).f2.f0 (rd_T98 xs i).f1).1) (ns ++ [⟨2, (rd_T89 l (rd_T98 xs i).f0).f1, ⟨(ixP xs (st l m (rd_T89 l (rd_T98 xs i).f0).f2.f0 (rd_T98 xs i).f1).1 : Nat), 0, 0⟩⟩]) (i + 1) (st l m (rd_T89 l (rd_T98 xs i).f0).f2.f0 (rd_T98 xs i).f1).2 else cmp l m k (cX l m (rd_T98 xs i).f0 (rd_T89 m (rd_T98 xs i).f1) xs 3) (ns ++ [⟨1, 0, ⟨(cI l m (rd_T98 xs i).f0 (rd_T89 m (rd_T98 xs i).f1) xs 0 : Nat), (cI l m (rd_T98 xs i).f0 (rd_T89 m (rd_T98 xs i).f1) xs 1 : Nat), (cI l m (rd_T98 xs i).f0 (rd_T89 m (rd_T98 xs i).f1) xs 2 : Nat)⟩⟩]) (i + 1) (cF l m (rd_T98 xs i).f0 (rd_T89 m (rd_T98 xs i).f1) 3)) else none) else some (ns, fine)
theorem cmp_mono (l m : List S89) : ∀ (k : Nat) (xs : List S98) (ns : List S89) (i : Nat) (fine : Bool), LeO (cmp l m k xs ns i fine) (cmp l m (k + 1) xs ns i fine) := by
  intro k
  induction k with
  | zero => intro xs ns i fine; exact LeO.none _
  | succ k ih =>
    intro xs ns i fine
    rw [cmp, cmp.eq_def l m (k + 1 + 1)]
    exact LeO.ite (LeO.ite (LeO.ite (ih _ _ _ _) (ih _ _ _ _)) (LeO.refl _)) (LeO.refl _)
def fin (r : List S89 × Bool) : List S89 × Int := if r.2 = false then ([], 4) else if 60 < r.1.length then ([], 3) else (r.1, 0)
def okBoth (l m : List S89) : Bool := okT l && okT m && digTb m && decide (l.length ≤ 60 ∧ m.length ≤ 60 ∧ 0 < l.length ∧ 0 < m.length)
def impl_ComposeTrees.f (k : Nat) (l m : List S89) : Option (List S89 × Int) := (impl_ValidTree.f l).bind fun t => if t = true then ((impl_ValidTree.f m).bind fun u => if u = true then (if okBoth l m = true then ((cmp l m k [(st l m 0 0).1] [] 0 (st l m 0 0).2).bind fun r => some (fin r)) else none) else some ([], 1)) else some ([], 1)
theorem impl_ComposeTrees.mono : ∀ a0 a1 k, LeO (impl_ComposeTrees.f k a0 a1) (impl_ComposeTrees.f (k + 1) a0 a1) := by
  intro a0 a1 k
  unfold impl_ComposeTrees.f
  exact LeO.bind (LeO.refl _) fun _ => LeO.ite (LeO.bind (LeO.refl _) fun _ => LeO.ite (LeO.ite (LeO.bind (cmp_mono _ _ _ _ _ _ _) fun _ => LeO.refl _) (LeO.refl _)) (LeO.refl _)) (LeO.refl _)
def AllIn (l m : List S89) (xs : List S98) : Prop := ∀ p ∈ xs, InR l m p.f0 p.f1
theorem AllIn.fnd {l m : List S89} {xs : List S98} (h : AllIn l m xs) {p : S98} (hp : InR l m p.f0 p.f1) : AllIn l m (fndL xs p) := by
  unfold fndL
  split
  · exact h
  · intro q hq
    rcases List.mem_append.1 hq with hq | hq
    · exact h q hq
    · rw [List.mem_singleton.1 hq]; exact hp
theorem AllIn.rd {l m : List S89} {xs : List S98} (h : AllIn l m xs) {i : Nat} (hi : i < xs.length) : InR l m (rd_T98 xs i).f0 (rd_T98 xs i).f1 := by
  have e : rd_T98 xs (i : Int) = xs[i] := by simp [rd_T98, List.getD, hi]
  rw [e]
  exact h _ (List.getElem_mem hi)
theorem fndL_le (xs : List S98) (p : S98) : (fndL xs p).length ≤ xs.length + 1 := by
  unfold fndL
  split
  · omega
  · simp
def ComPost (r1 : List S89) (r2 : Int) (w : World) (e : Ending) (w' : World) : Prop := ∃ v0_ : Value, e = .returned (.tuple #[.agg #[v0_], .int .i64 r2]) ∧ Kd.R k89 89 w' w.heap.size (fun _ => True) v0_ r1 ∧ Below w.heap.size w w'
def O34 : Obj := .cells #[.slice none 0 0] 34 (0, 0)
set_option maxHeartbeats 8000000 in
set_option maxRecDepth 100000 in
theorem com_bad (A0 A1 : Option Addr) (c0 c1 : Nat) (l m : List S89) (t u : Bool) (htu : (t && u) = false) (w : World) (hr0 : Kd.C k89 w A0 l.length l) (hc0 : l.length ≤ c0) (hr1 : Kd.C k89 w A1 m.length m) (hc1 : m.length ≤ c1) (h0 : impl_ValidTree.f l = some t) (h1 : impl_ValidTree.f m = some u) :
    Calls Try.prog 30 #[.agg #[.slice A0 l.length c0], .agg #[.slice A1 m.length c1]] w fun e w' => ComPost [] 1 w e w' := by
  have V0 := Aside0.mk h0
  have V1 := Aside0.mk h1
  have HR0 := Aside0.mk hr0
  have HC0 := Aside0.mk hc0
  have HR1 := Aside0.mk hr1
  have HC1 := Aside0.mk hc1
  clear h0 h1 hr0 hc0 hr1 hc1
  go_enter Try.func30, Try.ntmps30
  go_upto_region 1 with (fail)
  generalize hw1 : World.alloc (World.alloc (World.alloc w _) _) _ = w1
  have K0 : w1.heap[w.heap.size]? = some (.cells #[.slice A0 l.length c0] 34 (0, 0)) := by rw [← hw1]; exact ha_old _ (ha_old _ (ha_at _ _ rfl))
  have K1 : w1.heap[w.heap.size + 1]? = some (.cells #[.slice A1 m.length c1] 34 (0, 0)) := by rw [← hw1]; exact ha_old _ (ha_at _ _ (by simp))
  have K2 : w1.heap[w.heap.size + 1 + 1]? = some (.cells #[.slice none 0 0] 34 (0, 0)) := by rw [← hw1]; exact ha_at _ _ (by simp)
  have HB : Aside0 (Below w.heap.size w w1) := ⟨by rw [← hw1]; exact below_alloc (below_alloc (below_alloc (Below.refl _ _) _) _) _⟩
  have G0 := Aside0.mk K0
  have G1 := Aside0.mk K1
  have G2 := Aside0.mk K2
  clear hw1 K0 K1 K2
  have k0 : w1.cell? ⟨w.heap.size, 0, none⟩ = some (.slice A0 l.length c0) := (blk_cell G0.out 0).trans rfl
  cases t with
  | false =>
    go_wp2_with (first
      | (go_at_call 60; (with_reducible refine (impl_ValidTree.calls A0 c0 l false _ ?s1 ?s2 V0.out).mono ?_); (case s1 => exact Kd.C_below HR0.out HB.out); (case s2 => exact HC0.out); rintro e w7 ⟨rfl, hb⟩
         have B7 := Aside0.mk hb
         have H2 := Aside0.mk ((hb.block _ (blk_lt_ G2.out)).trans G2.out)
         have k2 : w7.cell? ⟨w.heap.size + 1 + 1, 0, none⟩ = some (.slice none 0 0) := (blk_cell H2.out 0).trans rfl
         have z2 : w7.frozen? ⟨w.heap.size + 1 + 1, 0, none⟩ = false := blk_frozen H2.out 0
         clear hb k0)
      | fail)
    exact bodyPost_ret (results_ct rfl _ _ (w.heap.size + 1 + 1) 34 #[.slice none 0 0] (0, 0) _ rfl (blk_put H2.out 0 _ rfl) Try.underlying34 rfl (by kernel_rfl)) rfl ⟨.slice none 0 0, rfl, Kd.R_nil _ _ _ _ _, (HB.out.trans (B7.out.mono HB.out.size)).setCell (p := ⟨w.heap.size + 1 + 1, 0, none⟩) (by show w.heap.size ≤ w.heap.size + 1 + 1; omega) _⟩
  | true =>
    have hu : u = false := by simpa using htu
    subst hu
    go_wp2_with (first
      | (go_at_call 60; (with_reducible refine (impl_ValidTree.calls A0 c0 l true _ ?s1 ?s2 V0.out).mono ?_); (case s1 => exact Kd.C_below HR0.out HB.out); (case s2 => exact HC0.out); rintro e w7 ⟨rfl, hb⟩
         have B7 := Aside0.mk hb
         have H1 := Aside0.mk ((hb.block _ (blk_lt_ G1.out)).trans G1.out)
         have H2 := Aside0.mk ((hb.block _ (blk_lt_ G2.out)).trans G2.out)
         have k1 : w7.cell? ⟨w.heap.size + 1, 0, none⟩ = some (.slice A1 m.length c1) := (blk_cell H1.out 0).trans rfl
         clear hb k0)
      | (go_at_call 60; (with_reducible refine (impl_ValidTree.calls A1 c1 m false _ ?s1 ?s2 V1.out).mono ?_); (case s1 => exact Kd.C_below HR1.out (HB.out.trans (B7.out.mono HB.out.size))); (case s2 => exact HC1.out); rintro e w8 ⟨rfl, hb⟩
         have B8 := Aside0.mk (B7.out.trans (hb.mono B7.out.size))
         have H3 := Aside0.mk ((hb.block _ (blk_lt_ H2.out)).trans H2.out)
         have k2 : w8.cell? ⟨w.heap.size + 1 + 1, 0, none⟩ = some (.slice none 0 0) := (blk_cell H3.out 0).trans rfl
         have z2 : w8.frozen? ⟨w.heap.size + 1 + 1, 0, none⟩ = false := blk_frozen H3.out 0
         clear hb k1)
      | fail)
    exact bodyPost_ret (results_ct rfl _ _ (w.heap.size + 1 + 1) 34 #[.slice none 0 0] (0, 0) _ rfl (blk_put H3.out 0 _ rfl) Try.underlying34 rfl (by kernel_rfl)) rfl ⟨.slice none 0 0, rfl, Kd.R_nil _ _ _ _ _, (HB.out.trans (B8.out.mono HB.out.size)).setCell (p := ⟨w.heap.size + 1 + 1, 0, none⟩) (by show w.heap.size ≤ w.heap.size + 1 + 1; omega) _⟩
end Go.Proofs.Ytpfnohdnaocpdaa.PT

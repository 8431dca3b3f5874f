/- newFinder by hand. -/
import Derived.Test.YtpfnohdnaocpdaaPTx6
import Derived.Test.YtpfnohdnaocpdaaPTfinderM
namespace Go.Proofs.Ytpfnohdnaocpdaa.PT
open Go.RowKit Go.Proofs.YtpfnohdnaocpdaaW.PrintWords Go.Proofs.YtpfnohdnaocpdaaW.PrintLast Go.Proofs.YtpfnohdnaocpdaaW.PrintMore Go.Lib Go.Proofs.YtpfnohdnaocpdaaRP
set_option linter.unusedVariables false
set_option linter.unusedSimpArgs false
theorem FS.made {w' : World} {b0 gc bm s : Nat} {p : S60} {D : DataW Nat} (g1 : b0 ≤ gc) (g2 : b0 ≤ bm) (g3 : b0 ≤ s) (hs : w'.heap[s]? = some (.cells #[.int .i64 p.f0, .int .i64 p.f1, .int .i64 p.f2, .int .i64 p.f3] 60 (0, 0))) (hF : w'.heap[gc]? = some (.cells #[.slice (some ⟨s, 0, none⟩) 1 1, .map (some bm)] 135 (0, 0))) (hD : Fnd [p] D) (hO : w'.ownsMap Try.prog 60 (plainElem Try.prog 85) bm (Go.Maps.size D) D) : FS b0 gc bm [] [p] w' := by
  refine ⟨g1, g2, (fun k hk => (nomatch hk)), ⟨_, hF, ⟨fun k _ => by simp, [.int .i64 p.f0, .int .i64 p.f1, .int .i64 p.f2, .int .i64 p.f3], ⟨rfl, .inr ⟨s, 1, #[.int .i64 p.f0, .int .i64 p.f1, .int .i64 p.f2, .int .i64 p.f3], rfl, g3, hs, Nat.le_refl _, by decide, rfl, rfl⟩⟩, ?_⟩⟩, D, hD, hO⟩
  have h := (Reps.none (Kd.M k60 w' b0 (fun k => k ∉ [] ∧ some k ≠ (Value.slice (some ⟨s, 0, none⟩) 1 1).ownBlock)) k60.sz).snoc (k60_mkM w' b0 _ p) rfl
  exact h
def NewPost (p : S60) (w : World) (e : Ending) (w' : World) : Prop := ∃ gc bm, e = .returned (.pointer (some ⟨gc, 0, none⟩)) ∧ FS w.heap.size gc bm [] [p] w' ∧ Below w.heap.size w w'
set_option maxHeartbeats 8000000 in
set_option maxRecDepth 100000 in
theorem newFinder_calls (p : S60) (hp : I16p p) (w : World) :
    Calls Try.prog 87 #[.agg #[.int .i64 p.f0, .int .i64 p.f1, .int .i64 p.f2, .int .i64 p.f3]] w fun e w' => NewPost p w e w' := by
  obtain ⟨a, b, a2, a3⟩ := p
  have HKEY := Aside0.mk (keyP_of hp)
  have HD : Aside0 (Fnd [⟨a, b, a2, a3⟩] ((DataW.map [] : DataW Nat).put (keyP ⟨a, b, a2, a3⟩) (.lit (.int .i16 0)))) := ⟨Fnd.none.put hp (by simp)⟩
  clear hp
  have hmm := @run_makeMap Try.prog
  go_enter Try.func87, Try.ntmps87
  go_upto_region 1 with (fail)
  generalize hwA : World.alloc w _ = w1
  have hkb0 : w1.cell? ⟨w.heap.size, 0, none⟩ = some (.int .i64 a) := by rw [← hwA]; simp
  have hkb1 : w1.cell? ⟨w.heap.size, 1, none⟩ = some (.int .i64 b) := by rw [← hwA]; simp
  have hkb2 : w1.cell? ⟨w.heap.size, 2, none⟩ = some (.int .i64 a2) := by rw [← hwA]; simp
  have hkb3 : w1.cell? ⟨w.heap.size, 3, none⟩ = some (.int .i64 a3) := by rw [← hwA]; simp
  have HB : Aside0 (Below w.heap.size w w1) := ⟨by rw [← hwA]; exact below_alloc (Below.refl _ _) _⟩
  have HS : Aside0 (w1.heap.size = w.heap.size + 1) := ⟨by rw [← hwA]; simp⟩
  clear hwA
  obtain ⟨S, hS⟩ : ∃ S : Obj, S = .cells #[.int .i64 a, .int .i64 b, .int .i64 a2, .int .i64 a3] 60 (0, 0) := ⟨_, rfl⟩
  have own0 : ∀ W : World, (W.alloc (.map #[] 0)).ownsMap Try.prog 60 (plainElem (H := Nat) Try.prog 85) W.heap.size 0 (.map []) := fun W => World.ownsMap_made W Try.prog 60 _
  have upd : ∀ (W : World) (m : Nat), W.ownsMap Try.prog 60 (plainElem (H := Nat) Try.prog 85) m 0 (.map []) → ∃ w', (Instr.mapUpdate 133 (.map (some m)) (.agg #[.int .i64 a, .int .i64 b, .int .i64 a2, .int .i64 a3]) (.int .i16 0)).run Try.prog W.drew = .ok () w' ∧ Aside0 (w'.ownsMap Try.prog 60 (plainElem Try.prog 85) m 1 ((DataW.map [] : DataW Nat).put (keyP ⟨a, b, a2, a3⟩) (.lit (.int .i16 0)))) ∧ Aside0 (W.grownBy w' (some m)) := fun W m hO => by
    obtain ⟨w', h1, h2, h3⟩ := (hO.drew).update law101 Try.underlying133 (by decide) HKEY.out (plainElem_int Try.underlying85 (a := 0) (by decide))
    exact ⟨w', h1, ⟨h2⟩, ⟨⟨h3.os, h3.tape, h3.output, h3.size, h3.block⟩⟩⟩
  obtain ⟨wA, hrA, HOA, HGA⟩ := upd (w1.alloc (.map #[] 0)) w1.heap.size (own0 w1)
  obtain ⟨wB, hrB, HOB, HGB⟩ := upd ((w1.alloc (.cells #[.int .i64 a, .int .i64 b, .int .i64 a2, .int .i64 a3] 60 (0, 0))).alloc (.map #[] 0)) (w1.heap.size + 1) (by have := own0 (w1.alloc (.cells #[.int .i64 a, .int .i64 b, .int .i64 a2, .int .i64 a3] 60 (0, 0))); simpa using this)
  obtain ⟨wC, hrC, HOC, HGC⟩ := upd ((w1.alloc (.map #[] 0)).alloc (.cells #[.int .i64 a, .int .i64 b, .int .i64 a2, .int .i64 a3] 60 (0, 0))) w1.heap.size ((own0 w1).alloc _)
  clear own0 upd S hS
  have a1_0 := fun o => cel (below_alloc (Below.refl w1.heap.size w1) o) hkb0
  have a3_0 := fun o o' => cel (below_alloc (below_alloc (Below.refl w1.heap.size w1) o) o') hkb0
  have a1_1 := fun o => cel (below_alloc (Below.refl w1.heap.size w1) o) hkb1
  have a3_1 := fun o o' => cel (below_alloc (below_alloc (Below.refl w1.heap.size w1) o) o') hkb1
  have a1_2 := fun o => cel (below_alloc (Below.refl w1.heap.size w1) o) hkb2
  have a3_2 := fun o o' => cel (below_alloc (below_alloc (Below.refl w1.heap.size w1) o) o') hkb2
  have a1_3 := fun o => cel (below_alloc (Below.refl w1.heap.size w1) o) hkb3
  have a3_3 := fun o o' => cel (below_alloc (below_alloc (Below.refl w1.heap.size w1) o) o') hkb3
  have kbl : w.heap.size < w1.heap.size := World.block_lt_of_cell? w1 _ hkb0
  have a5_0 : wA.cell? ⟨w.heap.size, 0, none⟩ = some (.int .i64 a) := (World.cell?_of_block (HGA.out.block _ (by show w.heap.size < _; simp; omega) (fun e => by injection e with e; have : w.heap.size = w1.heap.size := e; omega))).trans (a1_0 _)
  have a5_1 : wA.cell? ⟨w.heap.size, 1, none⟩ = some (.int .i64 b) := (World.cell?_of_block (HGA.out.block _ (by show w.heap.size < _; simp; omega) (fun e => by injection e with e; have : w.heap.size = w1.heap.size := e; omega))).trans (a1_1 _)
  have a5_2 : wA.cell? ⟨w.heap.size, 2, none⟩ = some (.int .i64 a2) := (World.cell?_of_block (HGA.out.block _ (by show w.heap.size < _; simp; omega) (fun e => by injection e with e; have : w.heap.size = w1.heap.size := e; omega))).trans (a1_2 _)
  have a5_3 : wA.cell? ⟨w.heap.size, 3, none⟩ = some (.int .i64 a3) := (World.cell?_of_block (HGA.out.block _ (by show w.heap.size < _; simp; omega) (fun e => by injection e with e; have : w.heap.size = w1.heap.size := e; omega))).trans (a1_3 _)
  have HA := Aside0.mk (show Below w.heap.size w wA from (below_alloc HB.out _).grown HGA.out (by simp; omega) (fun k e => by cases e; omega))
  have HBb := Aside0.mk (show Below w.heap.size w wB from (below_alloc (below_alloc HB.out _) _).grown HGB.out (by simp; omega) (fun k e => by cases e; omega))
  have HCc := Aside0.mk (show Below w.heap.size w wC from (below_alloc (below_alloc HB.out _) _).grown HGC.out (by simp; omega) (fun k e => by cases e; omega))
  have SB := Aside0.mk (show wB.heap[w1.heap.size]? = some (.cells #[.int .i64 a, .int .i64 b, .int .i64 a2, .int .i64 a3] 60 (0, 0)) from (HGB.out.block _ (by simp; omega) (fun e => by injection e; omega)).trans (ha_old _ (ha_at w1 _ rfl)))
  have SC := Aside0.mk (show wC.heap[w1.heap.size + 1]? = some (.cells #[.int .i64 a, .int .i64 b, .int .i64 a2, .int .i64 a3] 60 (0, 0)) from (HGC.out.block _ (by simp) (fun e => by injection e; omega)).trans (ha_at (w1.alloc _) _ (by simp)))
  have KBL := Aside0.mk kbl
  clear kbl
  go_region
  · go_wp2
    go_ret
    refine ⟨wB.heap.size, w1.heap.size + 1, rfl, FS.made (s := w1.heap.size) (HBb.out.size) (by have := KBL.out; omega) (by have := KBL.out; omega) (ha_old _ SB.out) (ha_at wB _ rfl) HD.out (own_exact_ (HOB.out.alloc _)), below_alloc HBb.out _⟩
  · go_wp2
    go_ret
    refine ⟨wC.heap.size, w1.heap.size, rfl, FS.made (s := w1.heap.size + 1) (HCc.out.size) (by have := KBL.out; omega) (by have := KBL.out; omega) (ha_old _ SC.out) (ha_at wC _ rfl) HD.out (own_exact_ (HOC.out.alloc _)), below_alloc HCc.out _⟩
  · go_wp2
    go_ret
    refine ⟨wA.heap.size + 1, w1.heap.size, rfl, FS.made (s := wA.heap.size) (by have := HA.out.size; omega) (by have := KBL.out; omega) (HA.out.size) (ha_old _ (ha_at wA _ rfl)) (ha_at (wA.alloc _) _ (by simp)) HD.out (own_exact_ ((HOA.out.alloc _).alloc _)), below_alloc (below_alloc HA.out _) _⟩
end Go.Proofs.Ytpfnohdnaocpdaa.PT

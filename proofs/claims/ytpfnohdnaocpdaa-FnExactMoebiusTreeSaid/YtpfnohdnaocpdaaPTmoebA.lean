/- impl.MoebiusTree by hand: what it reckons. -/
import Derived.Test.YtpfnohdnaocpdaaPTx6
import Derived.Test.YtpfnohdnaocpdaaPTx7
import Derived.Test.YtpfnohdnaocpdaaPTx8
import Derived.Test.YtpfnohdnaocpdaaPTcloM
namespace Go.Proofs.Ytpfnohdnaocpdaa.PT
open Go.RowKit Go.Proofs.YtpfnohdnaocpdaaW.PrintWords Go.Proofs.YtpfnohdnaocpdaaW.PrintLast Go.Proofs.YtpfnohdnaocpdaaW.PrintMore Go.Lib Go.Proofs.YtpfnohdnaocpdaaRP
set_option linter.unusedVariables false
set_option linter.unusedSimpArgs false
abbrev Q4 := Int × Int × Int × Int
def s60 (q : Q4) : S60 := ⟨q.1, q.2.1, q.2.2.1, q.2.2.2⟩
def mtl : Nat → List S60 → List S89 → Nat → Bool → Option (List S89 × Bool)
  | 0, _, _, _, _ => none
  | k + 1, xs, ns, i, over => if i < xs.length ∧ over = false then (if xs.length ≤ 3600 ∧ ns.length ≤ 3600 then ((impl_Moebius_tells.f k (rd_T60 xs i).f0 (rd_T60 xs i).f1 (rd_T60 xs i).f2 (rd_T60 xs i).f3).bind fun t => if t.2 = true then ((impl_Moebius_behind.f k (rd_T60 xs i).f0 (rd_T60 xs i).f1 (rd_T60 xs i).f2 (rd_T60 xs i).f3 t.1).bind fun b => (ovS false (s60 b)).bind fun o => mtl k (fndL xs (s60 b)) (ns ++ [⟨2, t.1, ⟨(ixP xs (s60 b) : Nat), 0, 0⟩⟩]) (i + 1) (o || decide (60 < (fndL xs (s60 b)).length)))
      else ((impl_Moebius_with.f k (rd_T60 xs i).f0 (rd_T60 xs i).f1 (rd_T60 xs i).f2 (rd_T60 xs i).f3 (-1)).bind fun b0 => (ovS false (s60 b0)).bind fun o0 => (impl_Moebius_with.f k (rd_T60 xs i).f0 (rd_T60 xs i).f1 (rd_T60 xs i).f2 (rd_T60 xs i).f3 0).bind fun b1 => (ovS o0 (s60 b1)).bind fun o1 => (impl_Moebius_with.f k (rd_T60 xs i).f0 (rd_T60 xs i).f1 (rd_T60 xs i).f2 (rd_T60 xs i).f3 1).bind fun b2 => (ovS o1 (s60 b2)).bind fun o2 =>
        mtl k (fndL (fndL (fndL xs (s60 b0)) (s60 b1)) (s60 b2)) (ns ++ [⟨1, 0, ⟨(ixP xs (s60 b0) : Nat), (ixP (fndL xs (s60 b0)) (s60 b1) : Nat), (ixP (fndL (fndL xs (s60 b0)) (s60 b1)) (s60 b2) : Nat)⟩⟩]) (i + 1) (o2 || decide (60 < (fndL (fndL (fndL xs (s60 b0)) (s60 b1)) (s60 b2)).length)))) else none) else some (ns, over)
theorem mtl_mono : ∀ (k : Nat) (xs : List S60) (ns : List S89) (i : Nat) (over : Bool), LeO (mtl k xs ns i over) (mtl (k + 1) xs ns i over) := by
  intro k
  induction k with
  | zero => intro xs ns i over; exact LeO.none _
  | succ k ih =>
    intro xs ns i over
    rw [mtl, mtl.eq_def (k + 1 + 1)]
    refine LeO.ite (LeO.ite (LeO.bind (impl_Moebius_tells.mono _ _ _ _ _) fun t => LeO.ite (LeO.bind (impl_Moebius_behind.mono _ _ _ _ _ _) fun b => LeO.bind (LeO.refl _) fun o => ih _ _ _ _) ?_) (LeO.refl _)) (LeO.refl _)
    exact LeO.bind (impl_Moebius_with.mono _ _ _ _ _ _) fun b0 => LeO.bind (LeO.refl _) fun o0 => LeO.bind (impl_Moebius_with.mono _ _ _ _ _ _) fun b1 => LeO.bind (LeO.refl _) fun o1 => LeO.bind (impl_Moebius_with.mono _ _ _ _ _ _) fun b2 => LeO.bind (LeO.refl _) fun o2 => ih _ _ _ _
def finM (r : List S89 × Bool) : List S89 × Int := if r.2 = true then ([], 3) else (r.1, 0)
def impl_MoebiusTree.f (k : Nat) (a b c d : Int) : Option (List S89 × Int) := (impl_ValidMoebius.f k a b c d).bind fun v => if v = true then ((impl_Moebius_lies.f k a b c d (-2) 2).bind fun u => if u = true then ((impl_Moebius_reduced.f k a b c d).bind fun r => if wfS (s60 r) = true then ((mtl k [s60 r] [] 0 false).bind fun q => some (finM q)) else none) else some ([], 4)) else some ([], 1)
theorem impl_MoebiusTree.mono : ∀ a0 a1 a2 a3 k, LeO (impl_MoebiusTree.f k a0 a1 a2 a3) (impl_MoebiusTree.f (k + 1) a0 a1 a2 a3) := by
  intro a0 a1 a2 a3 k
  unfold impl_MoebiusTree.f
  exact LeO.bind (impl_ValidMoebius.mono _ _ _ _ _) fun _ => LeO.ite (LeO.bind (impl_Moebius_lies.mono _ _ _ _ _ _ _) fun _ => LeO.ite (LeO.bind (impl_Moebius_reduced.mono _ _ _ _ _) fun _ => LeO.ite (LeO.bind (mtl_mono _ _ _ _ _) fun _ => LeO.refl _) (LeO.refl _)) (LeO.refl _)) (LeO.refl _)
def MtPost (r1 : List S89) (r2 : Int) (w : World) (e : Ending) (w' : World) : Prop := ∃ v0_ : Value, e = .returned (.tuple #[.agg #[v0_], .int .i64 r2]) ∧ Kd.R k89 89 w' w.heap.size (fun _ => True) v0_ r1 ∧ Below w.heap.size w w'
set_option maxHeartbeats 8000000 in
set_option maxRecDepth 100000 in
theorem mt_bad1 (k : Nat) (a b c d : Int) (w : World) (h0 : impl_ValidMoebius.f k a b c d = some false) : Calls Try.prog 42 #[.agg #[.int .i64 a, .int .i64 b, .int .i64 c, .int .i64 d]] w fun e w' => MtPost [] 1 w e w' := by
  have V0 := Aside0.mk h0
  clear h0
  go_enter Try.func42, Try.ntmps42
  go_upto_region 1 with (fail)
  generalize hw1 : World.alloc (World.alloc w _) _ = w1
  have K0 : w1.heap[w.heap.size]? = some (.cells #[.int .i64 a, .int .i64 b, .int .i64 c, .int .i64 d] 60 (0, 0)) := by rw [← hw1]; exact ha_old _ (ha_at _ _ rfl)
  have K2 : w1.heap[w.heap.size + 1]? = some (.cells #[.slice none 0 0] 34 (0, 0)) := by rw [← hw1]; exact ha_at _ _ (by simp)
  have HB : Aside0 (Below w.heap.size w w1) := ⟨by rw [← hw1]; exact below_alloc (below_alloc (Below.refl _ _) _) _⟩
  have G0 := Aside0.mk K0
  have G2 := Aside0.mk K2
  clear hw1 K0 K2
  have k0 := bc4 G0.out
  go_wp2_with (first
      | (go_at_call 85; (with_reducible refine (impl_ValidMoebius.calls k a b c d false _ V0.out).mono ?_); rintro e w7 ⟨rfl, hb⟩
         have B7 := Aside0.mk (HB.out.trans (hb.mono HB.out.size))
         have H0 := Aside0.mk ((hb.block _ (blk_lt_ G0.out)).trans G0.out)
         have H2 := Aside0.mk ((hb.block _ (blk_lt_ G2.out)).trans G2.out)
         have k2 : w7.cell? ⟨w.heap.size + 1, 0, none⟩ = some (.slice none 0 0) := (blk_cell H2.out 0).trans rfl
         have z2 : w7.frozen? ⟨w.heap.size + 1, 0, none⟩ = false := blk_frozen H2.out 0
         clear hb k0)
      | fail)
  exact bodyPost_ret (results_ct rfl _ _ (w.heap.size + 1) 34 #[.slice none 0 0] (0, 0) _ rfl (blk_put H2.out 0 _ rfl) Try.underlying34 rfl (by kernel_rfl)) rfl ⟨.slice none 0 0, rfl, Kd.R_nil _ _ _ _ _, B7.out.setCell (p := ⟨w.heap.size + 1, 0, none⟩) (by show w.heap.size ≤ w.heap.size + 1; omega) _⟩
set_option maxHeartbeats 8000000 in
set_option maxRecDepth 100000 in
theorem mt_bad2 (k : Nat) (a b c d : Int) (w : World) (h0 : impl_ValidMoebius.f k a b c d = some true) (h1 : impl_Moebius_lies.f k a b c d (-2) 2 = some false) : Calls Try.prog 42 #[.agg #[.int .i64 a, .int .i64 b, .int .i64 c, .int .i64 d]] w fun e w' => MtPost [] 4 w e w' := by
  have V0 := Aside0.mk h0
  have V1 := Aside0.mk h1
  clear h0 h1
  go_enter Try.func42, Try.ntmps42
  go_upto_region 1 with (fail)
  generalize hw1 : World.alloc (World.alloc w _) _ = w1
  have K0 : w1.heap[w.heap.size]? = some (.cells #[.int .i64 a, .int .i64 b, .int .i64 c, .int .i64 d] 60 (0, 0)) := by rw [← hw1]; exact ha_old _ (ha_at _ _ rfl)
  have K2 : w1.heap[w.heap.size + 1]? = some (.cells #[.slice none 0 0] 34 (0, 0)) := by rw [← hw1]; exact ha_at _ _ (by simp)
  have HB : Aside0 (Below w.heap.size w w1) := ⟨by rw [← hw1]; exact below_alloc (below_alloc (Below.refl _ _) _) _⟩
  have G0 := Aside0.mk K0
  have G2 := Aside0.mk K2
  clear hw1 K0 K2
  have k0 := bc4 G0.out
  go_wp2_with (first
      | (go_at_call 85; (with_reducible refine (impl_ValidMoebius.calls k a b c d true _ V0.out).mono ?_); rintro e w7 ⟨rfl, hb⟩
         have B7 := Aside0.mk (HB.out.trans (hb.mono HB.out.size))
         have H0 := Aside0.mk ((hb.block _ (blk_lt_ G0.out)).trans G0.out)
         have H2 := Aside0.mk ((hb.block _ (blk_lt_ G2.out)).trans G2.out)
         have j0 := bc4 H0.out
         clear hb k0)
      | (go_at_call 86; (with_reducible refine (impl_Moebius_lies.calls k a b c d (-2) 2 false _ V1.out).mono ?_); rintro e w8 ⟨rfl, hb⟩
         have B8 := Aside0.mk (B7.out.trans (hb.mono B7.out.size))
         have I0 := Aside0.mk ((hb.block _ (blk_lt_ H0.out)).trans H0.out)
         have I2 := Aside0.mk ((hb.block _ (blk_lt_ H2.out)).trans H2.out)
         have k2 : w8.cell? ⟨w.heap.size + 1, 0, none⟩ = some (.slice none 0 0) := (blk_cell I2.out 0).trans rfl
         have z2 : w8.frozen? ⟨w.heap.size + 1, 0, none⟩ = false := blk_frozen I2.out 0
         clear hb j0)
      | fail)
  exact bodyPost_ret (results_ct rfl _ _ (w.heap.size + 1) 34 #[.slice none 0 0] (0, 0) _ rfl (blk_put I2.out 0 _ rfl) Try.underlying34 rfl (by kernel_rfl)) rfl ⟨.slice none 0 0, rfl, Kd.R_nil _ _ _ _ _, B8.out.setCell (p := ⟨w.heap.size + 1, 0, none⟩) (by show w.heap.size ≤ w.heap.size + 1; omega) _⟩
end Go.Proofs.Ytpfnohdnaocpdaa.PT

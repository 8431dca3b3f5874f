/- Frames by the types of blocks. -/
import Derived.Test.YtpfnohdnaocpdaaRP
namespace Go.Proofs.Ytpfnohdnaocpdaa.PT
open Go.RowKit Go.Proofs.YtpfnohdnaocpdaaW.PrintWords Go.Proofs.YtpfnohdnaocpdaaW.PrintLast Go.Proofs.YtpfnohdnaocpdaaW.PrintMore Go.Lib Go.Proofs.YtpfnohdnaocpdaaRP
set_option linter.unusedVariables false
set_option linter.unusedSimpArgs false
/-- Blocks of cells whose type is not in T are as they were. -/
def Ks (T : List Nat) (w w1 : World) : Prop := w.heap.size ≤ w1.heap.size ∧ ∀ (k : Nat) (c : Array Value) (q : Nat) (fz : Nat × Nat), w.heap[k]? = some (.cells c q fz) → q ∉ T → w1.heap[k]? = some (.cells c q fz)
theorem Ks.refl (T : List Nat) (w : World) : Ks T w w := ⟨Nat.le_refl _, fun _ _ _ _ h _ => h⟩
theorem Ks.trans {T : List Nat} {w w1 w2 : World} (h : Ks T w w1) (h' : Ks T w1 w2) : Ks T w w2 := ⟨Nat.le_trans h.1 h'.1, fun k c q fz hk hq => h'.2 k c q fz (h.2 k c q fz hk hq) hq⟩
theorem Ks.mono {T T' : List Nat} {w w1 : World} (h : Ks T w w1) (hT : ∀ q, q ∈ T → q ∈ T') : Ks T' w w1 := ⟨h.1, fun k c q fz hk hq => h.2 k c q fz hk (fun e => hq (hT q e))⟩
theorem blk_lt_ {w : World} {k : Nat} {o : Obj} (h : w.heap[k]? = some o) : k < w.heap.size := (Array.getElem?_eq_some_iff.1 h).1
theorem Ks.below {T : List Nat} {w w1 : World} (h : Below w.heap.size w w1) : Ks T w w1 := ⟨h.size, fun k c q fz hk _ => (h.block k (blk_lt_ hk)).trans hk⟩
/-- One block has been written: a map, or cells of a type in T. -/
theorem Ks.grown {T : List Nat} {w w1 : World} {row : Option Nat} (hg : w.grownBy w1 row) (hr : ∀ k c q fz, row = some k → w.heap[k]? = some (.cells c q fz) → q ∈ T) : Ks T w w1 :=
  ⟨hg.size, fun k c q fz hk hq => (hg.block k (blk_lt_ hk) (fun e => hq (hr k c q fz e.symm hk))).trans hk⟩
theorem grown_set (w : World) (p : Addr) (u : Value) : w.grownBy (w.setCell p u) (some p.block) := ⟨rfl, rfl, rfl, by simp [World.setCell], fun k _ hne => Below.heap_setCell _ _ _ _ (fun e => hne (by rw [e]))⟩
theorem R_Ks {α : Type} {d : Kd α} {e base : Nat} {ok : Nat → Prop} {w w1 : World} {v : Value} {xs : List α} {T : List Nat} (h : d.R e w base ok v xs) (hk : Ks T w w1) (ht : ∀ q, q ∈ e :: d.E → q ∉ T) : d.R e w1 base ok v xs :=
  Kd.R_mono (Kd.R_move (Kd.R_bound h) (fun k hk' => by
    obtain ⟨_, _, _, q, hq, cells, hc⟩ := hk'
    rw [hc]
    exact hk.2 k cells q _ hc (ht q hq))) (fun _ hk => hk.1)

end Go.Proofs.Ytpfnohdnaocpdaa.PT

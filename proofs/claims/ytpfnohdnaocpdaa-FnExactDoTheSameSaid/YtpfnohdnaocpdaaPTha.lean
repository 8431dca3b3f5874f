/- Blocks behind an alloc, cells behind a store elsewhere. -/
import Derived.Test.YtpfnohdnaocpdaaRP
namespace Go.Proofs.Ytpfnohdnaocpdaa.PT
open Go.RowKit Go.Proofs.YtpfnohdnaocpdaaW.PrintWords Go.Proofs.YtpfnohdnaocpdaaW.PrintLast Go.Proofs.YtpfnohdnaocpdaaW.PrintMore Go.Lib Go.Proofs.YtpfnohdnaocpdaaRP
theorem ha_at (w : World) (o : Obj) {n : Nat} (h : n = w.heap.size) : (w.alloc o).heap[n]? = some o := by
  subst h
  show (w.heap.push o)[w.heap.size]? = _
  simp
theorem ha_old {w : World} (o : Obj) {n : Nat} {x : Obj} (h : w.heap[n]? = some x) : (w.alloc o).heap[n]? = some x := (Below.heap_alloc w o n (Array.getElem?_eq_some_iff.1 h).1).trans h
theorem keep_alloc {w : World} (o : Obj) {p : Addr} {v : Value} (h : w.cell? p = some v) : (w.alloc o).cell? p = some v := cel (below_alloc (Below.refl _ _) o) h
theorem keep_set {w : World} {p q : Addr} {u v : Value} (h : w.cell? p = some v) (hne : p.block ≠ q.block) : (w.setCell q u).cell? p = some v := (World.cell?_of_block (Below.heap_setCell w q u p.block hne)).trans h
theorem keep_drew {w : World} {p : Addr} {v : Value} (h : w.cell? p = some v) : w.drew.cell? p = some v := h
theorem hs_ne {w : World} {n : Nat} {x : Obj} {p : Addr} (u : Value) (h : w.heap[n]? = some x) (hne : n ≠ p.block) : (w.setCell p u).heap[n]? = some x := (Below.heap_setCell w p u n hne).trans h
end Go.Proofs.Ytpfnohdnaocpdaa.PT

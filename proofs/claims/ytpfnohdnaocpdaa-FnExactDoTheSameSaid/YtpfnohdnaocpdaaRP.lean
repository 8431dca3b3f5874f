/- Words of our own for pointers that are only read: an element's address, or a variable's, as a row of one element; the greatest of eight numbers. -/
import Derived.Test.YtpfnohdnaocpdaaWWords
import Derived.Test.YtpfnohdnaocpdaaWMore
namespace Go.Proofs.YtpfnohdnaocpdaaRP
open Go.RowKit Go.Proofs.YtpfnohdnaocpdaaW.PrintWords Go.Proofs.YtpfnohdnaocpdaaW.PrintLast Go.Proofs.YtpfnohdnaocpdaaW.PrintMore
set_option linter.unusedVariables false
set_option linter.unusedSimpArgs false
theorem isE_ (l : List UInt8) : (l != []) = !l.isEmpty := by cases l <;> rfl
theorem sA_ {α : Type} (l : List α) (i : Nat) (a : α) : l.toArray.setIfInBounds i a = (l.set i a).toArray := List.setIfInBounds_toArray l i a
theorem sB_ {α : Type} (x a : α) (l : List α) : (x :: l).set 0 a = a :: l := List.set_cons_zero
theorem sC_ {α : Type} (x : α) (l : List α) (n : Nat) (a : α) : (x :: l).set (n + 1) a = x :: l.set n a := List.set_cons_succ
theorem tmod_len (n : Nat) (y : Int) : Int.tmod (n : Int) y = (n : Int) % y := Int.tmod_eq_emod_of_nonneg (Int.natCast_nonneg n)
theorem max_eight (ats : Array TypeId) (ty : TypeId) (a b c d e f g h : Value) : Builtin.max_ ats ty #[a, b, c, d, e, f, g, h] = (Builtin.max2 a b >>= fun s => Builtin.max2 s c >>= fun s => Builtin.max2 s d >>= fun s => Builtin.max2 s e >>= fun s => Builtin.max2 s f >>= fun s => Builtin.max2 s g >>= fun s => Builtin.max2 s h >>= fun s => pure s) := by simp only [Builtin.max_, List.foldlM_cons, List.foldlM_nil]
theorem Kd.C_el {α : Type} (d : Kd α) (z : α) {W : World} {ad : Addr} {xs : List α} (h : Kd.C d W (some ad) xs.length xs) (i : Int) (h0 : 0 ≤ i) (h1 : i < (xs.length : Int)) :
    Kd.C d W (some (ad.add (i.toNat * d.sz))) [xs.getD i.toNat z].length [xs.getD i.toNat z] := by
  obtain ⟨ad', c, e, hl, hK, hc⟩ := ReadsRow.get_ h z i h0 h1
  injection e with e
  subst e
  refine ⟨rfl, by simp, fun _ => ⟨_, rfl, fun j p hj => ?_⟩⟩
  cases j with
  | zero =>
    obtain rfl : xs.getD i.toNat z = p := by simpa using hj
    refine ⟨c, hl, hK, fun k u hu => ?_⟩
    rw [Nat.zero_mul, Nat.zero_add]
    have h2 := hc k u hu
    have e2 : (ad.add (i.toNat * d.sz)).add k = ad.add (i.toNat * d.sz + k) := by
      rcases Nat.eq_zero_or_pos k with rfl | hk
      · simp [Addr.add]
      · rw [add_field _ _ _ hk]
        simp [Addr.add, Nat.ne_of_gt hk]
    rw [e2]
    exact h2
  | succ j => simp at hj
theorem Kd.C_block {α : Type} (d : Kd α) {W : World} {g T : Nat} {cs : Array Value} {fz : Nat × Nat} {x : α} (hb : W.heap[g]? = some (.cells cs T fz)) (hK : Kd.K d W x cs.toList) (hs : 0 < d.sz) :
    Kd.C d W (some ⟨g, 0, none⟩) [x].length [x] := by
  refine ⟨rfl, by simp, fun _ => ⟨_, rfl, fun j p hj => ?_⟩⟩
  cases j with
  | zero =>
    obtain rfl : x = p := by simpa using hj
    refine ⟨cs.toList, d.K_len hK, hK, fun k u hu => ?_⟩
    rw [Nat.zero_mul, Nat.zero_add]
    have e2 : (⟨g, 0, none⟩ : Addr).add k = ⟨g, k, none⟩ := by
      rcases Nat.eq_zero_or_pos k with rfl | hk
      · simp [Addr.add]
      · simp [Addr.add, Nat.ne_of_gt hk]
    rw [e2]
    unfold World.cell?
    simp only [hb]
    simpa using hu
  | succ j => simp at hj
section
variable {P : Program} {ops : Array Oper} {rest : List Oper} {o : Oper} {a : Act} {Q' : Exit → Act → World → Prop} {α : Type}
end
def up (j : Int) (i v a : Int) : Int := if i = j then v else a
section
variable {W : World} {b o : Nat} {k : IntKind}
theorem cell_arr3 {x0 x1 x2 : Int} (h0 : W.cell? ⟨b, o, none⟩ = some (.int k x0)) (h1 : W.cell? ⟨b, o + 1, none⟩ = some (.int k x1)) (h2 : W.cell? ⟨b, o + 2, none⟩ = some (.int k x2)) (i : Int) (p : 0 ≤ i) (q : i < 3) : W.cell? ⟨b, o + i.toNat, none⟩ = some (.int k (rd [x0, x1, x2] i)) := by
  rcases (show i = 0 ∨ i = 1 ∨ i = 2 by omega) with rfl | rfl | rfl <;> assumption
theorem blk_arr {g : Nat} {T : TypeId} {cs : Array Value} {xs : List Int} (hb : W.heap[g]? = some (.cells cs T (0, 0))) (o : Nat) (h : (cs.toList.drop o).take xs.length = xs.map (Value.int k)) (i : Int) (p : 0 ≤ i) {n : Nat} (q : i < (n : Int)) (hn : xs.length = n := by rfl) : W.cell? ⟨g, o + i.toNat, none⟩ = some (.int k (rd xs i)) := by
  have hi : i.toNat < xs.length := by omega
  rw [blk_cell hb]
  have h1 := congrArg (fun l => l[i.toNat]?) h
  simp only [List.getElem?_take, hi, if_true, List.getElem?_drop, List.getElem?_map] at h1
  rw [← Array.getElem?_toList, h1, List.getElem?_eq_getElem hi]
  simp [rd, List.getD, hi]
end
theorem A_ {p : Prop} (h : p) : Aside0 p := ⟨h⟩
theorem cel {w w1 : World} {p : Addr} {v : Value} (hb : Below w.heap.size w w1) (h : w.cell? p = some v) : w1.cell? p = some v := (hb.cell (World.block_lt_of_cell? w _ h)).trans h
theorem bc2 {w : World} {g : Nat} {t : TypeId} {a0 a1 : Value} (h : w.heap[g]? = some (.cells #[a0, a1] t (0, 0))) : w.cell? ⟨g, 0, none⟩ = some a0 ∧ w.cell? ⟨g, 1, none⟩ = some a1 :=
  ⟨(blk_cell h 0).trans rfl, (blk_cell h 1).trans rfl⟩
theorem bf2 {w : World} {g : Nat} {t : TypeId} {a0 a1 : Value} (h : w.heap[g]? = some (.cells #[a0, a1] t (0, 0))) : w.frozen? ⟨g, 0, none⟩ = false ∧ w.frozen? ⟨g, 1, none⟩ = false :=
  ⟨blk_frozen h 0, blk_frozen h 1⟩
theorem bc3 {w : World} {g : Nat} {t : TypeId} {a0 a1 a2 : Value} (h : w.heap[g]? = some (.cells #[a0, a1, a2] t (0, 0))) : w.cell? ⟨g, 0, none⟩ = some a0 ∧ w.cell? ⟨g, 1, none⟩ = some a1 ∧ w.cell? ⟨g, 2, none⟩ = some a2 :=
  ⟨(blk_cell h 0).trans rfl, (blk_cell h 1).trans rfl, (blk_cell h 2).trans rfl⟩
theorem bf3 {w : World} {g : Nat} {t : TypeId} {a0 a1 a2 : Value} (h : w.heap[g]? = some (.cells #[a0, a1, a2] t (0, 0))) : w.frozen? ⟨g, 0, none⟩ = false ∧ w.frozen? ⟨g, 1, none⟩ = false ∧ w.frozen? ⟨g, 2, none⟩ = false :=
  ⟨blk_frozen h 0, blk_frozen h 1, blk_frozen h 2⟩
theorem bc5 {w : World} {g : Nat} {t : TypeId} {a0 a1 a2 a3 a4 : Value} (h : w.heap[g]? = some (.cells #[a0, a1, a2, a3, a4] t (0, 0))) : w.cell? ⟨g, 0, none⟩ = some a0 ∧ w.cell? ⟨g, 1, none⟩ = some a1 ∧ w.cell? ⟨g, 2, none⟩ = some a2 ∧ w.cell? ⟨g, 3, none⟩ = some a3 ∧ w.cell? ⟨g, 4, none⟩ = some a4 :=
  ⟨(blk_cell h 0).trans rfl, (blk_cell h 1).trans rfl, (blk_cell h 2).trans rfl, (blk_cell h 3).trans rfl, (blk_cell h 4).trans rfl⟩
theorem bf5 {w : World} {g : Nat} {t : TypeId} {a0 a1 a2 a3 a4 : Value} (h : w.heap[g]? = some (.cells #[a0, a1, a2, a3, a4] t (0, 0))) : w.frozen? ⟨g, 0, none⟩ = false ∧ w.frozen? ⟨g, 1, none⟩ = false ∧ w.frozen? ⟨g, 2, none⟩ = false ∧ w.frozen? ⟨g, 3, none⟩ = false ∧ w.frozen? ⟨g, 4, none⟩ = false :=
  ⟨blk_frozen h 0, blk_frozen h 1, blk_frozen h 2, blk_frozen h 3, blk_frozen h 4⟩
theorem kc_ {P : Prop} (h : P := by repeat (first | exact hx_ | (with_reducible refine Kd.C_alloc ?_ _) | (with_reducible refine Kd.C_drewN ?_ _) | (with_reducible refine Kd.C_drew ?_))) : P := h
end Go.Proofs.YtpfnohdnaocpdaaRP

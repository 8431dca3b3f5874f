/- Words of our own for pointers that are only read: an element's address, or a variable's, as a row of one element; the greatest of eight numbers. -/
import Derived.Test.YtififhihgkbafaaWWords
import Derived.Test.YtififhihgkbafaaWMore
namespace Go.Proofs.YtififhihgkbafaaRP
open Go.RowKit Go.Proofs.YtififhihgkbafaaW.PrintWords Go.Proofs.YtififhihgkbafaaW.PrintLast Go.Proofs.YtififhihgkbafaaW.PrintMore
set_option linter.unusedVariables false
set_option linter.unusedSimpArgs false
theorem isE_ (l : List UInt8) : (l != []) = !l.isEmpty := by cases l <;> rfl
theorem sA_ {α : Type} (l : List α) (i : Nat) (a : α) : l.toArray.setIfInBounds i a = (l.set i a).toArray := List.setIfInBounds_toArray l i a
theorem sB_ {α : Type} (x a : α) (l : List α) : (x :: l).set 0 a = a :: l := List.set_cons_zero
theorem sC_ {α : Type} (x : α) (l : List α) (n : Nat) (a : α) : (x :: l).set (n + 1) a = x :: l.set n a := List.set_cons_succ
theorem max_eight (ats : Array TypeId) (ty : TypeId) (a b c d e f g h : Value) : Builtin.max_ ats ty #[a, b, c, d, e, f, g, h] = (Builtin.max2 a b >>= fun s => Builtin.max2 s c >>= fun s => Builtin.max2 s d >>= fun s => Builtin.max2 s e >>= fun s => Builtin.max2 s f >>= fun s => Builtin.max2 s g >>= fun s => Builtin.max2 s h >>= fun s => pure s) := by simp only [Builtin.max_, List.foldlM_cons, List.foldlM_nil]
theorem Kd.C_block {α : Type} (d : Kd α) {W : World} {g T : Nat} {cs : Array Value} {fz : Nat × Nat} {x : α} (hb : W.heap[g]? = some (.cells cs T fz)) (hK : Kd.K d W x cs.toList) (hs : 0 < d.sz) :
    Kd.C d W (some ⟨g, 0, none⟩) [x].length [x] := by
  refine ⟨rfl, by simp, fun _ => ⟨_, rfl, fun j p hj => ?_⟩⟩
  cases j with
  | zero =>
    obtain rfl : x = p := by simpa using hj
    refine ⟨cs.toList, d.K_len hK, hK, fun k u hu => ?_⟩
    rw [Nat.zero_mul, Nat.zero_add]
    have e2 : (⟨g, 0, none⟩ : Addr).add k = ⟨g, k, none⟩ := by
      rcases Nat.eq_zero_or_pos k with rfl | hk
      · simp [Addr.add]
      · simp [Addr.add, Nat.ne_of_gt hk]
    rw [e2]
    unfold World.cell?
    simp only [hb]
    simpa using hu
  | succ j => simp at hj
/-! append(q, ys...), q a row of one's own that may begin inside its block (Kd.Q), ys a row that is read -/
section
variable {P : Program} {ops : Array Oper} {rest : List Oper} {o : Oper} {a : Act} {Q' : Exit → Act → World → Prop} {α : Type}
end
end Go.Proofs.YtififhihgkbafaaRP

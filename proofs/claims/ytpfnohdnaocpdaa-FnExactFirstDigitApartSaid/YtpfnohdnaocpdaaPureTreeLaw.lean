/- What the laws about trees do beside the functions they ask: sizes, copies, equalities, marks of streams and of trees. Plain Lean over the printed functions. -/
import Derived.Test.YtpfnohdnaocpdaaPTx1
import Derived.Test.YtpfnohdnaocpdaaPTx2
import Derived.Test.YtpfnohdnaocpdaaPureStream
namespace Go.Proofs.Ytpfnohdnaocpdaa.Pure
open Go.RowKit Go.Proofs.Ytpfnohdnaocpdaa.PT Go.Proofs.YtpfnohdnaocpdaaW.PrintWords Go.Proofs.YtpfnohdnaocpdaaW.PrintLast Go.Proofs.YtpfnohdnaocpdaaW.PrintMore Go.Proofs.YtpfnohdnaocpdaaRP
set_option linter.unusedVariables false
set_option linter.unusedSimpArgs false

theorem sz8_some (a : List Int) (c : Int) : ∃ r, laws_szInt8S.f a c = some r := by
  unfold laws_szInt8S.f
  split <;> exact ⟨_, rfl⟩
theorem sz_some (a b : List Int) (c : Int) : ∃ r, laws_szStream.f a b c = some r := by
  obtain ⟨t, ht⟩ := sz8_some a c
  obtain ⟨u, hu⟩ := sz8_some b t
  unfold laws_szStream.f
  rw [ht]
  simp only [Option.bind_some, hu]
  (repeat' split) <;> exact ⟨_, rfl⟩
theorem toInt8S_loop (l : List Int) (hn : l.length ≤ 140737488355327) (d : Nat) : ∀ (i : Nat) (y : List Int), i + d = l.length → y.length = l.length → y.take i = l.take i → Ev (fun k => laws_toInt8S.l0 k l y (i : Int)) l := by
  induction d with
  | zero =>
    intro i y hi hy ht
    refine Ev.step (fun k => rfl) (Ev.neg (by omega) ?_)
    rw [List.take_of_length_le (by omega), List.take_of_length_le (by omega)] at ht
    rw [ht]
    exact Ev.now _
  | succ d ih =>
    intro i y hi hy ht
    have hlt : i < l.length := by omega
    refine Ev.step (fun k => rfl) (Ev.pos (by omega) (Ev.pos (by omega) (Ev.pos (by omega) ?_)))
    rw [wnext i (by omega), show ((i : Int)).toNat = i from by omega]
    refine ih (i + 1) _ (by omega) (by simpa using hy) ?_
    rw [List.take_succ_eq_append_getElem (by simpa using by omega), List.take_succ_eq_append_getElem hlt, List.getElem_set_self, List.take_set_of_le (Nat.le_refl _), ht]
    congr 2
    simp [rd, List.getD, hlt]
theorem toInt8S_ev (l : List Int) (hn : l.length ≤ 140737488355327) : Ev (fun k => laws_toInt8S.f k l) l := by
  unfold laws_toInt8S.f
  refine Ev.pos (by omega) (Ev.pos (by omega) ?_)
  exact toInt8S_loop l hn l.length 0 _ (by omega) (by simp) (by simp)
theorem toStream_ev (h l : List Int) (hh : h.length ≤ 140737488355327) (hl : l.length ≤ 140737488355327) : Ev (fun k => laws_toStream.f k h l) (h, l) := by
  unfold laws_toStream.f
  exact Ev.bind (toInt8S_ev h hh) (Ev.bind (toInt8S_ev l hl) (Ev.now _))
theorem eqInt8S_loop (a : List Int) (hn : a.length ≤ 140737488355327) (d : Nat) : ∀ (i : Nat), i + d = a.length → Ev (fun k => laws_eqInt8S.l0 k a a (i : Int)) true := by
  induction d with
  | zero => intro i hi; exact Ev.step (fun k => rfl) (Ev.neg (by omega) (Ev.now _))
  | succ d ih =>
    intro i hi
    refine Ev.step (fun k => rfl) (Ev.pos (by omega) (Ev.pos (by omega) (Ev.pos (by omega) (Ev.pos rfl ?_))))
    rw [wnext i (by omega)]
    exact ih (i + 1) (by omega)
theorem eqInt8S_ev (a : List Int) (hn : a.length ≤ 140737488355327) : Ev (fun k => laws_eqInt8S.f k a a) true := by
  unfold laws_eqInt8S.f
  exact Ev.pos rfl (eqInt8S_loop a hn a.length 0 (by omega))
theorem eqStream_ev (h l : List Int) (hh : h.length ≤ 140737488355327) (hl : l.length ≤ 140737488355327) : Ev (fun k => laws_eqStream.f k h l h l) true := by
  unfold laws_eqStream.f
  exact Ev.bind (eqInt8S_ev h hh) (Ev.pos rfl (Ev.bind (eqInt8S_ev l hl) (Ev.pos rfl (Ev.now _))))
theorem set_mid {α : Type} (d : List α) (x y : α) (r : List α) : (d ++ x :: r).set ((d.length : Int)).toNat y = d ++ y :: r := by
  rw [show ((d.length : Int)).toNat = d.length from by omega]
  simp
theorem rd_mid (d : List Int) (x : Int) (r : List Int) : rd (d ++ x :: r) (d.length : Int) = x := by
  simp [rd, List.getD]
/-! ### trees -/
theorem szTree_some (l : List S158) (c : Int) : ∃ r, laws_szTree.f l c = some r := by
  unfold laws_szTree.f laws_szForkS.f
  repeat' split
  all_goals simp only [Option.bind_some]
  all_goals repeat' split
  all_goals exact ⟨_, rfl⟩
def convF (x : S158) : S89 := ⟨x.f0, x.f1, x.f2⟩
theorem wsmall {i : Int} (h0 : 0 ≤ i) (h : i ≤ 100) : wrap64 (i + 1) = i + 1 := by unfold wrap64; omega
theorem toA3_ev (a b c : Int) : Ev (fun k => laws_toInt16A3.f k a b c) (a, b, c) := by
  unfold laws_toInt16A3.f
  have e0 : wrap64 ((0 : Int) + 1) = 1 := by unfold wrap64; omega
  have e1 : wrap64 ((1 : Int) + 1) = 2 := by unfold wrap64; omega
  have e2 : wrap64 ((2 : Int) + 1) = 3 := by unfold wrap64; omega
  refine Ev.step (fun k => rfl) ?_
  refine Ev.pos (by decide) (Ev.pos (by decide) ?_)
  rw [e0]
  refine Ev.step (fun k => rfl) ?_
  refine Ev.pos (by decide) (Ev.pos (by decide) ?_)
  rw [e1]
  refine Ev.step (fun k => rfl) ?_
  refine Ev.pos (by decide) (Ev.pos (by decide) ?_)
  rw [e2]
  refine Ev.step (fun k => rfl) ?_
  refine Ev.neg (by decide) (Ev.to (Ev.now _) ?_)
  rfl
theorem rd89_mid (d : List S89) (x : S89) (r : List S89) : rd_T89 (d ++ x :: r) (d.length : Int) = x := by
  simp [rd_T89, List.getD]
theorem rd158_mid (d : List S158) (x : S158) (r : List S158) : rd_T158 (d ++ x :: r) (d.length : Int) = x := by
  simp [rd_T158, List.getD]
theorem toForkS_loop (r : List S158) : ∀ (d : List S158) (y : List S89), d.length + r.length ≤ 140737488355327 → y.length = r.length → Ev (fun k => laws_toForkS.l0 k (d ++ r) (d.map convF ++ y) (d.length : Int)) ((d ++ r).map convF) := by
  induction r with
  | nil =>
    intro d y h hy
    obtain rfl := List.eq_nil_of_length_eq_zero hy
    refine Ev.step (fun k => rfl) ?_
    simp only [laws_toForkS.l0]
    exact Ev.neg (by simp) (Ev.to (Ev.now _) (by simp))
  | cons x r ih =>
    intro d y h hy
    match y, hy with
    | y0 :: y, hy =>
      simp only [List.length_cons] at h hy
      refine Ev.step (fun k => rfl) ?_
      simp only [laws_toForkS.l0]
      refine Ev.pos (by simp; omega) (Ev.pos (by omega) ?_)
      rw [rd158_mid]
      refine Ev.bind (Ev.bind (toA3_ev _ _ _) (Ev.now _)) (Ev.pos (by simp; omega) ?_)
      rw [wnext d.length (by omega)]
      have hq := ih (d ++ [x]) y (by simp; omega) (by omega)
      have hs : (d.map convF ++ y0 :: y).set ((d.length : Int)).toNat (convF x) = (d ++ [x]).map convF ++ y := by
        have := set_mid (d.map convF) y0 (convF x) y
        rw [List.length_map] at this
        rw [this]; simp
      rw [List.append_assoc] at hq
      simp only [List.length_append, List.length_cons, List.length_nil, List.cons_append, List.nil_append, Nat.zero_add] at hq
      exact Ev.congr (fun k => by rw [← hs]; rfl) hq
theorem toTree_ev (l : List S158) (h : l.length ≤ 35184372088832) : Ev (fun k => laws_toTree.f k l) (l.map convF) := by
  unfold laws_toTree.f laws_toForkS.f
  refine Ev.bind (Ev.pos (by omega) (Ev.pos (by omega) ?_)) (Ev.now _)
  have := toForkS_loop l [] (List.replicate l.length z89) (by simp; omega) (by simp)
  simpa using this
theorem eqA3_ev (a b c : Int) : Ev (fun k => laws_eqInt16A3.f k a b c a b c) true := by
  unfold laws_eqInt16A3.f
  have e0 : wrap64 ((0 : Int) + 1) = 1 := by unfold wrap64; omega
  have e1 : wrap64 ((1 : Int) + 1) = 2 := by unfold wrap64; omega
  have e2 : wrap64 ((2 : Int) + 1) = 3 := by unfold wrap64; omega
  refine Ev.step (fun k => rfl) ?_
  refine Ev.pos (by decide) (Ev.pos (by decide) (Ev.pos rfl ?_))
  rw [e0]
  refine Ev.step (fun k => rfl) ?_
  refine Ev.pos (by decide) (Ev.pos (by decide) (Ev.pos rfl ?_))
  rw [e1]
  refine Ev.step (fun k => rfl) ?_
  refine Ev.pos (by decide) (Ev.pos (by decide) (Ev.pos rfl ?_))
  rw [e2]
  refine Ev.step (fun k => rfl) ?_
  exact Ev.neg (by decide) (Ev.now _)
theorem eqFork_ev (x : S89) : Ev (fun k => laws_eqFork.f k x.f0 x.f1 x.f2.f0 x.f2.f1 x.f2.f2 x.f0 x.f1 x.f2.f0 x.f2.f1 x.f2.f2) true := by
  unfold laws_eqFork.f
  exact Ev.pos rfl (Ev.pos rfl (Ev.bind (eqA3_ev _ _ _) (Ev.pos rfl (Ev.now _))))
theorem eqForkS_loop (a : List S89) (hn : a.length ≤ 140737488355327) (d : Nat) : ∀ (i : Nat), i + d = a.length → Ev (fun k => laws_eqForkS.l0 k a a (i : Int)) true := by
  induction d with
  | zero =>
    intro i hi
    refine Ev.step (fun k => rfl) ?_
    simp only [laws_eqForkS.l0]
    exact Ev.neg (by omega) (Ev.now _)
  | succ d ih =>
    intro i hi
    refine Ev.step (fun k => rfl) ?_
    simp only [laws_eqForkS.l0]
    refine Ev.pos (by omega) (Ev.pos (by omega) (Ev.pos (by omega) (Ev.bind (eqFork_ev _) (Ev.pos rfl ?_))))
    rw [wnext i (by omega)]
    exact ih (i + 1) (by omega)
theorem eqTree_ev (a : List S89) (hn : a.length ≤ 140737488355327) : Ev (fun k => laws_eqTree.f k a a) true := by
  unfold laws_eqTree.f laws_eqForkS.f
  exact Ev.bind (Ev.pos rfl (eqForkS_loop a hn a.length 0 (by omega))) (Ev.pos rfl (Ev.now _))
end Go.Proofs.Ytpfnohdnaocpdaa.Pure

/- What the laws about trees do beside the functions they ask: sizes, copies, equalities, marks of streams and of trees. Plain Lean over the printed functions. -/
import Derived.Test.YtpfnohdnaocpdaaPTx1
import Derived.Test.YtpfnohdnaocpdaaPTx3
import Derived.Test.YtpfnohdnaocpdaaPTx6
import Derived.Test.YtpfnohdnaocpdaaPTx7
import Derived.Test.YtpfnohdnaocpdaaPureStream
namespace Go.Proofs.Ytpfnohdnaocpdaa.Pure
open Go.RowKit Go.Proofs.Ytpfnohdnaocpdaa.PT Go.Proofs.YtpfnohdnaocpdaaW.PrintWords Go.Proofs.YtpfnohdnaocpdaaW.PrintLast Go.Proofs.YtpfnohdnaocpdaaW.PrintMore Go.Proofs.YtpfnohdnaocpdaaRP
set_option linter.unusedVariables false
set_option linter.unusedSimpArgs false

theorem sz8_some (a : List Int) (c : Int) : ∃ r, laws_szInt8S.f a c = some r := by
  unfold laws_szInt8S.f
  split <;> exact ⟨_, rfl⟩
theorem sz_some (a b : List Int) (c : Int) : ∃ r, laws_szStream.f a b c = some r := by
  obtain ⟨t, ht⟩ := sz8_some a c
  obtain ⟨u, hu⟩ := sz8_some b t
  unfold laws_szStream.f
  rw [ht]
  simp only [Option.bind_some, hu]
  (repeat' split) <;> exact ⟨_, rfl⟩
theorem toInt8S_loop (l : List Int) (hn : l.length ≤ 140737488355327) (d : Nat) : ∀ (i : Nat) (y : List Int), i + d = l.length → y.length = l.length → y.take i = l.take i → Ev (fun k => laws_toInt8S.l0 k l y (i : Int)) l := by
  induction d with
  | zero =>
    intro i y hi hy ht
    refine Ev.step (fun k => rfl) (Ev.neg (by omega) ?_)
    rw [List.take_of_length_le (by omega), List.take_of_length_le (by omega)] at ht
    rw [ht]
    exact Ev.now _
  | succ d ih =>
    intro i y hi hy ht
    have hlt : i < l.length := by omega
    refine Ev.step (fun k => rfl) (Ev.pos (by omega) (Ev.pos (by omega) (Ev.pos (by omega) ?_)))
    rw [wnext i (by omega), show ((i : Int)).toNat = i from by omega]
    refine ih (i + 1) _ (by omega) (by simpa using hy) ?_
    rw [List.take_succ_eq_append_getElem (by simpa using by omega), List.take_succ_eq_append_getElem hlt, List.getElem_set_self, List.take_set_of_le (Nat.le_refl _), ht]
    congr 2
    simp [rd, List.getD, hlt]
theorem toInt8S_ev (l : List Int) (hn : l.length ≤ 140737488355327) : Ev (fun k => laws_toInt8S.f k l) l := by
  unfold laws_toInt8S.f
  refine Ev.pos (by omega) (Ev.pos (by omega) ?_)
  exact toInt8S_loop l hn l.length 0 _ (by omega) (by simp) (by simp)
theorem toStream_ev (h l : List Int) (hh : h.length ≤ 140737488355327) (hl : l.length ≤ 140737488355327) : Ev (fun k => laws_toStream.f k h l) (h, l) := by
  unfold laws_toStream.f
  exact Ev.bind (toInt8S_ev h hh) (Ev.bind (toInt8S_ev l hl) (Ev.now _))
theorem eqInt8S_loop (a : List Int) (hn : a.length ≤ 140737488355327) (d : Nat) : ∀ (i : Nat), i + d = a.length → Ev (fun k => laws_eqInt8S.l0 k a a (i : Int)) true := by
  induction d with
  | zero => intro i hi; exact Ev.step (fun k => rfl) (Ev.neg (by omega) (Ev.now _))
  | succ d ih =>
    intro i hi
    refine Ev.step (fun k => rfl) (Ev.pos (by omega) (Ev.pos (by omega) (Ev.pos (by omega) (Ev.pos rfl ?_))))
    rw [wnext i (by omega)]
    exact ih (i + 1) (by omega)
theorem eqInt8S_ev (a : List Int) (hn : a.length ≤ 140737488355327) : Ev (fun k => laws_eqInt8S.f k a a) true := by
  unfold laws_eqInt8S.f
  exact Ev.pos rfl (eqInt8S_loop a hn a.length 0 (by omega))
theorem eqStream_ev (h l : List Int) (hh : h.length ≤ 140737488355327) (hl : l.length ≤ 140737488355327) : Ev (fun k => laws_eqStream.f k h l h l) true := by
  unfold laws_eqStream.f
  exact Ev.bind (eqInt8S_ev h hh) (Ev.pos rfl (Ev.bind (eqInt8S_ev l hl) (Ev.pos rfl (Ev.now _))))
theorem set_mid {α : Type} (d : List α) (x y : α) (r : List α) : (d ++ x :: r).set ((d.length : Int)).toNat y = d ++ y :: r := by
  rw [show ((d.length : Int)).toNat = d.length from by omega]
  simp
theorem rd_mid (d : List Int) (x : Int) (r : List Int) : rd (d ++ x :: r) (d.length : Int) = x := by
  simp [rd, List.getD]
def mks8 : Nat → Int → List Int
  | 0, _ => []
  | n + 1, a => IntKind.i8.wrap a :: mks8 n (a + 1)
theorem markInt8S_loop (r : List Int) : ∀ (d : List Int) (a : Int), d.length + r.length ≤ 140737488355327 → 0 ≤ a → a + r.length ≤ 9223372036854775807 → Ev (fun k => laws_markInt8S.l0 k (d ++ r) a (d.length : Int)) (a + r.length, d ++ mks8 r.length a) := by
  induction r with
  | nil =>
    intro d a h h0 h1
    refine Ev.step (fun k => rfl) (Ev.neg (by simp) ?_)
    simp only [List.length_nil, mks8]
    rw [show a + ((0 : Nat) : Int) = a from by omega]
    exact Ev.now _
  | cons x r ih =>
    intro d a h h0 h1
    simp only [List.length_cons] at h h1
    have hq := ih (d ++ [IntKind.i8.wrap a]) (a + 1) (by simp; omega) (by omega) (by omega)
    refine Ev.step (fun k => rfl) (Ev.pos (by simp; omega) (Ev.pos (by omega) ?_))
    rw [set_mid, wrap_id (i := a + 1) (by omega) (by omega), wnext d.length (by omega)]
    simp only [List.length_append, List.length_cons, List.length_nil, List.append_assoc, List.cons_append, List.nil_append, Nat.zero_add] at hq
    simp only [List.length_cons, mks8]
    rw [show a + ((r.length + 1 : Nat) : Int) = a + 1 + (r.length : Int) from by omega]
    exact hq
theorem markInt8S_ev (l : List Int) (a : Int) (h : l.length ≤ 140737488355327) (h0 : 0 ≤ a) (h1 : a ≤ 1000000000000000) : Ev (fun k => laws_markInt8S.f k l a) (a + l.length, mks8 l.length a) :=
  markInt8S_loop l [] a (by simpa using h) h0 (by omega)
theorem markStream_ev (h l : List Int) (hh : h.length ≤ 140737488355327) (hl : l.length ≤ 140737488355327) (a : Int) (h0 : 0 ≤ a) (h1 : a ≤ 800000000000000) : ∃ x y : List Int, Ev (fun k => laws_markStream.f k h l a) (a + h.length + l.length, x, y) :=
  ⟨_, _, Ev.bind (markInt8S_ev h a hh h0 (by omega)) (Ev.bind (markInt8S_ev l (a + h.length) hl (by omega) (by omega)) (Ev.now _))⟩
/-! ### trees -/
theorem szTree_some (l : List S158) (c : Int) : ∃ r, laws_szTree.f l c = some r := by
  unfold laws_szTree.f laws_szForkS.f
  repeat' split
  all_goals simp only [Option.bind_some]
  all_goals repeat' split
  all_goals exact ⟨_, rfl⟩
def convF (x : S158) : S89 := ⟨x.f0, x.f1, x.f2⟩
theorem wsmall {i : Int} (h0 : 0 ≤ i) (h : i ≤ 100) : wrap64 (i + 1) = i + 1 := by unfold wrap64; omega
theorem toA3_ev (a b c : Int) : Ev (fun k => laws_toInt16A3.f k a b c) (a, b, c) := by
  unfold laws_toInt16A3.f
  have e0 : wrap64 ((0 : Int) + 1) = 1 := by unfold wrap64; omega
  have e1 : wrap64 ((1 : Int) + 1) = 2 := by unfold wrap64; omega
  have e2 : wrap64 ((2 : Int) + 1) = 3 := by unfold wrap64; omega
  refine Ev.step (fun k => rfl) ?_
  refine Ev.pos (by decide) (Ev.pos (by decide) ?_)
  rw [e0]
  refine Ev.step (fun k => rfl) ?_
  refine Ev.pos (by decide) (Ev.pos (by decide) ?_)
  rw [e1]
  refine Ev.step (fun k => rfl) ?_
  refine Ev.pos (by decide) (Ev.pos (by decide) ?_)
  rw [e2]
  refine Ev.step (fun k => rfl) ?_
  refine Ev.neg (by decide) (Ev.to (Ev.now _) ?_)
  rfl
theorem rd89_mid (d : List S89) (x : S89) (r : List S89) : rd_T89 (d ++ x :: r) (d.length : Int) = x := by
  simp [rd_T89, List.getD]
theorem rd158_mid (d : List S158) (x : S158) (r : List S158) : rd_T158 (d ++ x :: r) (d.length : Int) = x := by
  simp [rd_T158, List.getD]
theorem toForkS_loop (r : List S158) : ∀ (d : List S158) (y : List S89), d.length + r.length ≤ 140737488355327 → y.length = r.length → Ev (fun k => laws_toForkS.l0 k (d ++ r) (d.map convF ++ y) (d.length : Int)) ((d ++ r).map convF) := by
  induction r with
  | nil =>
    intro d y h hy
    obtain rfl := List.eq_nil_of_length_eq_zero hy
    refine Ev.step (fun k => rfl) ?_
    simp only [laws_toForkS.l0]
    exact Ev.neg (by simp) (Ev.to (Ev.now _) (by simp))
  | cons x r ih =>
    intro d y h hy
    match y, hy with
    | y0 :: y, hy =>
      simp only [List.length_cons] at h hy
      refine Ev.step (fun k => rfl) ?_
      simp only [laws_toForkS.l0]
      refine Ev.pos (by simp; omega) (Ev.pos (by omega) ?_)
      rw [rd158_mid]
      refine Ev.bind (Ev.bind (toA3_ev _ _ _) (Ev.now _)) (Ev.pos (by simp; omega) ?_)
      rw [wnext d.length (by omega)]
      have hq := ih (d ++ [x]) y (by simp; omega) (by omega)
      have hs : (d.map convF ++ y0 :: y).set ((d.length : Int)).toNat (convF x) = (d ++ [x]).map convF ++ y := by
        have := set_mid (d.map convF) y0 (convF x) y
        rw [List.length_map] at this
        rw [this]; simp
      rw [List.append_assoc] at hq
      simp only [List.length_append, List.length_cons, List.length_nil, List.cons_append, List.nil_append, Nat.zero_add] at hq
      exact Ev.congr (fun k => by rw [← hs]; rfl) hq
theorem toTree_ev (l : List S158) (h : l.length ≤ 35184372088832) : Ev (fun k => laws_toTree.f k l) (l.map convF) := by
  unfold laws_toTree.f laws_toForkS.f
  refine Ev.bind (Ev.pos (by omega) (Ev.pos (by omega) ?_)) (Ev.now _)
  have := toForkS_loop l [] (List.replicate l.length z89) (by simp; omega) (by simp)
  simpa using this
theorem eqA3_ev (a b c : Int) : Ev (fun k => laws_eqInt16A3.f k a b c a b c) true := by
  unfold laws_eqInt16A3.f
  have e0 : wrap64 ((0 : Int) + 1) = 1 := by unfold wrap64; omega
  have e1 : wrap64 ((1 : Int) + 1) = 2 := by unfold wrap64; omega
  have e2 : wrap64 ((2 : Int) + 1) = 3 := by unfold wrap64; omega
  refine Ev.step (fun k => rfl) ?_
  refine Ev.pos (by decide) (Ev.pos (by decide) (Ev.pos rfl ?_))
  rw [e0]
  refine Ev.step (fun k => rfl) ?_
  refine Ev.pos (by decide) (Ev.pos (by decide) (Ev.pos rfl ?_))
  rw [e1]
  refine Ev.step (fun k => rfl) ?_
  refine Ev.pos (by decide) (Ev.pos (by decide) (Ev.pos rfl ?_))
  rw [e2]
  refine Ev.step (fun k => rfl) ?_
  exact Ev.neg (by decide) (Ev.now _)
theorem eqFork_ev (x : S89) : Ev (fun k => laws_eqFork.f k x.f0 x.f1 x.f2.f0 x.f2.f1 x.f2.f2 x.f0 x.f1 x.f2.f0 x.f2.f1 x.f2.f2) true := by
  unfold laws_eqFork.f
  exact Ev.pos rfl (Ev.pos rfl (Ev.bind (eqA3_ev _ _ _) (Ev.pos rfl (Ev.now _))))
theorem eqForkS_loop (a : List S89) (hn : a.length ≤ 140737488355327) (d : Nat) : ∀ (i : Nat), i + d = a.length → Ev (fun k => laws_eqForkS.l0 k a a (i : Int)) true := by
  induction d with
  | zero =>
    intro i hi
    refine Ev.step (fun k => rfl) ?_
    simp only [laws_eqForkS.l0]
    exact Ev.neg (by omega) (Ev.now _)
  | succ d ih =>
    intro i hi
    refine Ev.step (fun k => rfl) ?_
    simp only [laws_eqForkS.l0]
    refine Ev.pos (by omega) (Ev.pos (by omega) (Ev.pos (by omega) (Ev.bind (eqFork_ev _) (Ev.pos rfl ?_))))
    rw [wnext i (by omega)]
    exact ih (i + 1) (by omega)
theorem eqTree_ev (a : List S89) (hn : a.length ≤ 140737488355327) : Ev (fun k => laws_eqTree.f k a a) true := by
  unfold laws_eqTree.f laws_eqForkS.f
  exact Ev.bind (Ev.pos rfl (eqForkS_loop a hn a.length 0 (by omega))) (Ev.pos rfl (Ev.now _))
theorem markForkS_loop (n : Nat) : ∀ (x : List S89) (i : Nat) (a : Int), x.length ≤ 140737488355327 → i + n = x.length → 0 ≤ a → a + 5 * n ≤ 9000000000000000000 → ∃ y : List S89, y.length = x.length ∧ Ev (fun k => laws_markForkS.l0 k x a (i : Int)) (a + 5 * n, y) := by
  induction n with
  | zero =>
    intro x i a hx hi h0 h1
    refine ⟨x, rfl, Ev.step (fun k => rfl) ?_⟩
    simp only [laws_markForkS.l0]
    exact Ev.neg (by omega) (Ev.to (Ev.now _) (by simp))
  | succ n ih =>
    intro x i a hx hi h0 h1
    have e0 : wrap64 ((0 : Int) + 1) = 1 := by unfold wrap64; omega
    have e1 : wrap64 ((1 : Int) + 1) = 2 := by unfold wrap64; omega
    have e2 : wrap64 ((2 : Int) + 1) = 3 := by unfold wrap64; omega
    have w : ∀ b : Int, 0 ≤ b → b ≤ 9000000000000000000 → wrap64 (b + 1) = b + 1 := by intro b h h'; unfold wrap64; omega
    have hl : ∀ y : List S89, y.length = x.length → ∃ z : List S89, z.length = x.length ∧ Ev (fun k => laws_markForkS.l1 k y (a + 1 + 1) (i : Int) 0) (a + 5 * (n + 1 : Nat), z) := by
      intro y hy
      have hz : ∀ y3 : List S89, y3.length = x.length → ∃ z : List S89, z.length = x.length ∧ Ev (fun k => laws_markForkS.l0 k y3 (a + 1 + 1 + 1 + 1 + 1) (wrap64 ((i : Int) + 1))) (a + 5 * (n + 1 : Nat), z) := by
        intro y3 hy3
        obtain ⟨z, hz, e⟩ := ih y3 (i + 1) (a + 1 + 1 + 1 + 1 + 1) (by omega) (by omega) (by omega) (by omega)
        refine ⟨z, by omega, ?_⟩
        rw [wnext i (by omega)]
        refine Ev.to e ?_
        rw [show a + 1 + 1 + 1 + 1 + 1 + 5 * (n : Int) = a + 5 * ((n + 1 : Nat) : Int) from by omega]
      have go : ∀ (j : Nat) (y : List S89) (b : Int), j ≤ 3 → y.length = x.length → b = a + 2 + j → ∃ z : List S89, z.length = x.length ∧ Ev (fun k => laws_markForkS.l1 k y b (i : Int) (j : Int)) (a + 5 * (n + 1 : Nat), z) := by
        intro j
        induction h3 : 3 - j generalizing j with
        | zero =>
          intro y b hj hy hb
          obtain rfl : j = 3 := by omega
          obtain ⟨z, hz', e⟩ := hz y hy
          refine ⟨z, hz', Ev.step (fun k => rfl) ?_⟩
          refine Ev.neg (by decide) ?_
          rw [show b = a + 1 + 1 + 1 + 1 + 1 from by omega]
          exact e
        | succ m ihm =>
          intro y b hj hy hb
          obtain ⟨z, hz', e⟩ := ihm (j + 1) (by omega) (y.set (i : Int).toNat ⟨(rd_T89 y (i : Int)).f0, (rd_T89 y (i : Int)).f1, ⟨up 0 (j : Int) (IntKind.i16.wrap b) ((rd_T89 y (i : Int)).f2.f0), up 1 (j : Int) (IntKind.i16.wrap b) ((rd_T89 y (i : Int)).f2.f1), up 2 (j : Int) (IntKind.i16.wrap b) ((rd_T89 y (i : Int)).f2.f2)⟩⟩) (b + 1) (by omega) (by simpa using hy) (by omega)
          refine ⟨z, hz', Ev.step (fun k => rfl) ?_⟩
          refine Ev.pos (by omega) (Ev.pos (by omega) (Ev.pos (by omega) (Ev.pos (by omega) ?_)))
          rw [w b (by omega) (by omega), wnext j (by omega)]
          exact e
      exact go 0 y (a + 1 + 1) (by omega) hy (by omega)
    obtain ⟨z, hz, e⟩ := hl ((x.set (i : Int).toNat ⟨IntKind.i8.wrap a, (rd_T89 x (i : Int)).f1, ⟨(rd_T89 x (i : Int)).f2.f0, (rd_T89 x (i : Int)).f2.f1, (rd_T89 x (i : Int)).f2.f2⟩⟩).set (i : Int).toNat ⟨(rd_T89 (x.set (i : Int).toNat ⟨IntKind.i8.wrap a, (rd_T89 x (i : Int)).f1, ⟨(rd_T89 x (i : Int)).f2.f0, (rd_T89 x (i : Int)).f2.f1, (rd_T89 x (i : Int)).f2.f2⟩⟩) (i : Int)).f0, IntKind.i8.wrap (a + 1), ⟨(rd_T89 (x.set (i : Int).toNat ⟨IntKind.i8.wrap a, (rd_T89 x (i : Int)).f1, ⟨(rd_T89 x (i : Int)).f2.f0, (rd_T89 x (i : Int)).f2.f1, (rd_T89 x (i : Int)).f2.f2⟩⟩) (i : Int)).f2.f0, (rd_T89 (x.set (i : Int).toNat ⟨IntKind.i8.wrap a, (rd_T89 x (i : Int)).f1, ⟨(rd_T89 x (i : Int)).f2.f0, (rd_T89 x (i : Int)).f2.f1, (rd_T89 x (i : Int)).f2.f2⟩⟩) (i : Int)).f2.f1, (rd_T89 (x.set (i : Int).toNat ⟨IntKind.i8.wrap a, (rd_T89 x (i : Int)).f1, ⟨(rd_T89 x (i : Int)).f2.f0, (rd_T89 x (i : Int)).f2.f1, (rd_T89 x (i : Int)).f2.f2⟩⟩) (i : Int)).f2.f2⟩⟩) (by simp)
    refine ⟨z, hz, Ev.step (fun k => rfl) ?_⟩
    simp only [laws_markForkS.l0, Option.bind_some]
    refine Ev.pos (by omega) (Ev.pos (by omega) ?_)
    rw [w a h0 (by omega), w (a + 1) (by omega) (by omega)]
    exact e
theorem markTree_ev (x : List S89) (hx : x.length ≤ 140737488355327) : ∃ y : List S89, Ev (fun k => laws_markTree.f k x 1) (1 + 5 * x.length, y) := by
  obtain ⟨y, _, e⟩ := markForkS_loop x.length x 0 1 hx (by omega) (by omega) (by omega)
  exact ⟨y, Ev.bind e (Ev.now _)⟩
end Go.Proofs.Ytpfnohdnaocpdaa.Pure

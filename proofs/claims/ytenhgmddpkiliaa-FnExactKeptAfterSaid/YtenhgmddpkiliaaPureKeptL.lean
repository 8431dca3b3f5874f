/- What the laws do with what is kept: sizes, copies, equalities, marks. Plain Lean over the printed functions. -/
import Derived.Test.YtenhgmddpkiliaaPBx2
import Derived.Test.YtenhgmddpkiliaaPBx5
import Derived.Test.YtenhgmddpkiliaaPBx6
import Derived.Test.YtenhgmddpkiliaaPBx7
import Derived.Test.YtenhgmddpkiliaaPBx1
import Derived.Test.YtenhgmddpkiliaaPureMarks
namespace Go.Proofs.Ytenhgmddpkiliaa.Pure
open Go.RowKit Go.Proofs.Ytenhgmddpkiliaa.PB Go.Proofs.YtenhgmddpkiliaaW.PrintWords Go.Proofs.YtenhgmddpkiliaaW.PrintLast Go.Proofs.YtenhgmddpkiliaaW.PrintMore Go.Proofs.YtenhgmddpkiliaaRP
set_option linter.unusedVariables false
set_option linter.unusedSimpArgs false

theorem rd120_mid (d : List S120) (x : S120) (r : List S120) (n : Nat) (h : n = d.length) : rd_T120 (d ++ x :: r) (n : Int) = x := by
  subst h; simp [rd_T120, List.getD]
theorem rd124_mid (d : List S124) (x : S124) (r : List S124) (n : Nat) (h : n = d.length) : rd_T124 (d ++ x :: r) (n : Int) = x := by
  subst h; simp [rd_T124, List.getD]
theorem szKept_some (x : S120) (a : Int) : ∃ r, laws_szKept.f x.f0 x.f1 x.f2.f0 x.f2.f1.f0 x.f2.f1.f1 x.f2.f1.f2 x.f2.f1.f3 x.f2.f1.f4 x.f2.f1.f5 a = some r := by
  unfold laws_szKept.f
  repeat' split
  all_goals exact ⟨_, rfl⟩
theorem szKeptS_loop (l : List S120) (hn : l.length ≤ 140737488355327) (d : Nat) : ∀ (k : Nat) (i a : Int), 0 ≤ i → i ≤ l.length → (l.length : Int) - i = d → d < k → ∃ r, laws_szKeptS.l0 k l a i = some r := by
  induction d with
  | zero =>
    intro k i a h0 h1 hd hk
    obtain ⟨k, rfl⟩ : ∃ m, k = m + 1 := ⟨k - 1, by omega⟩
    exact ⟨a, by simp only [laws_szKeptS.l0]; rw [if_neg (by omega)]⟩
  | succ d ih =>
    intro k i a h0 h1 hd hk
    obtain ⟨k, rfl⟩ : ∃ m, k = m + 1 := ⟨k - 1, by omega⟩
    obtain ⟨t, ht⟩ := szKept_some (rd_T120 l i) a
    by_cases hneg : t < 0
    · exact ⟨-1, by simp only [laws_szKeptS.l0]; rw [if_pos (by omega), if_pos h0, ht]; simp only [Option.bind_some]; rw [if_pos hneg]⟩
    · obtain ⟨r, hr⟩ := ih k (i + 1) t (by omega) (by omega) (by omega) (by omega)
      refine ⟨r, ?_⟩
      simp only [laws_szKeptS.l0]; rw [if_pos (by omega), if_pos h0, ht]; simp only [Option.bind_some]; rw [if_neg hneg, wrap_up h0 (by omega)]
      exact hr
theorem szKeptS_ev (l : List S120) (hn : l.length ≤ 140737488355327) (a : Int) : ∃ r, Ev (fun k => laws_szKeptS.f k l a) r := by
  by_cases h : wrap64 (a - (l.length : Int)) < 0
  · exact ⟨-1, 0, fun k _ => by simp only [laws_szKeptS.f]; rw [if_pos h]⟩
  · obtain ⟨r, hr⟩ := szKeptS_loop l hn l.length (l.length + 1) 0 (wrap64 (a - (l.length : Int))) (by omega) (by omega) (by omega) (by omega)
    refine ⟨r, Ev.of (fun k => laws_szKeptS.mono l a k) (k := l.length + 1) ?_⟩
    simp only [laws_szKeptS.f]; rw [if_neg h]; exact hr
def convK (x : S120) : S124 := ⟨x.f0, x.f1, ⟨x.f2.f0, ⟨x.f2.f1.f0, x.f2.f1.f1, x.f2.f1.f2, x.f2.f1.f3, x.f2.f1.f4, x.f2.f1.f5⟩⟩⟩
theorem ws0 : wrap64 (0 + 1) = 1 := by unfold wrap64; omega
theorem ws1 : wrap64 (1 + 1) = 2 := by unfold wrap64; omega
theorem ws2 : wrap64 (2 + 1) = 3 := by unfold wrap64; omega
theorem ws3 : wrap64 (3 + 1) = 4 := by unfold wrap64; omega
theorem ws4 : wrap64 (4 + 1) = 5 := by unfold wrap64; omega
theorem ws5 : wrap64 (5 + 1) = 6 := by unfold wrap64; omega
theorem wt1 : wrap64 1 = 1 := by unfold wrap64; omega
theorem wt2 : wrap64 2 = 2 := by unfold wrap64; omega
theorem wt3 : wrap64 3 = 3 := by unfold wrap64; omega
theorem wt4 : wrap64 4 = 4 := by unfold wrap64; omega
theorem wt5 : wrap64 5 = 5 := by unfold wrap64; omega
theorem wt6 : wrap64 6 = 6 := by unfold wrap64; omega
theorem toA6_ev (a b c d e f : Int) : Ev (fun k => laws_toUint32A6.f k a b c d e f) (a, b, c, d, e, f) := by
  refine Ev.of (fun k => laws_toUint32A6.mono a b c d e f k) (k := 7) ?_
  simp [laws_toUint32A6.f, laws_toUint32A6.l0, wt1, wt2, wt3, wt4, wt5, wt6, rd, Go.Proofs.YtenhgmddpkiliaaRP.up]
theorem toKept_ev (x : S120) : Ev (fun k => laws_toKept.f k x.f0 x.f1 x.f2.f0 x.f2.f1.f0 x.f2.f1.f1 x.f2.f1.f2 x.f2.f1.f3 x.f2.f1.f4 x.f2.f1.f5) (x.f0, x.f1, x.f2.f0, x.f2.f1.f0, x.f2.f1.f1, x.f2.f1.f2, x.f2.f1.f3, x.f2.f1.f4, x.f2.f1.f5) := by
  unfold laws_toKept.f laws_toWide.f
  exact Ev.bind (Ev.bind (toA6_ev _ _ _ _ _ _) (Ev.now _)) (Ev.now _)
theorem toKeptS_loop (r : List S120) : ∀ (d : List S120), d.length + r.length ≤ 140737488355327 → Ev (fun k => laws_toKeptS.l0 k (d ++ r) (d.map convK ++ List.replicate r.length z124) (d.length : Int)) ((d ++ r).map convK) := by
  induction r with
  | nil =>
    intro d h
    refine Ev.step (fun k => rfl) ?_
    simp only [laws_toKeptS.l0]
    exact Ev.neg (by simp) (Ev.to (Ev.now _) (by simp))
  | cons x r ih =>
    intro d h
    simp only [List.length_cons] at h
    have hq := ih (d ++ [x]) (by simp; omega)
    refine Ev.step (fun k => rfl) ?_
    simp only [laws_toKeptS.l0]
    refine Ev.pos (by simp; omega) (Ev.pos (by omega) ?_)
    rw [rd120_mid _ _ _ _ rfl]
    refine Ev.bind (toKept_ev x) (Ev.pos (by simp; omega) ?_)
    rw [wrap_up (by omega) (by omega), List.length_cons, List.replicate_succ, set_midN _ _ _ _ _ (by simp), show (d ++ x :: r).map convK = d.map convK ++ convK x :: r.map convK from by simp]
    simp only [List.length_append, List.length_cons, List.length_nil, List.append_assoc, List.cons_append, List.nil_append, Nat.zero_add, List.map_append, List.map_cons, List.map_nil] at hq
    exact hq
theorem toKeptS_ev (l : List S120) (hn : l.length ≤ 5026338869833) : Ev (fun k => laws_toKeptS.f k l) (l.map convK) := by
  unfold laws_toKeptS.f
  refine Ev.pos (by omega) (Ev.pos (by omega) ?_)
  exact toKeptS_loop l [] (by simp; omega)
theorem eqA6_ev (a b c d e f : Int) : Ev (fun k => laws_eqUint32A6.f k a b c d e f a b c d e f) true := by
  refine Ev.of (fun k => laws_eqUint32A6.mono a b c d e f a b c d e f k) (k := 7) ?_
  simp [laws_eqUint32A6.f, laws_eqUint32A6.l0, wt1, wt2, wt3, wt4, wt5, wt6]
theorem eqKept_ev (x : S124) : Ev (fun k => laws_eqKept.f k x.f0 x.f1 x.f2.f0 x.f2.f1.f0 x.f2.f1.f1 x.f2.f1.f2 x.f2.f1.f3 x.f2.f1.f4 x.f2.f1.f5 x.f0 x.f1 x.f2.f0 x.f2.f1.f0 x.f2.f1.f1 x.f2.f1.f2 x.f2.f1.f3 x.f2.f1.f4 x.f2.f1.f5) true := by
  unfold laws_eqKept.f laws_eqWide.f
  refine Ev.pos rfl (Ev.pos rfl (Ev.bind (Ev.neg (by simp) (Ev.bind (eqA6_ev _ _ _ _ _ _) (Ev.pos rfl (Ev.now true)))) (Ev.pos rfl (Ev.now true))))
theorem eqKeptS_loop (r : List S124) : ∀ d : List S124, d.length + r.length ≤ 140737488355327 → Ev (fun k => laws_eqKeptS.l0 k (d ++ r) (d ++ r) (d.length : Int)) true := by
  induction r with
  | nil =>
    intro d h
    refine Ev.step (fun k => rfl) ?_
    simp only [laws_eqKeptS.l0]
    exact Ev.neg (by simp) (Ev.now _)
  | cons x r ih =>
    intro d h
    simp only [List.length_cons] at h
    have hq := ih (d ++ [x]) (by simp; omega)
    refine Ev.step (fun k => rfl) ?_
    simp only [laws_eqKeptS.l0]
    refine Ev.pos (by simp; omega) (Ev.pos (by omega) (Ev.pos (by simp; omega) ?_))
    rw [rd124_mid _ _ _ _ rfl]
    refine Ev.bind (eqKept_ev x) (Ev.pos rfl ?_)
    rw [wrap_up (by omega) (by omega)]
    simp only [List.length_append, List.length_cons, List.length_nil, List.append_assoc, List.cons_append, List.nil_append, Nat.zero_add] at hq
    exact hq
theorem eqKeptS_ev (l : List S124) (hn : l.length ≤ 140737488355327) : Ev (fun k => laws_eqKeptS.f k l l) true := by
  unfold laws_eqKeptS.f
  exact Ev.pos rfl (eqKeptS_loop l [] (by simpa using hn))
/-! ### marks -/
noncomputable def mk124 (a : Int) : S124 := ⟨markT a, nx a, ⟨Int.tmod (nx (nx a)) 3 == 0, ⟨nx (nx (nx a)) % 4294967296, nx (nx (nx (nx a))) % 4294967296, nx (nx (nx (nx (nx a)))) % 4294967296, nx (nx (nx (nx (nx (nx a))))) % 4294967296, nx (nx (nx (nx (nx (nx (nx a)))))) % 4294967296, nx (nx (nx (nx (nx (nx (nx (nx a))))))) % 4294967296⟩⟩⟩
def n9 (a : Int) : Int := nx (nx (nx (nx (nx (nx (nx (nx (nx a))))))))
noncomputable def mks124 : Nat → Int → List S124
  | 0, _ => []
  | n + 1, a => mk124 a :: mks124 n (n9 a)
def mkeK : Nat → Int → Int
  | 0, a => a
  | n + 1, a => mkeK n (n9 a)
theorem mark_l1 (x : S124) (r d : List S124) (a : Int) (v : Int × List S124) (h : d.length + r.length ≤ 140737488355326)
    (hk : Ev (fun k => laws_markKeptS.l0 k (d ++ ⟨x.f0, x.f1, ⟨x.f2.f0, ⟨a % 4294967296, nx a % 4294967296, nx (nx a) % 4294967296, nx (nx (nx a)) % 4294967296, nx (nx (nx (nx a))) % 4294967296, nx (nx (nx (nx (nx a)))) % 4294967296⟩⟩⟩ :: r) (nx (nx (nx (nx (nx (nx a)))))) ((d.length + 1 : Nat) : Int)) v) :
    Ev (fun k => laws_markKeptS.l1 k (d ++ x :: r) a (d.length : Int) 0) v := by
  have hlen : ∀ y : S124, (d.length : Int) < ((d ++ y :: r).length : Int) := by intro y; simp; omega
  iterate 6
    refine Ev.step (fun k => rfl) ?_
    simp only [laws_markKeptS.l1]
    refine Ev.pos (by omega) (Ev.pos (by omega) (Ev.pos (hlen _) (Ev.pos (by omega) ?_)))
    simp only [set_mid, rd124_mid _ _ _ _ rfl, ws0, ws1, ws2, ws3, ws4, ws5]
  refine Ev.step (fun k => rfl) ?_
  simp only [laws_markKeptS.l1]
  refine Ev.neg (by omega) ?_
  rw [wrap_up (i := (d.length : Int)) (by omega) (by omega)]
  simp [Go.Proofs.YtenhgmddpkiliaaRP.up]
  exact hk
theorem markKeptS_loop (r : List S124) : ∀ (d : List S124) (a : Int), a < 9223372036854775808 → d.length + r.length ≤ 140737488355327 → Ev (fun k => laws_markKeptS.l0 k (d ++ r) a (d.length : Int)) (mkeK r.length a, d ++ mks124 r.length a) := by
  induction r with
  | nil =>
    intro d a ha h
    refine Ev.step (fun k => rfl) ?_
    simp only [laws_markKeptS.l0, mks124]
    refine Ev.neg (by simp) ?_
    exact Ev.now _
  | cons x r ih =>
    intro d a ha h
    simp only [List.length_cons] at h
    have hq := ih (d ++ [mk124 a]) (n9 a) (nx_lt _) (by simp; omega)
    refine Ev.step (fun k => rfl) ?_
    simp only [laws_markKeptS.l0]
    refine Ev.pos (by simp; omega) ?_
    refine Ev.bind (markT_ev ha) ?_
    refine Ev.pos (by omega) ?_
    simp only [set_mid, rd124_mid _ _ _ _ rfl, Option.bind_some]
    refine mark_l1 _ _ _ _ _ (by omega) ?_
    simp only [List.length_append, List.length_cons, List.length_nil, List.append_assoc, List.cons_append, List.nil_append, Nat.zero_add] at hq
    exact hq
theorem markKeptS_ev (l : List S124) (a : Int) (ha : a < 9223372036854775808) (h : l.length ≤ 140737488355327) : Ev (fun k => laws_markKeptS.f k l a) (mkeK l.length a, mks124 l.length a) :=
  markKeptS_loop l [] a ha (by simpa using h)
theorem held_l1 (x : S124) (r d : List S124) (a : Int) (v : Int) (h : d.length + r.length ≤ 140737488355326)
    (e0 : x.f2.f1.f0 = a % 4294967296) (e1 : x.f2.f1.f1 = nx a % 4294967296) (e2 : x.f2.f1.f2 = nx (nx a) % 4294967296) (e3 : x.f2.f1.f3 = nx (nx (nx a)) % 4294967296) (e4 : x.f2.f1.f4 = nx (nx (nx (nx a))) % 4294967296) (e5 : x.f2.f1.f5 = nx (nx (nx (nx (nx a)))) % 4294967296)
    (hk : Ev (fun k => laws_heldKeptS.l0 k (d ++ x :: r) (nx (nx (nx (nx (nx (nx a)))))) ((d.length + 1 : Nat) : Int)) v) :
    Ev (fun k => laws_heldKeptS.l1 k (d ++ x :: r) a (d.length : Int) 0) v := by
  have hlen : (d.length : Int) < ((d ++ x :: r).length : Int) := by simp; omega
  refine Ev.step (fun k => rfl) ?_
  simp only [laws_heldKeptS.l1, rd124_mid _ _ _ _ rfl, ws0, ws1, ws2, ws3, ws4, ws5]
  refine Ev.pos (by omega) (Ev.pos (by omega) (Ev.pos hlen (Ev.pos (by omega) (Ev.pos e0 ?_))))
  refine Ev.step (fun k => rfl) ?_
  simp only [laws_heldKeptS.l1, rd124_mid _ _ _ _ rfl, ws0, ws1, ws2, ws3, ws4, ws5]
  refine Ev.pos (by omega) (Ev.pos (by omega) (Ev.pos hlen (Ev.pos (by omega) (Ev.pos e1 ?_))))
  refine Ev.step (fun k => rfl) ?_
  simp only [laws_heldKeptS.l1, rd124_mid _ _ _ _ rfl, ws0, ws1, ws2, ws3, ws4, ws5]
  refine Ev.pos (by omega) (Ev.pos (by omega) (Ev.pos hlen (Ev.pos (by omega) (Ev.pos e2 ?_))))
  refine Ev.step (fun k => rfl) ?_
  simp only [laws_heldKeptS.l1, rd124_mid _ _ _ _ rfl, ws0, ws1, ws2, ws3, ws4, ws5]
  refine Ev.pos (by omega) (Ev.pos (by omega) (Ev.pos hlen (Ev.pos (by omega) (Ev.pos e3 ?_))))
  refine Ev.step (fun k => rfl) ?_
  simp only [laws_heldKeptS.l1, rd124_mid _ _ _ _ rfl, ws0, ws1, ws2, ws3, ws4, ws5]
  refine Ev.pos (by omega) (Ev.pos (by omega) (Ev.pos hlen (Ev.pos (by omega) (Ev.pos e4 ?_))))
  refine Ev.step (fun k => rfl) ?_
  simp only [laws_heldKeptS.l1, rd124_mid _ _ _ _ rfl, ws0, ws1, ws2, ws3, ws4, ws5]
  refine Ev.pos (by omega) (Ev.pos (by omega) (Ev.pos hlen (Ev.pos (by omega) (Ev.pos e5 ?_))))
  refine Ev.step (fun k => rfl) ?_
  simp only [laws_heldKeptS.l1, ws0, ws1, ws2, ws3, ws4, ws5]
  refine Ev.neg (by omega) ?_
  rw [wrap_up (i := (d.length : Int)) (by omega) (by omega)]
  exact hk
theorem heldKeptS_loop (n : Nat) : ∀ (d : List S124) (a : Int), a < 9223372036854775808 → d.length + n ≤ 140737488355327 → Ev (fun k => laws_heldKeptS.l0 k (d ++ mks124 n a) a (d.length : Int)) (mkeK n a) := by
  induction n with
  | zero =>
    intro d a ha h
    refine Ev.step (fun k => rfl) ?_
    simp only [laws_heldKeptS.l0, mks124]
    refine Ev.neg (by simp) ?_
    exact Ev.now _
  | succ n ih =>
    intro d a ha h
    have hq := ih (d ++ [mk124 a]) (n9 a) (nx_lt _) (by simp; omega)
    have hl : (mks124 n (n9 a)).length = n := by
      clear ih hq
      induction n generalizing a d with
      | zero => rfl
      | succ n ih2 => simp only [mks124, List.length_cons]; rw [ih2 d (n9 a) (nx_lt _) (by omega)]
    refine Ev.step (fun k => rfl) ?_
    simp only [laws_heldKeptS.l0, mks124]
    refine Ev.pos (by simp; omega) ?_
    refine Ev.pos (by omega) ?_
    simp only [rd124_mid _ _ _ _ rfl]
    refine Ev.bind (markT_ev ha) ?_
    refine Ev.pos (by rfl) ?_
    refine Ev.pos (by rfl) ?_
    refine Ev.neg (by simp [mk124, nx]) ?_
    refine held_l1 _ _ _ _ _ (by rw [hl]; omega) rfl rfl rfl rfl rfl rfl ?_
    simp only [List.length_append, List.length_cons, List.length_nil, List.append_assoc, List.cons_append, List.nil_append, Nat.zero_add] at hq
    exact hq
theorem heldKeptS_ev (n : Nat) (a : Int) (ha : a < 9223372036854775808) (h : n ≤ 140737488355327) : Ev (fun k => laws_heldKeptS.f k (mks124 n a) a) (mkeK n a) :=
  heldKeptS_loop n [] a ha (by simpa using h)
theorem mkeK_small (n : Nat) : ∀ a : Int, 0 ≤ a → a + 9 * n < 9223372036854775807 → mkeK n a = a + 9 * n := by
  induction n with
  | zero => intro a h k; simp [mkeK]
  | succ n ih =>
    intro a h k
    have e : ∀ b : Int, 0 ≤ b → b < 9223372036854775807 → nx b = b + 1 := by intro b h0 h1; unfold nx wrap64; omega
    have e9 : n9 a = a + 9 := by
      unfold n9
      rw [e a (by omega) (by omega), e (a + 1) (by omega) (by omega), e (a + 1 + 1) (by omega) (by omega), e (a + 1 + 1 + 1) (by omega) (by omega), e (a + 1 + 1 + 1 + 1) (by omega) (by omega), e (a + 1 + 1 + 1 + 1 + 1) (by omega) (by omega), e (a + 1 + 1 + 1 + 1 + 1 + 1) (by omega) (by omega), e (a + 1 + 1 + 1 + 1 + 1 + 1 + 1) (by omega) (by omega), e (a + 1 + 1 + 1 + 1 + 1 + 1 + 1 + 1) (by omega) (by omega)]
      omega
    simp only [mkeK]
    rw [e9, ih _ (by omega) (by omega)]
    omega
end Go.Proofs.Ytenhgmddpkiliaa.Pure

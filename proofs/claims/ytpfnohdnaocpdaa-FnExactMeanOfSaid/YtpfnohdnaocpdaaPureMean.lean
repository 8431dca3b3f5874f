/- MeanOf: both answers. Plain Lean over the printed functions. -/
import Derived.Test.YtpfnohdnaocpdaaPTx5
import Derived.Test.YtpfnohdnaocpdaaPureTab
import Derived.Test.YtpfnohdnaocpdaaPureRatio
namespace Go.Proofs.Ytpfnohdnaocpdaa.Pure
open Go.RowKit Go.Proofs.Ytpfnohdnaocpdaa.PT Go.Proofs.YtpfnohdnaocpdaaW.PrintWords Go.Proofs.YtpfnohdnaocpdaaW.PrintLast Go.Proofs.YtpfnohdnaocpdaaW.PrintMore Go.Proofs.YtpfnohdnaocpdaaRP
set_option linter.unusedVariables false
set_option linter.unusedSimpArgs false
/-- What digits weigh. -/
def wh : Int → List Int → Int
  | x, [] => x
  | x, d :: r => wh (2 * x + d) r
theorem wh_bound (r : List Int) : ∀ (x : Int) (m : Nat), (∀ d ∈ r, -1 ≤ d ∧ d ≤ 1) → x.natAbs + 1 ≤ m → (wh x r).natAbs + 1 ≤ m * 2 ^ r.length := by
  induction r with
  | nil => intro x m _ h; simpa [wh] using h
  | cons d r ih =>
    intro x m hd h
    have h1 := hd d (List.mem_cons_self ..)
    have h2 := ih (2 * x + d) (2 * m) (fun e he => hd e (List.mem_cons_of_mem _ he)) (by omega)
    rw [List.length_cons, Nat.pow_succ, Nat.mul_comm (2 ^ r.length) 2, ← Nat.mul_assoc, Nat.mul_comm m 2]
    exact h2
theorem wh_le {r : List Int} (h : r.length ≤ 20) (hd : ∀ d ∈ r, -1 ≤ d ∧ d ≤ 1) : (wh 0 r).natAbs ≤ 1048576 := by
  have h1 := wh_bound r 0 1 hd (by decide)
  have h2 : 2 ^ r.length ≤ 2 ^ 20 := Nat.pow_le_pow_right (by decide) h
  have h3 : (2 : Nat) ^ 20 = 1048576 := by decide
  omega
theorem whole_loops (xs : List Int) (hx : xs.length ≤ 20) (hd : ∀ d ∈ xs, -1 ≤ d ∧ d ≤ 1) (r : List Int) : ∀ (p : List Int) (x : Int) (B : Nat), p ++ r = xs → x.natAbs + 1 ≤ B → B * 2 ^ r.length ≤ 1048576 →
    Ev (fun k => spec_l03Whole.l0 k xs x (p.length : Int)) (wh x r) ∧ Ev (fun k => impl_weigh.l0 k x xs (xs.length : Int) (p.length : Int)) (wh x r) := by
  induction r with
  | nil =>
    intro p x B hp hB h20
    rw [List.append_nil] at hp
    subst hp
    exact ⟨Ev.step (fun k => rfl) (Ev.neg (by clear h20; omega) (Ev.now _)), Ev.step (fun k => rfl) (Ev.neg (by clear h20; omega) (Ev.now _))⟩
  | cons d r ih =>
    intro p x B hp hB h20
    have IH := Aside0.mk ih
    clear ih
    have hl : p.length < xs.length := by rw [← hp]; simp
    have hr : rd xs (p.length : Int) = d := by rw [← hp]; exact rd_mid p d r
    have h1 := hd d (by rw [← hp]; simp)
    have hBs : B ≤ 1048576 := Nat.le_trans (Nat.le_mul_of_pos_right B (Nat.pow_pos (by decide))) h20
    have H20 := Aside0.mk h20
    clear h20
    have w1 : wrap64 (wrap64 (2 * x) + wrap64 d) = 2 * x + d := by unfold wrap64; omega
    have w2 := wnext p.length (by omega)
    have hb2 : (2 * x + d).natAbs + 1 ≤ 2 * B := by omega
    obtain ⟨q1, q2⟩ := IH.out (p ++ [d]) (2 * x + d) (2 * B) (by rw [← hp]; simp) hb2 (by
      have h := H20.out
      rw [List.length_cons, Nat.pow_succ] at h
      rw [Nat.mul_comm 2 B, Nat.mul_assoc, Nat.mul_comm 2]
      exact h)
    rw [List.length_append, List.length_singleton] at q1 q2
    refine ⟨Ev.step (fun k => rfl) (Ev.pos (by omega) (Ev.pos (by omega) ?_)), Ev.step (fun k => rfl) (Ev.pos (by omega) (Ev.pos (by omega) (Ev.pos (by omega) ?_)))⟩
    · rw [hr, w1, w2]; exact q1
    · rw [hr, w1, w2]; exact q2
theorem whole_ev {xs : List Int} (hx : xs.length ≤ 20) (hd : ∀ d ∈ xs, -1 ≤ d ∧ d ≤ 1) : Ev (fun k => spec_l03Whole.f k xs) (wh 0 xs) ∧ Ev (fun k => impl_weigh.f k xs) (wh 0 xs) := by
  have h2 : 2 ^ xs.length ≤ 2 ^ 20 := Nat.pow_le_pow_right (by decide) hx
  have h3 : (2 : Nat) ^ 20 = 1048576 := by decide
  exact whole_loops xs hx hd xs [] 0 1 rfl (by decide) (by omega)
/-- Powers of three. -/
def t3 : Nat → Int
  | 0 => 1
  | j + 1 => t3 j * 3
def pw : Nat → List Int
  | 0 => [1]
  | j + 1 => pw j ++ [t3 (j + 1)]
theorem pw_len (j : Nat) : (pw j).length = j + 1 := by
  induction j with
  | zero => rfl
  | succ j ih => rw [pw, List.length_append, ih]; rfl
theorem pw_rd (j : Nat) : ∀ i : Nat, i ≤ j → rd (pw j) (i : Int) = t3 i := by
  induction j with
  | zero =>
    intro i hi
    have h0 : i = 0 := by omega
    subst h0
    rfl
  | succ j ih =>
    intro i hi
    by_cases c : i = j + 1
    · subst c
      have := rd_mid (pw j) (t3 (j + 1)) []
      rw [pw_len] at this
      exact this
    · have h1 := ih i (by omega)
      rw [pw]
      have hl := pw_len j
      rw [rd_at _ i (by rw [List.length_append, hl]; simp; omega), List.getElem_append_left (by omega), ← rd_at _ i (by omega)]
      exact h1
theorem t3_le : ∀ j : Nat, j ≤ 12 → 0 < t3 j ∧ t3 j ≤ 531441 := by
  have : ∀ j : Nat, j < 13 → 0 < t3 j ∧ t3 j ≤ 531441 := by decide
  exact fun j hj => this j (by omega)
theorem pows_ev (x1 : Int) (rows : List S151) (v : Int × Int × Int) (hv : Ev (fun k => impl_MeanOf.l1 k x1 (pw 12) 0 rows (rows.length : Int) 0) v) (d : Nat) : ∀ j : Nat, j + d = 12 → Ev (fun k => impl_MeanOf.l0 k x1 rows (pw j)) v := by
  induction d with
  | zero =>
    intro j hj
    obtain rfl : j = 12 := by omega
    refine Ev.step (fun k => rfl) ?_
    simp only [impl_MeanOf.l0]
    exact Ev.neg (by rw [pw_len]; decide) hv
  | succ d ih =>
    intro j hj
    have hl := pw_len j
    have w : wrap64 (((pw j).length : Int) - 1) = (j : Int) := by rw [hl]; unfold wrap64; omega
    have ht := t3_le j (by omega)
    have w3 : wrap64 (3 * rd (pw j) (j : Int)) = t3 (j + 1) := by
      rw [pw_rd j j (Nat.le_refl _), show t3 (j + 1) = t3 j * 3 from rfl]
      unfold wrap64
      omega
    refine Ev.step (fun k => rfl) ?_
    simp only [impl_MeanOf.l0]
    rw [w, w3]
    exact Ev.pos (by omega) (Ev.pos (by omega) (Ev.pos (by omega) (Ev.pos (by omega) (ih (j + 1) (by omega)))))
/-- The reference's weight of a row. -/
theorem weight_ev (x1 : Int) (rows : List S151) (x8 x9 : Int) (i0 : 0 ≤ x9) (i1 : x9 < rows.length) (W : Int) (hW : Ev (fun k => spec_l03Whole.f k (rd_T151 rows x9).f1) W) (n : Nat) (hn : n ≤ 12) (v : Int × Int × Int) (hv : Ev (fun k => spec_MeanOf.l0 k x1 rows (wrap64 (x8 + wrap64 (t3 (12 - n) * W))) (wrap64 (x9 + 1))) v) (d : Nat) : ∀ j : Nat, j + d = 12 - n → Ev (fun k => spec_MeanOf.l1 k x1 rows x8 x9 (t3 j) ((n + j : Nat) : Int)) v := by
  induction d with
  | zero =>
    intro j hj
    obtain rfl : j = 12 - n := by omega
    refine Ev.step (fun k => rfl) ?_
    simp only [spec_MeanOf.l1]
    exact Ev.neg (by omega) (Ev.pos i0 (Ev.pos i1 (Ev.bind hW hv)))
  | succ d ih =>
    intro j hj
    have ht := t3_le j (by omega)
    have w3 : wrap64 (t3 j * 3) = t3 (j + 1) := wrap_id (i := t3 j * 3) (by omega) (by omega)
    have wn : wrap64 (((n + j : Nat) : Int) + 1) = ((n + (j + 1) : Nat) : Int) := wnext (n + j) (by omega)
    refine Ev.step (fun k => rfl) ?_
    simp only [spec_MeanOf.l1]
    refine Ev.pos (by omega) ?_
    rw [w3, wn]
    exact ih (j + 1) (by omega)
theorem shl_q : ∀ n : Nat, n ≤ 20 → 0 < shl .i64 531441 (n : Int) ∧ shl .i64 531441 (n : Int) ≤ 1000000000000000000 := by
  intro n hn
  unfold shl
  have h1 : min ((n : Int)).toNat 64 = n := by omega
  have h64 : IntKind.bits .i64 = 64 := rfl
  rw [h64, h1]
  have h2 : (2 : Int) ^ n ≤ 2 ^ 20 := by
    have : (2 : Nat) ^ n ≤ 2 ^ 20 := Nat.pow_le_pow_right (by decide) hn
    exact_mod_cast this
  have h3 : (0 : Int) < 2 ^ n := by
    have : 0 < (2 : Nat) ^ n := Nat.pow_pos (by decide)
    exact_mod_cast this
  have h4 : (2 : Int) ^ 20 = 1048576 := by decide
  generalize (2 : Int) ^ n = P at h2 h3
  rw [i64_w, wrap_id (by omega) (by omega)]
  constructor <;> omega
/-- The rows' sum, in both texts. -/
theorem mean_loops (N : Nat) (hN : N ≤ 20) (rows : List S151) (hr : OKo rows) (r : List S151) : ∀ (p : List S151) (x : Int), p ++ r = rows → x.natAbs ≤ 557256278016 * p.length → ∃ A : Int × Int × Int, Ev (fun k => spec_MeanOf.l0 k (N : Int) rows x (p.length : Int)) A ∧ Ev (fun k => impl_MeanOf.l1 k (N : Int) (pw 12) x rows (rows.length : Int) (p.length : Int)) A := by
  have hlen := hr.1
  induction r with
  | nil =>
    intro p x hp hx
    rw [List.append_nil] at hp
    subst hp
    have hu : IntKind.u64.wrap (N : Int) = N := by
      have : ∀ n : Nat, n < 21 → IntKind.u64.wrap (n : Int) = n := by decide
      exact this N (by omega)
    have hq := shl_q N hN
    have h12 : rd (pw 12) 12 = 531441 := by
      have := pw_rd 12 12 (Nat.le_refl _)
      exact this.trans (by decide)
    have hb : x.natAbs ≤ 1000000000000000000 := by
      have : 557256278016 * p.length ≤ 557256278016 * 729 := Nat.mul_le_mul_left _ hlen
      omega
    obtain ⟨A, s, i⟩ := make_both (p := x) (q := shl .i64 531441 (N : Int)) ⟨by omega, by omega⟩ hq
    refine ⟨A, Ev.step (fun k => rfl) ?_, Ev.step (fun k => rfl) ?_⟩
    · simp only [spec_MeanOf.l0]
      rw [hu]
      exact Ev.neg (by omega) (Ev.pos (by omega) (Ev.bind s (Ev.now _)))
    · simp only [impl_MeanOf.l1]
      rw [h12]
      exact Ev.neg (by omega) (Ev.pos (by rw [pw_len]; decide) (Ev.pos (by omega) (Ev.bind i (Ev.now _))))
  | cons y r ih =>
    intro p x hp hx
    have hl : p.length < rows.length := by rw [← hp]; simp
    have hy : rd_T151 rows (p.length : Int) = y := by rw [← hp]; simp [rd_T151, List.getD]
    obtain ⟨y1, y2⟩ := hr.2 y (by rw [← hp]; simp)
    obtain ⟨ws, wi⟩ := whole_ev y1 y2
    have hwl := wh_le y1 y2
    by_cases c : (y.f0.length : Int) > 12
    · refine ⟨(0, 0, 3), Ev.step (fun k => rfl) ?_, Ev.step (fun k => rfl) ?_⟩
      · simp only [spec_MeanOf.l0]
        rw [hy]
        exact Ev.pos (by omega) (Ev.pos (by omega) (Ev.pos c (Ev.now _)))
      · simp only [impl_MeanOf.l1]
        rw [hy]
        exact Ev.pos (by omega) (Ev.pos (by omega) (Ev.pos (by omega) (Ev.pos c (Ev.now _))))
    have hn : y.f0.length ≤ 12 := by omega
    have ht := t3_le (12 - y.f0.length) (by omega)
    have hprod : (t3 (12 - y.f0.length) * wh 0 y.f1).natAbs ≤ 557256278016 := by
      rw [Int.natAbs_mul]
      have h1 : (t3 (12 - y.f0.length)).natAbs ≤ 531441 := by omega
      have := Nat.mul_le_mul h1 hwl
      omega
    have hps : 557256278016 * (p.length + 1) ≤ 557256278016 * 730 := Nat.mul_le_mul_left _ (by omega)
    have hcomm : wh 0 y.f1 * t3 (12 - y.f0.length) = t3 (12 - y.f0.length) * wh 0 y.f1 := Int.mul_comm _ _
    generalize hP : t3 (12 - y.f0.length) * wh 0 y.f1 = P at hprod hcomm
    have w1 : wrap64 (x + wrap64 P) = x + P := by unfold wrap64; omega
    obtain ⟨A, q1, q2⟩ := ih (p ++ [y]) (x + P) (by rw [← hp]; simp) (by rw [List.length_append, List.length_singleton]; omega)
    rw [List.length_append, List.length_singleton] at q1 q2
    refine ⟨A, Ev.step (fun k => rfl) ?_, Ev.step (fun k => rfl) ?_⟩
    · simp only [spec_MeanOf.l0]
      rw [hy]
      refine Ev.pos (by omega) (Ev.pos (by omega) (Ev.neg c ?_))
      have := weight_ev (N : Int) rows x (p.length : Int) (by omega) (by omega) (wh 0 y.f1) (by rw [hy]; exact ws) y.f0.length hn A (by rw [hP, w1, wnext p.length (by omega)]; exact q1) (12 - y.f0.length) 0 (by omega)
      exact this
    · simp only [impl_MeanOf.l1]
      rw [hy]
      have w2 : wrap64 (12 - (y.f0.length : Int)) = ((12 - y.f0.length : Nat) : Int) := by unfold wrap64; omega
      rw [w2, pw_rd 12 _ (by omega)]
      refine Ev.pos (by omega) (Ev.pos (by omega) (Ev.pos (by omega) (Ev.neg c (Ev.bind wi (Ev.pos (by omega) (Ev.pos (by rw [pw_len]; omega) ?_))))))
      rw [hcomm, w1, wnext p.length (by omega)]
      exact q2
theorem mean_ev (l : List S89) (hw : ∀ x ∈ l, Rg x) (hl : l.length ≤ 140737488355327) (n : Int) : ∃ A : Int × Int × Int, Ev (fun k => spec_MeanOf.f k l n) A ∧ Ev (fun k => impl_MeanOf.f k l n) A := by
  obtain ⟨⟨rows, code⟩, ts, ti, ho, hn⟩ := tab_ev l hw hl n
  unfold spec_MeanOf.f impl_MeanOf.f
  by_cases c : code = 0
  · obtain ⟨n0, n1⟩ := hn c
    obtain ⟨N, rfl⟩ : ∃ N : Nat, n = (N : Int) := ⟨n.toNat, by omega⟩
    obtain ⟨A, s, i⟩ := mean_loops N (by omega) rows ho rows [] 0 rfl (by simp)
    exact ⟨A, Ev.bind ts (Ev.pos c s), Ev.bind ti (Ev.pos c (pows_ev (N : Int) rows A i 12 0 rfl))⟩
  · exact ⟨(0, 0, code), Ev.bind ts (Ev.neg c (Ev.now _)), Ev.bind ti (Ev.neg c (Ev.now _))⟩
end Go.Proofs.Ytpfnohdnaocpdaa.Pure

/- What the laws draw: machines and streams. Plain Lean over the printed functions. -/
import Derived.Test.YtififhihgkbafaaPMx6
import Derived.Test.YtififhihgkbafaaPMx7
import Derived.Test.YtififhihgkbafaaPMx5
import Derived.Test.YtififhihgkbafaaPureMach
namespace Go.Proofs.Ytififhihgkbafaa.Pure
open Go.RowKit Go.Proofs.Ytififhihgkbafaa.PM Go.Proofs.YtififhihgkbafaaW.PrintWords Go.Proofs.YtififhihgkbafaaW.PrintLast Go.Proofs.YtififhihgkbafaaW.PrintMore Go.Proofs.YtififhihgkbafaaRP
set_option linter.unusedVariables false
set_option linter.unusedSimpArgs false
theorem Ev.to {α : Type} {g : Nat → Option α} {r r' : α} (h : Ev g r) (e : r = r') : Ev g r' := e ▸ h
set_option maxRecDepth 100000 in
theorem and255 (x : Int) : 0 ≤ Go.bits .and .u64 x 255 ∧ Go.bits .and .u64 x 255 ≤ 255 := by
  have h : (BitVec.ofInt 64 x &&& BitVec.ofInt 64 255).toNat ≤ 255 := by
    rw [BitVec.toNat_and]
    exact Nat.le_trans Nat.and_le_right (by decide)
  have hw : ∀ n : Nat, n < 256 → IntKind.u64.wrap (n : Int) = n := by decide
  have e : Go.bits .and .u64 x 255 = IntKind.u64.wrap (((BitVec.ofInt 64 x &&& BitVec.ofInt 64 255).toNat : Nat) : Int) := rfl
  rw [e, hw _ (by omega)]
  omega
def Bytes (s : List Int) : Prop := ∀ x ∈ s, 0 ≤ x ∧ x ≤ 255
theorem rd_byte {s : List Int} (hs : Bytes s) {i : Int} (h0 : 0 ≤ i) (h1 : i < s.length) : 0 ≤ rd s i ∧ rd s i ≤ 255 := by
  have hi : i.toNat < s.length := by omega
  rw [show rd s i = s[i.toNat] from by simp [rd, List.getD, hi]]
  exact hs _ (List.getElem_mem hi)
theorem next_some {s : List Int} (hs : Bytes s) {a : Int} (a0 : 0 ≤ a) (a1 : a ≤ 1000000) (d : Int) : ∃ v d', spec_l00Src_next.f s a d = some (v, a + 1, d') ∧ 0 ≤ v ∧ v ≤ 255 := by
  have hw : wrap64 (a + 1) = a + 1 := wrap_id (by omega) (by omega)
  unfold spec_l00Src_next.f
  rw [hw]
  by_cases c : a < (s.length : Int)
  · have hb := rd_byte hs a0 c
    have hw2 : wrap64 (rd s a) = rd s a := wrap_id (by omega) (by omega)
    rw [if_pos c, if_pos a0, if_pos (by omega)]
    exact ⟨_, _, rfl, by rw [hw2]; exact hb.1, by rw [hw2]; exact hb.2⟩
  · rw [if_neg c, if_neg (by omega)]
    refine ⟨_, _, rfl, ?_⟩
    generalize hz : Go.bits .and .u64 _ 255 = z
    have hb := hz ▸ and255 _
    rw [wrap_id (by omega) (by omega)]
    exact hb
theorem pick_some {s : List Int} (hs : Bytes s) {a : Int} (a0 : 0 ≤ a) (a1 : a ≤ 1000000) (d : Int) (n : Int) (hn : 2 ≤ n) (hn2 : n ≤ 200) : ∃ v d', spec_l00Src_pick.f s a d n = some (v, a + 1, d') ∧ 0 ≤ v ∧ v < n := by
  obtain ⟨v, d', e, v0, v1⟩ := next_some hs a0 a1 d
  unfold spec_l00Src_pick.f
  rw [if_neg (by omega), e]
  simp only [Option.bind_some]
  rw [if_neg (by omega), if_neg (by omega), tmod_nn v0]
  exact ⟨_, _, rfl, Int.emod_nonneg _ (by omega), Int.emod_lt_of_pos _ (by omega)⟩
theorem size_some {a : Int} (h0 : -1000 ≤ a) (h1 : a ≤ 1000) : ∃ v, spec_l03Size.f a = some v ∧ 0 ≤ v ∧ v ≤ 1000 ∧ a ≤ v ∧ -a ≤ v ∧ (v = a ∨ v = -a) := by
  unfold spec_l03Size.f
  by_cases c : a < 0
  · rw [if_pos c, wrap_id (by omega) (by omega)]
    exact ⟨_, rfl, by omega, by omega, by omega, by omega, .inr rfl⟩
  · rw [if_neg c]
    exact ⟨_, rfl, by omega, by omega, by omega, by omega, .inl rfl⟩
/-- A machine that is drawn. -/
def Drawn4 (m : M4) : Prop := (-4 ≤ m.a ∧ m.a ≤ 4) ∧ (-4 ≤ m.b ∧ m.b ≤ 4) ∧ (-2 ≤ m.c ∧ m.c ≤ 2) ∧ (m.c < m.d ∧ -m.c < m.d ∧ m.d ≤ 20)
theorem drawn_some {s : List Int} (hs : Bytes s) : ∃ (m : M4) (a d : Int), spec_l03MachineDrawn.f s 0 0 = some (m.a, m.b, m.c, m.d, a, d) ∧ Drawn4 m := by
  obtain ⟨x, dx, ex, x0, x1⟩ := pick_some hs (a := 0) (by omega) (by omega) 0 9 (by omega) (by omega)
  obtain ⟨y, dy, ey, y0, y1⟩ := pick_some hs (a := 0 + 1) (by omega) (by omega) dx 9 (by omega) (by omega)
  obtain ⟨z, dz, ez, z0, z1⟩ := pick_some hs (a := 0 + 1 + 1) (by omega) (by omega) dy 5 (by omega) (by omega)
  obtain ⟨u, du, eu, u0, u1⟩ := pick_some hs (a := 0 + 1 + 1 + 1) (by omega) (by omega) dz 5 (by omega) (by omega)
  obtain ⟨o, d_o, eo, o0, o1⟩ := pick_some hs (a := 0 + 1 + 1 + 1 + 1) (by omega) (by omega) du 2 (by omega) (by omega)
  have w1 : wrap64 (x - 4) = x - 4 := wrap_id (by omega) (by omega)
  have w2 : wrap64 (y - 4) = y - 4 := wrap_id (by omega) (by omega)
  have w3 : wrap64 (z - 2) = z - 2 := wrap_id (by omega) (by omega)
  obtain ⟨t, et, t0, _, t1, t2, t3⟩ := size_some (a := z - 2) (by omega) (by omega)
  obtain ⟨p, ep, p0, _, p1, p2, p3⟩ := size_some (a := x - 4) (by omega) (by omega)
  obtain ⟨q, eq, q0, _, q1, q2, q3⟩ := size_some (a := y - 4) (by omega) (by omega)
  have w4 : wrap64 (wrap64 (t + 1) + u) = t + 1 + u := by unfold wrap64; omega
  have w5 : wrap64 (t + 1 + u + wrap64 (p + q)) = t + 1 + u + (p + q) := by unfold wrap64; omega
  unfold spec_l03MachineDrawn.f spec_l00Src_one.f
  simp only [ex, ey, ez, eu, eo, Option.bind_some, w1, w2, w3, et, ep, eq, w4, w5]
  cases o == 0 with
  | true => exact ⟨⟨x - 4, y - 4, z - 2, t + 1 + u + (p + q)⟩, _, _, rfl, ⟨by dsimp only; omega, by dsimp only; omega⟩, ⟨by dsimp only; omega, by dsimp only; omega⟩, ⟨by dsimp only; omega, by dsimp only; omega⟩, by dsimp only; omega, by dsimp only; omega, by dsimp only; omega⟩
  | false => exact ⟨⟨x - 4, y - 4, z - 2, t + 1 + u⟩, _, _, rfl, ⟨by dsimp only; omega, by dsimp only; omega⟩, ⟨by dsimp only; omega, by dsimp only; omega⟩, ⟨by dsimp only; omega, by dsimp only; omega⟩, by dsimp only; omega, by dsimp only; omega, by dsimp only; omega⟩
theorem drawn_ok {m : M4} (h : Drawn4 m) : okM m = true := by
  obtain ⟨⟨a0, a1⟩, ⟨b0, b1⟩, ⟨c0, c1⟩, d0, d1, d2⟩ := h
  exact okM_iff.2 ⟨⟨⟨by omega, by omega⟩, ⟨by omega, by omega⟩, ⟨by omega, by omega⟩, ⟨by omega, by omega⟩⟩, d0, d1⟩
/-- The machine that is drawn is valid, and its values lie from -1 to 1. -/
theorem machine_ev {s : List Int} (hs : Bytes s) : ∃ m : M4, Ev (fun k => spec_A2Machine.f k s) (m.a, m.b, m.c, m.d) ∧ okM m = true ∧ inOne m = true := by
  obtain ⟨m, a, d, e, hm⟩ := drawn_some hs
  have ok := drawn_ok hm
  obtain ⟨hb, hu⟩ := okM_iff.1 ok
  obtain ⟨a', b', c', d', he, hbd, hiff⟩ := image_ev hb hu
  obtain ⟨⟨a0, a1⟩, ⟨b0, b1⟩, ⟨c0, c1⟩, d0, d1, d2⟩ := hm
  obtain ⟨p, ep, p0, _, p1, p2, p3⟩ := size_some (a := m.a) (by omega) (by omega)
  obtain ⟨q, eq, q0, _, q1, q2, q3⟩ := size_some (a := m.b) (by omega) (by omega)
  have w5 : wrap64 (m.d + wrap64 (p + q)) = m.d + (p + q) := by unfold wrap64; omega
  have big : okM ⟨m.a, m.b, m.c, m.d + (p + q)⟩ = true ∧ inOne ⟨m.a, m.b, m.c, m.d + (p + q)⟩ = true := by
    refine ⟨okM_iff.2 ⟨⟨⟨by dsimp only; omega, by dsimp only; omega⟩, ⟨by dsimp only; omega, by dsimp only; omega⟩, ⟨by dsimp only; omega, by dsimp only; omega⟩, ⟨by dsimp only; omega, by dsimp only; omega⟩⟩, by dsimp only; omega, by dsimp only; omega⟩, ?_⟩
    unfold inOne
    simp only [Bool.and_eq_true, decide_eq_true_eq]
    refine ⟨by omega, by omega, by omega, by omega⟩
  have jt : Ev (fun k => spec_A2Machine.j0 k true m.a m.b m.c m.d) (m.a, m.b, m.c, m.d + (p + q)) := by
    refine Ev.step (fun k => rfl) ?_
    simp only [spec_A2Machine.j0]
    refine Ev.pos (by first | rfl | trivial) ?_
    simp only [ep, eq, Option.bind_some, w5]
    exact Ev.now _
  have jf : Ev (fun k => spec_A2Machine.j0 k false m.a m.b m.c m.d) (m.a, m.b, m.c, m.d) := by
    refine Ev.step (fun k => rfl) ?_
    simp only [spec_A2Machine.j0]
    exact Ev.neg (by decide) (Ev.now _)
  have wn : wrap64 (-b') = -b' := wrap_id (by have := hbd.2; omega) (by have := hbd.1; omega)
  unfold spec_A2Machine.f spec_l00From.f
  simp only [Option.bind_some, e]
  by_cases h1 : a' < -b'
  · exact ⟨⟨m.a, m.b, m.c, m.d + (p + q)⟩, Ev.bind he (Ev.pos (by dsimp only; rw [wn]; exact h1) jt), big.1, big.2⟩
  by_cases h2 : c' > d'
  · refine ⟨⟨m.a, m.b, m.c, m.d + (p + q)⟩, Ev.bind he (Ev.neg (by dsimp only; rw [wn]; exact h1) ?_), big.1, big.2⟩
    rw [decide_eq_true h2]
    exact jt
  · refine ⟨m, Ev.bind he (Ev.neg (by dsimp only; rw [wn]; exact h1) ?_), ok, ?_⟩
    · rw [decide_eq_false h2]
      exact jf
    · cases hi : inOne m with
      | true => rfl
      | false =>
        rcases hiff.2 hi with h | h
        · exact absurd h h1
        · exact absurd h h2
theorem list_loop {s : List Int} (hs : Bytes s) (n : Nat) (hn : n ≤ 100) : ∀ (out : List Int) (a d : Int), out.length + n ≤ 100 → out.all digB = true → 0 ≤ a → a ≤ 1000 - n → ∃ (r : List Int) (d' : Int), Ev (fun k => spec_l03List.l0 k out (n : Int) s a d) (r, a + n, d') ∧ r.length = out.length + n ∧ r.all digB = true := by
  induction n with
  | zero =>
    intro out a d hl hd a0 a1
    refine ⟨out, d, Ev.step (fun k => rfl) ?_, rfl, hd⟩
    simp only [spec_l03List.l0]
    exact Ev.neg (by decide) (Ev.to (Ev.now _) (by simp))
  | succ n ih =>
    intro out a d hl hd a0 a1
    obtain ⟨v, d1, e, v0, v1⟩ := pick_some hs (a := a) (by omega) (by omega) d 3 (by omega) (by omega)
    have hv : IntKind.i8.wrap (wrap64 (v - 1)) = v - 1 := by rw [wrap_id (by omega) (by omega)]; exact i8_dig ⟨by omega, by omega⟩
    obtain ⟨r, d', q1, q2, q3⟩ := ih (by omega) (out ++ [v - 1]) (a + 1) d1 (by simp; omega) (by
      rw [List.all_append, hd]
      simp [digB]
      omega) (by omega) (by omega)
    refine ⟨r, d', Ev.step (fun k => rfl) ?_, by rw [q2]; simp; omega, q3⟩
    simp only [spec_l03List.l0]
    refine Ev.pos (by omega) ?_
    simp only [e, Option.bind_some, hv]
    refine Ev.pos (by omega) ?_
    rw [show wrap64 (((n + 1 : Nat) : Int) - 1) = (n : Int) from by unfold wrap64; omega, show a + ((n + 1 : Nat) : Int) = a + 1 + (n : Int) from by omega]
    exact q1
theorem list_ev {s : List Int} (hs : Bytes s) (lo hi : Int) (h0 : 0 ≤ lo) (h1 : lo < hi) (h2 : hi ≤ 50) (a d : Int) (a0 : 0 ≤ a) (a1 : a ≤ 800) : ∃ (r : List Int) (a' d' : Int), Ev (fun k => spec_l03List.f k s a d lo hi) (r, a', d') ∧ lo ≤ (r.length : Int) ∧ (r.length : Int) ≤ hi ∧ r.all digB = true ∧ 0 ≤ a' ∧ a' ≤ a + 60 := by
  have w : wrap64 (wrap64 (hi - lo) + 1) = hi - lo + 1 := by unfold wrap64; omega
  obtain ⟨v, d1, e, v0, v1⟩ := pick_some hs (a := a) (by omega) (by omega) d (hi - lo + 1) (by omega) (by omega)
  obtain ⟨N, hN⟩ : ∃ N : Nat, lo + v = (N : Int) := ⟨(lo + v).toNat, by omega⟩
  have w2 : wrap64 (lo + v) = (N : Int) := by rw [← hN]; exact wrap_id (by omega) (by omega)
  obtain ⟨r, d', q1, q2, q3⟩ := list_loop hs N (by omega) [] (a + 1) d1 (by simp; omega) rfl (by omega) (by omega)
  refine ⟨r, a + 1 + N, d', ?_, by rw [q2]; simp; omega, by rw [q2]; simp; omega, q3, by omega, by omega⟩
  unfold spec_l03List.f
  simp only [w, e, Option.bind_some, w2]
  exact q1
/-- The stream that is drawn is valid. -/
theorem stream_ev {s : List Int} (hs : Bytes s) : ∃ h l : List Int, Ev (fun k => spec_A2Stream.f k s) (h, l) ∧ okS h l = true := by
  obtain ⟨h, a, d, e1, x0, x1, x2, x3, x4⟩ := list_ev hs 0 5 (by omega) (by omega) (by omega) 0 0 (by omega) (by omega)
  obtain ⟨l, a', d', e2, y0, y1, y2, y3, y4⟩ := list_ev hs 1 4 (by omega) (by omega) (by omega) a d (by omega) (by omega)
  refine ⟨h, l, ?_, okS_iff.2 ⟨by omega, by omega, by omega, x2, y2⟩⟩
  unfold spec_A2Stream.f spec_l00From.f spec_l03Drawn.f
  simp only [Option.bind_some]
  exact Ev.bind (Ev.bind e1 (Ev.bind e2 (Ev.now _))) (Ev.now _)
theorem at_some {s : List Int} (hs : Bytes s) : ∃ n : Nat, laws_a2At.f s 0 12 = some (n : Int) ∧ n ≤ 11 := by
  unfold laws_a2At.f
  by_cases c : (0 : Int) ≥ (s.length : Int)
  · rw [if_pos c]
    exact ⟨0, rfl, by omega⟩
  · have hb := rd_byte hs (Int.le_refl 0) (by omega)
    rw [if_neg c, if_neg (by decide), if_pos (by decide), if_pos (by omega), if_neg (by decide), wrap_id (by omega) (by omega), tmod_nn hb.1]
    exact ⟨(rd s 0 % 12).toNat, by rw [Int.toNat_of_nonneg (Int.emod_nonneg _ (by omega))], by have := Int.emod_lt_of_pos (rd s 0) (show (0 : Int) < 12 by omega); omega⟩
theorem long_some (s t : List Int) : ∃ b, laws_a2Long.f s t = some b := by
  unfold laws_a2Long.f
  split <;> exact ⟨_, rfl⟩
end Go.Proofs.Ytififhihgkbafaa.Pure

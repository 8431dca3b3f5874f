/- What the laws mark in trees. Plain Lean over the printed functions. -/
import Derived.Test.YtpfnohdnaocpdaaPTx3
import Derived.Test.YtpfnohdnaocpdaaPureTreeLaw
namespace Go.Proofs.Ytpfnohdnaocpdaa.Pure
open Go.RowKit Go.Proofs.Ytpfnohdnaocpdaa.PT Go.Proofs.YtpfnohdnaocpdaaW.PrintWords Go.Proofs.YtpfnohdnaocpdaaW.PrintLast Go.Proofs.YtpfnohdnaocpdaaW.PrintMore Go.Proofs.YtpfnohdnaocpdaaRP
set_option linter.unusedVariables false
set_option linter.unusedSimpArgs false
theorem markForkS_loop (n : Nat) : ∀ (x : List S89) (i : Nat) (a : Int), x.length ≤ 140737488355327 → i + n = x.length → 0 ≤ a → a + 5 * n ≤ 9000000000000000000 → ∃ y : List S89, y.length = x.length ∧ Ev (fun k => laws_markForkS.l0 k x a (i : Int)) (a + 5 * n, y) := by
  induction n with
  | zero =>
    intro x i a hx hi h0 h1
    refine ⟨x, rfl, Ev.step (fun k => rfl) ?_⟩
    simp only [laws_markForkS.l0]
    exact Ev.neg (by omega) (Ev.to (Ev.now _) (by simp))
  | succ n ih =>
    intro x i a hx hi h0 h1
    have e0 : wrap64 ((0 : Int) + 1) = 1 := by unfold wrap64; omega
    have e1 : wrap64 ((1 : Int) + 1) = 2 := by unfold wrap64; omega
    have e2 : wrap64 ((2 : Int) + 1) = 3 := by unfold wrap64; omega
    have w : ∀ b : Int, 0 ≤ b → b ≤ 9000000000000000000 → wrap64 (b + 1) = b + 1 := by intro b h h'; unfold wrap64; omega
    have hl : ∀ y : List S89, y.length = x.length → ∃ z : List S89, z.length = x.length ∧ Ev (fun k => laws_markForkS.l1 k y (a + 1 + 1) (i : Int) 0) (a + 5 * (n + 1 : Nat), z) := by
      intro y hy
      have hz : ∀ y3 : List S89, y3.length = x.length → ∃ z : List S89, z.length = x.length ∧ Ev (fun k => laws_markForkS.l0 k y3 (a + 1 + 1 + 1 + 1 + 1) (wrap64 ((i : Int) + 1))) (a + 5 * (n + 1 : Nat), z) := by
        intro y3 hy3
        obtain ⟨z, hz, e⟩ := ih y3 (i + 1) (a + 1 + 1 + 1 + 1 + 1) (by omega) (by omega) (by omega) (by omega)
        refine ⟨z, by omega, ?_⟩
        rw [wnext i (by omega)]
        refine Ev.to e ?_
        rw [show a + 1 + 1 + 1 + 1 + 1 + 5 * (n : Int) = a + 5 * ((n + 1 : Nat) : Int) from by omega]
      have go : ∀ (j : Nat) (y : List S89) (b : Int), j ≤ 3 → y.length = x.length → b = a + 2 + j → ∃ z : List S89, z.length = x.length ∧ Ev (fun k => laws_markForkS.l1 k y b (i : Int) (j : Int)) (a + 5 * (n + 1 : Nat), z) := by
        intro j
        induction h3 : 3 - j generalizing j with
        | zero =>
          intro y b hj hy hb
          obtain rfl : j = 3 := by omega
          obtain ⟨z, hz', e⟩ := hz y hy
          refine ⟨z, hz', Ev.step (fun k => rfl) ?_⟩
          refine Ev.neg (by decide) ?_
          rw [show b = a + 1 + 1 + 1 + 1 + 1 from by omega]
          exact e
        | succ m ihm =>
          intro y b hj hy hb
          obtain ⟨z, hz', e⟩ := ihm (j + 1) (by omega) (y.set (i : Int).toNat ⟨(rd_T89 y (i : Int)).f0, (rd_T89 y (i : Int)).f1, ⟨up 0 (j : Int) (IntKind.i16.wrap b) ((rd_T89 y (i : Int)).f2.f0), up 1 (j : Int) (IntKind.i16.wrap b) ((rd_T89 y (i : Int)).f2.f1), up 2 (j : Int) (IntKind.i16.wrap b) ((rd_T89 y (i : Int)).f2.f2)⟩⟩) (b + 1) (by omega) (by simpa using hy) (by omega)
          refine ⟨z, hz', Ev.step (fun k => rfl) ?_⟩
          refine Ev.pos (by omega) (Ev.pos (by omega) (Ev.pos (by omega) (Ev.pos (by omega) ?_)))
          rw [w b (by omega) (by omega), wnext j (by omega)]
          exact e
      exact go 0 y (a + 1 + 1) (by omega) hy (by omega)
    obtain ⟨z, hz, e⟩ := hl ((x.set (i : Int).toNat ⟨IntKind.i8.wrap a, (rd_T89 x (i : Int)).f1, ⟨(rd_T89 x (i : Int)).f2.f0, (rd_T89 x (i : Int)).f2.f1, (rd_T89 x (i : Int)).f2.f2⟩⟩).set (i : Int).toNat ⟨(rd_T89 (x.set (i : Int).toNat ⟨IntKind.i8.wrap a, (rd_T89 x (i : Int)).f1, ⟨(rd_T89 x (i : Int)).f2.f0, (rd_T89 x (i : Int)).f2.f1, (rd_T89 x (i : Int)).f2.f2⟩⟩) (i : Int)).f0, IntKind.i8.wrap (a + 1), ⟨(rd_T89 (x.set (i : Int).toNat ⟨IntKind.i8.wrap a, (rd_T89 x (i : Int)).f1, ⟨(rd_T89 x (i : Int)).f2.f0, (rd_T89 x (i : Int)).f2.f1, (rd_T89 x (i : Int)).f2.f2⟩⟩) (i : Int)).f2.f0, (rd_T89 (x.set (i : Int).toNat ⟨IntKind.i8.wrap a, (rd_T89 x (i : Int)).f1, ⟨(rd_T89 x (i : Int)).f2.f0, (rd_T89 x (i : Int)).f2.f1, (rd_T89 x (i : Int)).f2.f2⟩⟩) (i : Int)).f2.f1, (rd_T89 (x.set (i : Int).toNat ⟨IntKind.i8.wrap a, (rd_T89 x (i : Int)).f1, ⟨(rd_T89 x (i : Int)).f2.f0, (rd_T89 x (i : Int)).f2.f1, (rd_T89 x (i : Int)).f2.f2⟩⟩) (i : Int)).f2.f2⟩⟩) (by simp)
    refine ⟨z, hz, Ev.step (fun k => rfl) ?_⟩
    simp only [laws_markForkS.l0, Option.bind_some]
    refine Ev.pos (by omega) (Ev.pos (by omega) ?_)
    rw [w a h0 (by omega), w (a + 1) (by omega) (by omega)]
    exact e
theorem markTree_ev (x : List S89) (hx : x.length ≤ 140737488355327) : ∃ y : List S89, Ev (fun k => laws_markTree.f k x 1) (1 + 5 * x.length, y) := by
  obtain ⟨y, _, e⟩ := markForkS_loop x.length x 0 1 hx (by omega) (by omega) (by omega)
  exact ⟨y, Ev.bind e (Ev.now _)⟩
end Go.Proofs.Ytpfnohdnaocpdaa.Pure

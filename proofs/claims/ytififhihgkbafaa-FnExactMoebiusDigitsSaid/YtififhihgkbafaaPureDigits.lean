/- MoebiusDigits: the program's answer is the reference's.
   For every machine, stream and number that can be read. -/
import Derived.Test.YtififhihgkbafaaPMx11
import Derived.Test.YtififhihgkbafaaPureMach
namespace Go.Proofs.Ytififhihgkbafaa.Pure
open Go.RowKit Go.Proofs.Ytififhihgkbafaa.PM Go.Proofs.YtififhihgkbafaaW.PrintWords Go.Proofs.YtififhihgkbafaaW.PrintLast Go.Proofs.YtififhihgkbafaaW.PrintMore
set_option linter.unusedVariables false
set_option linter.unusedSimpArgs false
theorem heldInt8S_loop (n : Nat) : ∀ (d : List Int) (a : Int), d.length + n ≤ 140737488355327 → 0 ≤ a → a + n ≤ 9223372036854775807 → Ev (fun k => laws_heldInt8S.l0 k (d ++ mks8 n a) a (d.length : Int)) (a + n) := by
  induction n with
  | zero =>
    intro d a h h0 h1
    simp only [mks8]
    refine Ev.step (fun k => rfl) (Ev.neg (by simp) ?_)
    rw [show a + ((0 : Nat) : Int) = a from by omega]
    exact Ev.now _
  | succ n ih =>
    intro d a h h0 h1
    have hq := ih (d ++ [IntKind.i8.wrap a]) (a + 1) (by simp; omega) (by omega) (by omega)
    simp only [mks8]
    refine Ev.step (fun k => rfl) (Ev.pos (by simp; omega) (Ev.pos (by omega) (Ev.pos (by rw [rd_mid]) ?_)))
    rw [wrap_id (i := a + 1) (by omega) (by omega), wnext d.length (by omega)]
    simp only [List.length_append, List.length_cons, List.length_nil, List.append_assoc, List.cons_append, List.nil_append, Nat.zero_add] at hq
    rw [show a + ((n + 1 : Nat) : Int) = a + 1 + (n : Int) from by omega]
    exact hq
theorem heldInt8S_ev (n : Nat) (h : n ≤ 140737488355327) : Ev (fun k => laws_heldInt8S.f k (mks8 n 1) 1) (1 + n) := heldInt8S_loop n [] 1 (by simpa using h) (by omega) (by omega)
/-! ### the digits that are told -/
def digsOf (l : List S51) : List Int := (l.filter fun x => x.f0).map fun x => x.f1
theorem digsOf_len (l : List S51) : (digsOf l).length ≤ l.length := by
  unfold digsOf; rw [List.length_map]; exact List.length_filter_le _ _
theorem idigs_loop (T : List S51) (hT : T.length ≤ 461) (r : List S51) : ∀ (d : List S51) (out : List Int), d ++ r = T → out = digsOf d → Ev (fun k => impl_MoebiusDigits.l0 k T out T (T.length : Int) (d.length : Int)) (digsOf T, (T.length : Int) - ((digsOf T).length : Int), 0) := by
  have hl := digsOf_len T
  induction r with
  | nil =>
    intro d out hd ho
    rw [List.append_nil] at hd
    subst hd ho
    refine Ev.step (fun k => rfl) (Ev.neg (by omega) ?_)
    rw [wrap_id (by omega) (by omega)]
    exact Ev.now _
  | cons x r ih =>
    intro d out hd ho
    have hln : d.length < T.length := by rw [← hd]; simp
    have hr : rd_T51 T (d.length : Int) = x := by rw [← hd, rd51_mid]
    have hol : out.length ≤ T.length := by rw [ho]; exact Nat.le_trans (digsOf_len d) (by omega)
    have hq := ih (d ++ [x]) (digsOf (d ++ [x])) (by rw [← hd]; simp) rfl
    refine Ev.step (fun k => rfl) (Ev.pos (by omega) (Ev.pos (by omega) (Ev.pos (by omega) ?_)))
    rw [hr, wnext d.length (by omega)]
    rw [List.length_append, List.length_singleton] at hq
    cases hx : x.f0 with
    | true =>
      refine Ev.pos rfl (Ev.pos (by omega) ?_)
      rw [ho, show digsOf d ++ [x.f1] = digsOf (d ++ [x]) from by simp [digsOf, hx]]
      exact hq
    | false =>
      refine Ev.neg (by decide) ?_
      rw [ho, show digsOf d = digsOf (d ++ [x]) from by simp [digsOf, hx]]
      exact hq
theorem sdigs_loop (T : List S51) (hT : T.length ≤ 461) (r : List S51) : ∀ (d : List S51) (out : List Int), d ++ r = T → out = digsOf d → Ev (fun k => spec_MoebiusDigits.l0 k T out (d.length : Int)) (digsOf T, (T.length : Int) - ((digsOf T).length : Int), 0) := by
  have hl := digsOf_len T
  induction r with
  | nil =>
    intro d out hd ho
    rw [List.append_nil] at hd
    subst hd ho
    refine Ev.step (fun k => rfl) (Ev.neg (by omega) ?_)
    rw [wrap_id (by omega) (by omega)]
    exact Ev.now _
  | cons x r ih =>
    intro d out hd ho
    have hln : d.length < T.length := by rw [← hd]; simp
    have hr : rd_T51 T (d.length : Int) = x := by rw [← hd, rd51_mid]
    have hol : out.length ≤ T.length := by rw [ho]; exact Nat.le_trans (digsOf_len d) (by omega)
    have hq := ih (d ++ [x]) (digsOf (d ++ [x])) (by rw [← hd]; simp) rfl
    refine Ev.step (fun k => rfl) (Ev.pos (by omega) (Ev.pos (by omega) ?_))
    rw [hr, wnext d.length (by omega)]
    rw [List.length_append, List.length_singleton] at hq
    cases hx : x.f0 with
    | true =>
      refine Ev.pos rfl (Ev.pos (by omega) ?_)
      rw [ho, show digsOf d ++ [x.f1] = digsOf (d ++ [x]) from by simp [digsOf, hx]]
      exact hq
    | false =>
      refine Ev.neg (by decide) ?_
      rw [ho, show digsOf d = digsOf (d ++ [x]) from by simp [digsOf, hx]]
      exact hq
def digitsOf (m : M4) (h l : List Int) (n : Int) : List Int × Int × Int :=
  if (turnsOf m h l n).2 = 0 then (digsOf (turnsOf m h l n).1, ((turnsOf m h l n).1.length : Int) - ((digsOf (turnsOf m h l n).1).length : Int), 0) else ([], 0, (turnsOf m h l n).2)
theorem idigits_ev (m : M4) (h l : List Int) (n : Int) : Ev (fun k => impl_MoebiusDigits.f k m.a m.b m.c m.d h l n) (digitsOf m h l n) := by
  unfold impl_MoebiusDigits.f digitsOf
  refine Ev.bind (irun_ev m h l n) ?_
  have ln := turnsOf_len m h l n
  generalize turnsOf m h l n = T at ln ⊢
  by_cases c : T.2 = 0
  · rw [if_pos c]
    exact Ev.pos c (idigs_loop T.1 ln T.1 [] [] rfl rfl)
  · rw [if_neg c]
    exact Ev.neg c (Ev.now _)
theorem sdigits'_ev (m : M4) (h l : List Int) (n : Int) (hh : h.length ≤ 140737488355327) (hl : l.length ≤ 140737488355327) : Ev (fun k => spec_MoebiusDigits.f k m.a m.b m.c m.d h l n) (digitsOf m h l n) := by
  unfold spec_MoebiusDigits.f
  refine Ev.bind (sasked_ev m h l n hh hl) ?_
  by_cases c1 : okM m = true ∧ okS h l = true
  · by_cases c2 : inI n 0 60 = true
    · by_cases c3 : inOne m = true
      · rw [if_pos c1, if_pos c2, if_pos c3]
        refine Ev.pos rfl (Ev.bind (srun_ev c1.1 c1.2 c2 c3) ?_)
        unfold digitsOf
        have ln := turnsOf_len m h l n
        generalize turnsOf m h l n = T at ln ⊢
        by_cases c : T.2 = 0
        · rw [if_pos c]
          exact Ev.pos c (sdigs_loop T.1 ln T.1 [] [] rfl rfl)
        · rw [if_neg c]
          exact Ev.neg c (Ev.now _)
      · have e : turnsOf m h l n = ([], 4) := by unfold turnsOf; rw [if_pos c1, if_pos c2, if_neg c3]
        unfold digitsOf; rw [e, if_pos c1, if_pos c2, if_neg c3]
        exact Ev.neg (by decide) (Ev.now _)
    · have e : turnsOf m h l n = ([], 2) := by unfold turnsOf; rw [if_pos c1, if_neg c2]
      unfold digitsOf; rw [e, if_pos c1, if_neg c2]
      exact Ev.neg (by decide) (Ev.now _)
  · have e : turnsOf m h l n = ([], 1) := by unfold turnsOf; rw [if_neg c1]
    unfold digitsOf; rw [e, if_neg c1]
    exact Ev.neg (by decide) (Ev.now _)
theorem digitsOf_len (m : M4) (h l : List Int) (n : Int) : (digitsOf m h l n).1.length ≤ 461 := by
  unfold digitsOf
  split
  · exact Nat.le_trans (digsOf_len _) (turnsOf_len m h l n)
  · simp

/-- What the law about digits needs. -/
theorem FnExactMoebiusDigits (x : S23) (s : S26) (n : Int) (gx : G23 x) (gs : G26 s) (gn : (Lit.int .i64 n).wf = true) : ∃ k, laws_FnExactMoebiusDigits.f k x.f0 x.f1 x.f2 x.f3 s.f0 s.f1 n = some true := by
  have hh : s.f0.length ≤ 140737488355327 := by have := gs.1.2; omega
  have hl : s.f1.length ≤ 140737488355327 := by have := gs.2.2; omega
  refine Ev.rounds (g := fun k => laws_FnExactMoebiusDigits.f k x.f0 x.f1 x.f2 x.f3 s.f0 s.f1 n) ?_
  obtain ⟨r, hr⟩ := sz_some s.f0 s.f1 1048576
  unfold laws_FnExactMoebiusDigits.f
  simp only [hr, Option.bind_some]
  by_cases c : r < 0
  · exact Ev.pos c (Ev.now _)
  have tS := toStream_ev s.f0 s.f1 hh hl
  have sp := sdigits'_ev ⟨x.f0, x.f1, x.f2, x.f3⟩ s.f0 s.f1 n hh hl
  have im := idigits_ev ⟨x.f0, x.f1, x.f2, x.f3⟩ s.f0 s.f1 n
  have ln := digitsOf_len ⟨x.f0, x.f1, x.f2, x.f3⟩ s.f0 s.f1 n
  generalize digitsOf ⟨x.f0, x.f1, x.f2, x.f3⟩ s.f0 s.f1 n = T at sp im ln
  have eT := eqInt8S_ev T.1 (by omega)
  refine Ev.neg c ?_
  simp only [laws_toMoebius.f, Option.bind_some]
  refine Ev.bind tS (Ev.bind sp (Ev.bind tS (Ev.bind im (Ev.bind eT (Ev.pos (by first | rfl | trivial) (Ev.pos (by first | rfl | trivial) (Ev.step (fun k => rfl) ?_)))))))
  simp only [laws_FnExactMoebiusDigits.j0]
  refine Ev.neg (by simp) (Ev.bind tS (Ev.bind (eqStream_ev _ _ hh hl) (Ev.pos (by first | rfl | trivial) (Ev.bind (markStream_ev _ _ hh hl) (Ev.neg (by dsimp only; omega) (Ev.bind eT (Ev.pos (by first | rfl | trivial) (Ev.pos (by first | rfl | trivial) (Ev.step (fun k => rfl) ?_)))))))))
  simp only [laws_FnExactMoebiusDigits.j1, laws_toMoebius.f, Option.bind_some]
  refine Ev.neg (by simp) (Ev.bind (markInt8S_ev T.1 1 (by omega) (by omega) (by omega)) (Ev.bind (heldInt8S_ev T.1.length (by omega)) (Ev.neg (by omega) (Ev.pos (by first | rfl | trivial) (Ev.bind tS (Ev.bind im (Ev.bind eT (Ev.pos (by first | rfl | trivial) (Ev.pos (by first | rfl | trivial) (Ev.step (fun k => rfl) ?_))))))))))
  simp only [laws_FnExactMoebiusDigits.j2]
  exact Ev.neg (by simp) (Ev.bind (heldInt8S_ev T.1.length (by omega)) (Ev.neg (by omega) (Ev.pos (by first | rfl | trivial) (Ev.now _))))
end Go.Proofs.Ytififhihgkbafaa.Pure

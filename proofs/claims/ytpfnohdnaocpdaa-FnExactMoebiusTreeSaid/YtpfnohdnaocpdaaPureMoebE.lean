/- MoebiusTree: both answers, for all machines. Plain Lean. -/
import Derived.Test.YtpfnohdnaocpdaaPTx7
import Derived.Test.YtpfnohdnaocpdaaPureMoebC
namespace Go.Proofs.Ytpfnohdnaocpdaa.Pure
open Go.RowKit Go.Proofs.Ytpfnohdnaocpdaa.PT Go.Proofs.YtpfnohdnaocpdaaW.PrintWords Go.Proofs.YtpfnohdnaocpdaaW.PrintLast Go.Proofs.YtpfnohdnaocpdaaW.PrintMore Go.Proofs.YtpfnohdnaocpdaaRP
set_option linter.unusedVariables false
set_option linter.unusedSimpArgs false
theorem mtl_len : ∀ (k : Nat) (xs : List S60) (ns : List S89) (i : Nat) (over : Bool) (r : List S89 × Bool), ns.length ≤ 3601 → mtl k xs ns i over = some r → r.1.length ≤ 3601 := by
  intro k
  induction k with
  | zero => intro xs ns i over r _ h; exact absurd h (by simp [mtl])
  | succ k ih =>
    intro xs ns i over r hn h
    rw [mtl] at h
    by_cases c : i < xs.length ∧ over = false
    case neg => rw [if_neg c] at h; obtain rfl := Option.some.inj h; exact hn
    rw [if_pos c] at h
    by_cases c2 : xs.length ≤ 3600 ∧ ns.length ≤ 3600
    case neg => rw [if_neg c2] at h; exact absurd h (by simp)
    rw [if_pos c2] at h
    obtain ⟨t, _, h⟩ := Option.bind_eq_some_iff.mp h
    by_cases c3 : t.2 = true
    · rw [if_pos c3] at h
      obtain ⟨b, _, h⟩ := Option.bind_eq_some_iff.mp h
      obtain ⟨o, _, h⟩ := Option.bind_eq_some_iff.mp h
      exact ih _ _ _ _ _ (by rw [List.length_append, List.length_singleton]; omega) h
    · rw [if_neg c3] at h
      obtain ⟨b0, _, h⟩ := Option.bind_eq_some_iff.mp h
      obtain ⟨o0, _, h⟩ := Option.bind_eq_some_iff.mp h
      obtain ⟨b1, _, h⟩ := Option.bind_eq_some_iff.mp h
      obtain ⟨o1, _, h⟩ := Option.bind_eq_some_iff.mp h
      obtain ⟨b2, _, h⟩ := Option.bind_eq_some_iff.mp h
      obtain ⟨o2, _, h⟩ := Option.bind_eq_some_iff.mp h
      exact ih _ _ _ _ _ (by rw [List.length_append, List.length_singleton]; omega) h
theorem finM_len {r : List S89 × Bool} (h : r.1.length ≤ 3601) : (finM r).1.length ≤ 3601 := by
  unfold finM
  split
  · simp
  · exact h
theorem mtreeE (m : M4) : ∃ A : List S89 × Int, Ev (fun k => spec_MoebiusTree.f k m.a m.b m.c m.d) A ∧ Ev (fun k => impl_MoebiusTree.f k m.a m.b m.c m.d) A ∧ A.1.length ≤ 3601 := by
  have ha := sasked_ev m [] [0] 0 (by simp) (by simp)
  have hv := ivalid_ev m
  have hS : okS [] [0] = true := by decide
  have hI : inI 0 0 60 = true := by decide
  rw [hS, hI] at ha
  unfold spec_MoebiusTree.f impl_MoebiusTree.f
  by_cases ok : okM m = true
  case neg =>
    rw [if_neg (fun h => ok h.1)] at ha
    exact ⟨([], 1), Ev.bind ha (Ev.neg (by decide) (Ev.now _)), Ev.bind hv (Ev.neg ok (Ev.now _)), by simp⟩
  rw [if_pos ⟨ok, rfl⟩, if_pos rfl] at ha
  obtain ⟨hb6, hu⟩ := okM_iff.1 ok
  have hb : m.bd 288230376151711744 := by
    obtain ⟨⟨a0, a1⟩, ⟨b0, b1⟩, ⟨c0, c1⟩, ⟨d0, d1⟩⟩ := hb6
    exact ⟨⟨by omega, by omega⟩, ⟨by omega, by omega⟩, ⟨by omega, by omega⟩, ⟨by omega, by omega⟩⟩
  have hl := ilies_ev hb (-2) 2 (.inl rfl) (.inr ⟨rfl, rfl⟩)
  rw [lie_inOne] at hl
  by_cases on : inOne m = true
  case neg =>
    rw [if_neg on] at ha
    exact ⟨([], 4), Ev.bind ha (Ev.neg (by decide) (Ev.now _)), Ev.bind hv (Ev.pos ok (Ev.bind hl (Ev.neg on (Ev.now _)))), by simp⟩
  rw [if_pos on] at ha
  have hr := red_bd hb hu
  have hru := red_up hu
  have ir := ired_ev (M4.bd_sm hb (by decide)) hu
  have sr := sred_ev (M4.bd_sm hb (by decide)) hu
  generalize red m = B at hr hru ir sr
  have hB : B.bd 1000000000000000000 := by
    obtain ⟨⟨a0, a1⟩, ⟨b0, b1⟩, ⟨c0, c1⟩, ⟨d0, d1⟩⟩ := hr
    exact ⟨⟨by omega, by omega⟩, ⟨by omega, by omega⟩, ⟨by omega, by omega⟩, ⟨by omega, by omega⟩⟩
  obtain ⟨r, e1, e2⟩ := mtree_ev 60 0 [s4 B] [] (by simp) (by simp) rfl (fun p hp => by rw [List.mem_singleton.1 hp]; exact ⟨hr, hru⟩) rfl
  exact ⟨finM r, Ev.bind ha (Ev.pos rfl (Ev.bind sr e2)), Ev.bind hv (Ev.pos ok (Ev.bind hl (Ev.pos on (Ev.bind ir (Ev.pos (wfS_m hB) (Ev.bind e1 (Ev.now _))))))), by
    obtain ⟨k, hk⟩ := Ev.rounds e1
    exact finM_len (mtl_len k _ _ _ _ _ (by simp) hk)⟩
end Go.Proofs.Ytpfnohdnaocpdaa.Pure

/- TableOf: both answers. Plain Lean over the printed functions. -/
import Derived.Test.YtpfnohdnaocpdaaPTx2
import Derived.Test.YtpfnohdnaocpdaaPTx3
import Derived.Test.YtpfnohdnaocpdaaPureRowL
namespace Go.Proofs.Ytpfnohdnaocpdaa.Pure
open Go.RowKit Go.Proofs.Ytpfnohdnaocpdaa.PT Go.Proofs.YtpfnohdnaocpdaaW.PrintWords Go.Proofs.YtpfnohdnaocpdaaW.PrintLast Go.Proofs.YtpfnohdnaocpdaaW.PrintMore Go.Proofs.YtpfnohdnaocpdaaRP
set_option linter.unusedVariables false
set_option linter.unusedSimpArgs false
theorem dig_of {l : List S89} (hw : ∀ x ∈ l, Rg x) (hv : validT l = true) {a : Int} (a0 : 0 ≤ a) (a1 : a < l.length) (h2 : (rd_T89 l a).f0 = 2) : -1 ≤ (rd_T89 l a).f1 ∧ (rd_T89 l a).f1 ≤ 1 := by
  have hm := rd89_mem a0 a1
  obtain ⟨_, _, _, g3⟩ := (forkB_iff (hw _ hm)).1 ((validT_iff.1 hv).2.2 _ hm)
  rcases g3 with ⟨h, _⟩ | ⟨_, h, h', _⟩
  · omega
  · exact ⟨h, h'⟩
theorem within_inI (n a b : Int) : impl_within.f n a b = some (inI n a b) := by
  unfold impl_within.f inI
  by_cases h : n ≥ a
  · rw [if_pos h, decide_eq_true (show a ≤ n from h), Bool.true_and]
  · rw [if_neg h, decide_eq_false (show ¬ a ≤ n from h), Bool.false_and]
/-- Both texts' answer: rows, or a code. -/
theorem tab_ev (l : List S89) (hw : ∀ x ∈ l, Rg x) (hl : l.length ≤ 140737488355327) (n : Int) : ∃ A : List S151 × Int, Ev (fun k => spec_l06Table.f k [⟨l⟩] n) A ∧ Ev (fun k => impl_TableOf.f k l n) A ∧ OKo A.1 ∧ (A.2 = 0 → 0 ≤ n ∧ n ≤ 20) := by
  have o0 : OKo [] := ⟨by simp, fun r h => by cases h⟩
  have e1 := sokT_ev l hw hl
  have i1 : Ev (fun _ : Nat => impl_ValidTree.f l) (validT l) := Ev.is (fun _ => ivalidT_eq l)
  have e2 : ∀ k : Nat, spec_l00In.f n 0 20 = some (inI n 0 20) := fun _ => in_eq' n 0 20
  have i2 : ∀ k : Nat, impl_within.f n 0 20 = some (inI n 0 20) := fun _ => within_inI n 0 20
  unfold spec_l06Table.f impl_TableOf.f
  by_cases hv : validT l = true
  case neg =>
    have hf := Bool.eq_false_iff.mpr hv
    rw [hf] at e1 i1
    exact ⟨([], 1), Ev.bind e1 (Ev.neg (by simp) (Ev.now _)), Ev.bind i1 (Ev.neg (by simp) (Ev.now _)), o0, fun h => absurd h (by decide)⟩
  rw [hv] at e1 i1
  by_cases hin : inI n 0 20 = true
  case neg =>
    have hf := Bool.eq_false_iff.mpr hin
    rw [hf] at e2 i2
    exact ⟨([], 2), Ev.bind e1 (Ev.pos rfl (Ev.bind (Ev.is e2) (Ev.neg (by simp) (Ev.now _)))), Ev.bind i1 (Ev.pos rfl (Ev.bind (Ev.is i2) (Ev.neg (by simp) (Ev.now _)))), o0, fun h => absurd h (by decide)⟩
  rw [hin] at e2 i2
  obtain ⟨hn0, hn1⟩ := inI_iff.1 hin
  obtain ⟨v1, v2, _⟩ := validT_iff.1 hv
  have hk := okT_of hw hv
  obtain ⟨R, s, hp, hI, hC, hR⟩ := reachC_ev l hw hv
  have hle := hI.le
  have sp := sprod_ev l hk v2 R s hI hR
  have ip := iprod_ev l hk v2 R s hI hR
  by_cases hprod : prodB l R = true
  case neg =>
    have hf := Bool.eq_false_iff.mpr hprod
    rw [hf] at sp ip
    exact ⟨([], 4), Ev.bind e1 (Ev.pos rfl (Ev.bind (Ev.is e2) (Ev.pos rfl (Ev.bind sp (Ev.neg (by simp) (Ev.now _)))))), Ev.bind i1 (Ev.pos rfl (Ev.bind (Ev.is i2) (Ev.pos rfl (Ev.bind ip (Ev.neg (by simp) (Ev.now _)))))), o0, fun h => absurd h (by decide)⟩
  rw [hprod] at sp ip
  obtain ⟨N, rfl⟩ : ∃ N : Nat, n = (N : Int) := ⟨n.toNat, by omega⟩
  have h0 : (0 : Int) ∈ R := hp.subset (by simp)
  obtain ⟨rI, rS, g, h1, h2, h3⟩ := rows_both l hk v2 R s hI hC hprod (fun a ha hx => dig_of hw hv (hI.rng a ha).1 (hI.rng a ha).2 hx) N (by omega) N [] (by simp) (fun d hd => by cases hd) 3600 0 h0 (prod_dep hk v2 hI hprod h0) [] [] (by simp; omega) o0
  have rd34 : (rd_T34 [(⟨l⟩ : S34)] 0).f0 = l := rfl
  have tS : ∀ v, Ev (fun k => (rowsS k l [] 0 (N : Int) [] []).bind fun r => if r.2 = true then some (r.1, 0) else some ([], 3)) v → Ev (fun k => tabS k [⟨l⟩] (N : Int)) v := by
    intro v hv'
    unfold tabS
    rw [rd34]
    exact Ev.pos ⟨by simp, hk⟩ hv'
  have tI : ∀ v, Ev (fun k => (rowsI k l [] 0 (N : Int) [] []).bind fun r => if r.2 = true then some (r.1, 0) else some ([], 3)) v → Ev (fun k => tabI k l (N : Int)) v := by
    intro v hv'
    unfold tabI
    exact Ev.pos hk hv'
  cases g with
  | true =>
    obtain ⟨rfl, ho⟩ := h3 rfl
    exact ⟨(rI, 0), Ev.bind e1 (Ev.pos rfl (Ev.bind (Ev.is e2) (Ev.pos rfl (Ev.bind sp (Ev.pos rfl (tS _ (Ev.bind h1.rows (Ev.pos rfl (Ev.now _))))))))), Ev.bind i1 (Ev.pos rfl (Ev.bind (Ev.is i2) (Ev.pos rfl (Ev.bind ip (Ev.pos rfl (tI _ (Ev.bind h2 (Ev.pos rfl (Ev.now _))))))))), ho, fun _ => ⟨hn0, hn1⟩⟩
  | false =>
    exact ⟨([], 3), Ev.bind e1 (Ev.pos rfl (Ev.bind (Ev.is e2) (Ev.pos rfl (Ev.bind sp (Ev.pos rfl (tS _ (Ev.bind h1.rows (Ev.neg (by simp) (Ev.now _))))))))), Ev.bind i1 (Ev.pos rfl (Ev.bind (Ev.is i2) (Ev.pos rfl (Ev.bind ip (Ev.pos rfl (tI _ (Ev.bind h2 (Ev.neg (by simp) (Ev.now _))))))))), o0, fun h => absurd h (by decide)⟩
end Go.Proofs.Ytpfnohdnaocpdaa.Pure

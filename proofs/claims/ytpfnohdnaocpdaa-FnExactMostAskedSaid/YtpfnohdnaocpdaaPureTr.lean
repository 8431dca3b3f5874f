/- The places of the reached nodes. Plain Lean over the printed functions. -/
import Derived.Test.YtpfnohdnaocpdaaPTx4
import Derived.Test.YtpfnohdnaocpdaaPureReach
namespace Go.Proofs.Ytpfnohdnaocpdaa.Pure
open Go.RowKit Go.Proofs.Ytpfnohdnaocpdaa.PT Go.Proofs.YtpfnohdnaocpdaaW.PrintWords Go.Proofs.YtpfnohdnaocpdaaW.PrintLast Go.Proofs.YtpfnohdnaocpdaaW.PrintMore Go.Proofs.YtpfnohdnaocpdaaRP
set_option linter.unusedVariables false
set_option linter.unusedSimpArgs false
theorem rd_set (xs : List Int) (a b v : Int) (a0 : 0 ≤ a) (a1 : a < xs.length) (b0 : 0 ≤ b) : rd (xs.set a.toNat v) b = if a = b then v else rd xs b := by
  by_cases c : a = b
  · subst c
    rw [if_pos rfl]
    simp [rd, List.getD, show a.toNat < xs.length by omega]
  · rw [if_neg c]
    simp [rd, List.getD, List.getElem?_set, show ¬ a.toNat = b.toNat by omega]
theorem i16_small (i : Nat) (h : i ≤ 60) : IntKind.i16.wrap (i : Int) = i := by
  have : ∀ i : Nat, i < 61 → IntKind.i16.wrap (i : Int) = i := by decide
  exact this i (by omega)
theorem tree0 (l : List S89) (r : List Int) (s : List Bool) (hI : Inv l.length r s) (hl : l.length ≤ 60) (d : Nat) : ∀ (i : Nat) (x5 : List Int), i + d = r.length → x5.length = l.length → (∀ j : Nat, j < i → rd x5 (rd r (j : Int)) = j) →
    ∃ x5' : List Int, x5'.length = l.length ∧ (∀ j : Nat, j < r.length → rd x5' (rd r (j : Int)) = j) ∧ ∀ v, Ev (fun k => spec_l06Tree.l1 k [⟨l⟩] r x5' 0 []) v → Ev (fun k => spec_l06Tree.l0 k [⟨l⟩] r x5 (i : Int)) v := by
  have le := hI.le
  induction d with
  | zero =>
    intro i x5 hi h5 hj
    exact ⟨x5, h5, fun j hj' => hj j (by omega), fun v hv => Ev.step (fun k => rfl) (Ev.neg (by omega) hv)⟩
  | succ d ih =>
    intro i x5 hi h5 hj
    have hr := hI.rng _ (rd_memI (show i < r.length by omega))
    obtain ⟨x5', p1, p2, p3⟩ := ih (i + 1) (x5.set (rd r (i : Int)).toNat (i : Int)) (by omega) (by simp [h5]) (by
      intro j hj'
      have hrj := hI.rng _ (rd_memI (show j < r.length by omega))
      rw [rd_set x5 _ _ _ hr.1 (by rw [h5]; exact hr.2) hrj.1]
      by_cases c : j = i
      · subst c; rw [if_pos rfl]
      · rw [if_neg (hI.dup j i (by omega) (by omega)).symm]
        exact hj j (by omega))
    refine ⟨x5', p1, p2, fun v hv => ?_⟩
    refine Ev.step (fun k => rfl) (Ev.pos (by omega) (Ev.pos (by omega) (Ev.pos hr.1 (Ev.pos (by rw [h5]; exact hr.2) ?_))))
    rw [i16_small i (by omega), wnext i (by omega)]
    exact p3 v hv
end Go.Proofs.Ytpfnohdnaocpdaa.Pure

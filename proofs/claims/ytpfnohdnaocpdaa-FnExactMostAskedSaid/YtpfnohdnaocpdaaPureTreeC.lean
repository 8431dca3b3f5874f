/- The tree of the reached nodes, in the reference's text. Plain Lean over the printed functions. -/
import Derived.Test.YtpfnohdnaocpdaaPTx4
import Derived.Test.YtpfnohdnaocpdaaPureProdC
import Derived.Test.YtpfnohdnaocpdaaPureTr
namespace Go.Proofs.Ytpfnohdnaocpdaa.Pure
open Go.RowKit Go.Proofs.Ytpfnohdnaocpdaa.PT Go.Proofs.YtpfnohdnaocpdaaW.PrintWords Go.Proofs.YtpfnohdnaocpdaaW.PrintLast Go.Proofs.YtpfnohdnaocpdaaW.PrintMore Go.Proofs.YtpfnohdnaocpdaaRP
set_option linter.unusedVariables false
set_option linter.unusedSimpArgs false
/-- A node as the new tree has it. -/
def gT (l : List S89) (x5 : List Int) (a : Int) : S89 := if (rd_T89 l a).f0 = 1 then ⟨(rd_T89 l a).f0, (rd_T89 l a).f1, ⟨rd x5 (rd_T89 l a).f2.f0, rd x5 (rd_T89 l a).f2.f1, rd x5 (rd_T89 l a).f2.f2⟩⟩ else ⟨(rd_T89 l a).f0, (rd_T89 l a).f1, ⟨rd x5 (rd_T89 l a).f2.f0, (rd_T89 l a).f2.f1, (rd_T89 l a).f2.f2⟩⟩
theorem ways_of (a b c e f : Int) : spec_l06Ways.f [(⟨a, b, ⟨c, e, f⟩⟩ : S89)] = some (if a = 1 then 3 else 1) := ways_eq _
theorem treeC1 (l : List S89) (hk : okT l = true) (hl : l.length ≤ 60) (R : List Int) (s : List Bool) (hI : Inv l.length R s) (x5 : List Int) (h5 : x5.length = l.length) (d : Nat) : ∀ (i : Nat) (acc : List S89), i + d = R.length → acc.length = i →
    Ev (fun k => spec_l06Tree.l1 k [⟨l⟩] R x5 (i : Int) acc) (acc ++ (R.drop i).map (gT l x5)) := by
  have le := hI.le
  have w01 : wrap64 (0 + 1) = 1 := by unfold wrap64; omega
  have w12 : wrap64 (1 + 1) = 2 := by unfold wrap64; omega
  have w23 : wrap64 (2 + 1) = 3 := by unfold wrap64; omega
  induction d with
  | zero =>
    intro i acc hi ha
    refine Ev.step (fun k => rfl) (Ev.neg (by omega) (Ev.to (Ev.now _) ?_))
    rw [List.drop_of_length_le (by omega)]
    simp
  | succ d ih =>
    intro i acc hi ha
    have hr := hI.rng _ (rd_memI (show i < R.length by omega))
    obtain ⟨hkd, h0, h1, h2⟩ := okT_rd hk _ hr.1 hr.2
    have nx := ih (i + 1) (acc ++ [gT l x5 (rd R (i : Int))]) (by omega) (by simp [ha])
    rw [List.append_assoc, List.singleton_append] at nx
    rw [drop_I R i (by omega), List.map_cons]
    refine Ev.step (fun k => rfl) (Ev.pos (by omega) (Ev.pos (by simp) (Ev.pos (by omega) (Ev.pos hr.1 (Ev.pos hr.2 ?_)))))
    rcases hkd with hx | hx
    · have e : gT l x5 (rd R (i : Int)) = ⟨(rd_T89 l (rd R (i : Int))).f0, (rd_T89 l (rd R (i : Int))).f1, ⟨rd x5 (rd_T89 l (rd R (i : Int))).f2.f0, rd x5 (rd_T89 l (rd R (i : Int))).f2.f1, rd x5 (rd_T89 l (rd R (i : Int))).f2.f2⟩⟩ := by unfold gT; rw [if_pos hx]
      refine Ev.step (fun k => rfl) (Ev.bind (Ev.is (fun _ => (ways_of _ _ _ _ _).trans (congrArg some (if_pos hx)))) (Ev.pos (by omega) (Ev.pos (by omega) (Ev.pos (by omega) (Ev.pos h0.1 (Ev.pos (by rw [h5]; exact h0.2) ?_))))))
      rw [w01]
      refine Ev.step (fun k => rfl) (Ev.bind (Ev.is (fun _ => (ways_of _ _ _ _ _).trans (congrArg some (if_pos hx)))) (Ev.pos (by omega) (Ev.pos (by omega) (Ev.pos (by omega) (Ev.pos h1.1 (Ev.pos (by rw [h5]; exact h1.2) ?_))))))
      rw [w12]
      refine Ev.step (fun k => rfl) (Ev.bind (Ev.is (fun _ => (ways_of _ _ _ _ _).trans (congrArg some (if_pos hx)))) (Ev.pos (by omega) (Ev.pos (by omega) (Ev.pos (by omega) (Ev.pos h2.1 (Ev.pos (by rw [h5]; exact h2.2) ?_))))))
      rw [w23]
      refine Ev.step (fun k => rfl) (Ev.bind (Ev.is (fun _ => (ways_of _ _ _ _ _).trans (congrArg some (if_pos hx)))) (Ev.neg (by omega) (Ev.pos (by omega) ?_)))
      rw [wnext i (by omega)]
      rw [e] at nx ⊢
      exact nx
    · have hx1 : ¬ (rd_T89 l (rd R (i : Int))).f0 = 1 := by omega
      have e : gT l x5 (rd R (i : Int)) = ⟨(rd_T89 l (rd R (i : Int))).f0, (rd_T89 l (rd R (i : Int))).f1, ⟨rd x5 (rd_T89 l (rd R (i : Int))).f2.f0, (rd_T89 l (rd R (i : Int))).f2.f1, (rd_T89 l (rd R (i : Int))).f2.f2⟩⟩ := by unfold gT; rw [if_neg hx1]
      refine Ev.step (fun k => rfl) (Ev.bind (Ev.is (fun _ => (ways_of _ _ _ _ _).trans (congrArg some (if_neg hx1)))) (Ev.pos (by omega) (Ev.pos (by omega) (Ev.pos (by omega) (Ev.pos h0.1 (Ev.pos (by rw [h5]; exact h0.2) ?_))))))
      rw [w01]
      refine Ev.step (fun k => rfl) (Ev.bind (Ev.is (fun _ => (ways_of _ _ _ _ _).trans (congrArg some (if_neg hx1)))) (Ev.neg (by omega) (Ev.pos (by omega) ?_)))
      rw [wnext i (by omega)]
      rw [e] at nx ⊢
      exact nx
theorem treeC_ev (l : List S89) (hk : okT l = true) (hl : l.length ≤ 60) (R : List Int) (s : List Bool) (hI : Inv l.length R s) : ∃ x5 : List Int, x5.length = l.length ∧ (∀ j : Nat, j < R.length → rd x5 (rd R (j : Int)) = j) ∧ Ev (fun k => spec_l06Tree.f k [⟨l⟩] R) (R.map (gT l x5)) := by
  obtain ⟨x5, p1, p2, p3⟩ := tree0 l R s hI hl R.length 0 (List.replicate l.length 0) (by omega) (by simp) (fun j hj => absurd hj (by omega))
  refine ⟨x5, p1, p2, ?_⟩
  have h1 := treeC1 l hk hl R s hI x5 p1 R.length 0 [] (by omega) rfl
  rw [List.nil_append, List.drop_zero] at h1
  have h2 := p3 _ h1
  unfold spec_l06Tree.f
  refine Ev.pos (by simp) (Ev.pos (by omega) (Ev.pos ?_ ?_))
  · change ((l.length : Int)).toNat ≤ _; omega
  · change Ev (fun k => spec_l06Tree.l0 k [⟨l⟩] R (List.replicate ((l.length : Int)).toNat 0) 0) _
    rw [Int.toNat_natCast]
    exact h2
theorem rd_mapG (l : List S89) (x5 R : List Int) (i : Nat) (h : i < R.length) : rd_T89 (R.map (gT l x5)) (i : Int) = gT l x5 (rd R (i : Int)) := by
  rw [rd_at R i h]
  simp [rd_T89, List.getD, h]
end Go.Proofs.Ytpfnohdnaocpdaa.Pure

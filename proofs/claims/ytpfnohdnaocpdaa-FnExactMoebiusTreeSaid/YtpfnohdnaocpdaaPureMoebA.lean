/- MoebiusTree: is a state too large; steps of the reference's loops. Plain Lean. -/
import Derived.Test.YtpfnohdnaocpdaaPTx7
import Derived.Test.YtpfnohdnaocpdaaPureBehindM
import Derived.Test.YtpfnohdnaocpdaaPTmoebA
namespace Go.Proofs.Ytpfnohdnaocpdaa.Pure
open Go.RowKit Go.Proofs.Ytpfnohdnaocpdaa.PT Go.Proofs.YtpfnohdnaocpdaaW.PrintWords Go.Proofs.YtpfnohdnaocpdaaW.PrintLast Go.Proofs.YtpfnohdnaocpdaaW.PrintMore Go.Proofs.YtpfnohdnaocpdaaRP
set_option linter.unusedVariables false
set_option linter.unusedSimpArgs false
theorem wfS_m {B : M4} (h : B.bd 1000000000000000000) : wfS (s4 B) = true := by
  obtain ⟨⟨a0, a1⟩, ⟨b0, b1⟩, ⟨c0, c1⟩, ⟨d0, d1⟩⟩ := h
  have w : ∀ z : Int, -1000000000000000000 ≤ z → z ≤ 1000000000000000000 → (Lit.int .i64 z).wf = true := fun z h0 h1 => WalkArith.wf_i64 ⟨by omega, by omega⟩
  simp only [wfS, s4, Bool.and_eq_true]
  exact ⟨⟨⟨w _ a0 a1, w _ b0 b1⟩, w _ c0 c1⟩, w _ d0 d1⟩
theorem ovS_eq {B : M4} (h : B.bd 1000000000000000000) (o : Bool) : ovS o (s4 B) = some (o || !(fits 288230376151711744 B)) := by
  unfold ovS
  rw [if_pos (wfS_m h)]
  cases o with
  | true => rfl
  | false =>
    rw [if_neg (by simp)]
    obtain ⟨t, ht, hi⟩ := largest_eq (M4.bd_sm h (by decide))
    have ht' : impl_Moebius_largest.f (s4 B).f0 (s4 B).f1 (s4 B).f2 (s4 B).f3 = some t := ht
    rw [ht', Option.bind_some, Bool.false_or]
    congr 1
    cases hf : fits 288230376151711744 B with
    | false => exact decide_eq_true (hi.2 hf)
    | true => exact decide_eq_false (fun hh => by have := hi.1 hh; rw [hf] at this; exact absurd this (by decide))
theorem mt_out (xs : List S60) (ns : List S89) (i : Int) (hi : ¬ i < (xs.length : Int)) : Ev (fun k => spec_MoebiusTree.l0 k xs i ns) (ns, 0) := by
  refine Ev.step (fun k => rfl) ?_
  simp only [spec_MoebiusTree.l0]
  exact Ev.neg hi (Ev.now _)
theorem mt_in {m : M4} (h : m.bd 288230376151711744) (hu : m.up) (xs : List S60) (ns : List S89) (i : Nat) (hi : i < xs.length) (hm : rd_T60 xs (i : Int) = s4 m) (r : List S89 × Int) (k : Ev (fun k => spec_MoebiusTree.l1 k xs (i : Int) (behR m).1 0 ns (behR m).2.1 (behR m).2.2.1 (behR m).2.2.2.1 (behR m).2.2.2.2.1 (behR m).2.2.2.2.2) r) : Ev (fun k => spec_MoebiusTree.l0 k xs (i : Int) ns) r := by
  refine Ev.step (fun k => rfl) ?_
  simp only [spec_MoebiusTree.l0, hm]
  exact Ev.pos (by omega) (Ev.pos (by omega) (Ev.bind (beh_ev h hu) k))
theorem mt_push (xs bs : List S60) (ns : List S89) (i j n0 n1 n2 n3 n4 : Int) (hj : ¬ j < (bs.length : Int)) (hn : ns.length ≤ 4000) (r : List S89 × Int) (k : Ev (fun k => spec_MoebiusTree.l0 k xs (wrap64 (i + 1)) (ns ++ [⟨n0, n1, ⟨n2, n3, n4⟩⟩])) r) : Ev (fun k => spec_MoebiusTree.l1 k xs i bs j ns n0 n1 n2 n3 n4) r := by
  refine Ev.step (fun k => rfl) ?_
  simp only [spec_MoebiusTree.l1]
  exact Ev.neg hj (Ev.pos (by omega) k)
theorem mt_next (xs bs : List S60) (hxl : xs.length ≤ 4000) (ns : List S89) (i : Int) (J J' : Int) (hJ : 0 ≤ J) (hJ3 : J < 3) (hJ' : J' = J + 1) (hb : J < (bs.length : Int)) (n0 n1 n2 n3 n4 : Int) (r : List S89 × Int)
    (k : Ev (fun k => if (stR xs (rd_T60 bs J)).2 < 0 then some ([], 3) else spec_MoebiusTree.l1 k (stR xs (rd_T60 bs J)).1 i bs J' ns n0 n1 (up 0 J (stR xs (rd_T60 bs J)).2 n2) (up 1 J (stR xs (rd_T60 bs J)).2 n3) (up 2 J (stR xs (rd_T60 bs J)).2 n4)) r) : Ev (fun k => spec_MoebiusTree.l1 k xs i bs J ns n0 n1 n2 n3 n4) r := by
  have hw : wrap64 (J + 1) = J' := by rw [hJ']; unfold wrap64; omega
  refine Ev.step (fun k => rfl) ?_
  simp only [spec_MoebiusTree.l1, hw]
  refine Ev.pos hb (Ev.pos hJ (Ev.bind (state_ev xs _ hxl) ?_))
  by_cases c : (stR xs (rd_T60 bs J)).2 < 0
  · simp only [if_pos c] at k
    exact Ev.pos c k
  · simp only [if_neg c] at k
    exact Ev.neg c (Ev.pos hJ3 k)
end Go.Proofs.Ytpfnohdnaocpdaa.Pure

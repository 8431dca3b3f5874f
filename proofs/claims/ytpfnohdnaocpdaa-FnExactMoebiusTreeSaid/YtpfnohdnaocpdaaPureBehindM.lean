/- The states behind a machine's state: the reference's l06Behind. Plain Lean. -/
import Derived.Test.YtpfnohdnaocpdaaPTx5
import Derived.Test.YtpfnohdnaocpdaaPureStateM
namespace Go.Proofs.Ytpfnohdnaocpdaa.Pure
open Go.RowKit Go.Proofs.Ytpfnohdnaocpdaa.PT Go.Proofs.YtpfnohdnaocpdaaW.PrintWords Go.Proofs.YtpfnohdnaocpdaaW.PrintLast Go.Proofs.YtpfnohdnaocpdaaW.PrintMore Go.Proofs.YtpfnohdnaocpdaaRP
set_option linter.unusedVariables false
set_option linter.unusedSimpArgs false
def s4 (m : M4) : S60 := ⟨m.a, m.b, m.c, m.d⟩
def behR (m : M4) : List S60 × Int × Int × Int × Int × Int := match tell m with
  | some e => ([s4 (red (tellM m e))], 2, e, 0, 0, 0)
  | none => ([s4 (red (takeM m (-1))), s4 (red (takeM m 0)), s4 (red (takeM m 1))], 1, 0, 0, 0, 0)
theorem beh_tell {m : M4} (h : m.bd 288230376151711744) (hu : m.up) {e : Int} (he : -1 ≤ e ∧ e ≤ 1) : Ev (fun k => spec_l03Less.f k (wrap64 (wrap64 (2 * m.a) - wrap64 (e * m.c))) (wrap64 (wrap64 (2 * m.b) - wrap64 (e * m.d))) m.c m.d) ((red (tellM m e)).a, (red (tellM m e)).b, (red (tellM m e)).c, (red (tellM m e)).d) := by
  have ok := tellM_ok h hu he
  obtain ⟨⟨a0, a1⟩, ⟨b0, b1⟩, ⟨c0, c1⟩, ⟨d0, d1⟩⟩ := h
  have w1 : wrap64 (wrap64 (2 * m.a) - wrap64 (e * m.c)) = (tellM m e).a := by unfold tellM; rcases dig3 he with rfl | rfl | rfl <;> (dsimp only; unfold wrap64; omega)
  have w2 : wrap64 (wrap64 (2 * m.b) - wrap64 (e * m.d)) = (tellM m e).b := by unfold tellM; rcases dig3 he with rfl | rfl | rfl <;> (dsimp only; unfold wrap64; omega)
  rw [w1, w2]
  exact sred_ev (M4.bd_sm ok.1 (by decide)) ok.2
theorem beh_take {m : M4} (h : m.bd 288230376151711744) (hu : m.up) {e : Int} (he : -1 ≤ e ∧ e ≤ 1) : Ev (fun k => spec_l03Less.f k m.a (wrap64 (wrap64 (m.a * e) + wrap64 (2 * m.b))) m.c (wrap64 (wrap64 (m.c * e) + wrap64 (2 * m.d)))) ((red (takeM m e)).a, (red (takeM m e)).b, (red (takeM m e)).c, (red (takeM m e)).d) := by
  have ok := takeM_ok h hu he
  obtain ⟨⟨a0, a1⟩, ⟨b0, b1⟩, ⟨c0, c1⟩, ⟨d0, d1⟩⟩ := h
  have w1 : wrap64 (wrap64 (m.a * e) + wrap64 (2 * m.b)) = (takeM m e).b := by unfold takeM; rcases dig3 he with rfl | rfl | rfl <;> (dsimp only; unfold wrap64; omega)
  have w2 : wrap64 (wrap64 (m.c * e) + wrap64 (2 * m.d)) = (takeM m e).d := by unfold takeM; rcases dig3 he with rfl | rfl | rfl <;> (dsimp only; unfold wrap64; omega)
  rw [w1, w2]
  exact sred_ev (M4.bd_sm ok.1 (by decide)) ok.2
theorem beh_step {m : M4} (h : m.bd 288230376151711744) (hu : m.up) {e : Int} (he : -1 ≤ e ∧ e ≤ 1) (l : List S60) (hl : l.length ≤ 100) (r : List S60 × Int × Int × Int × Int × Int) (k : Ev (fun k => spec_l06Behind.l0 k [s4 m] (l ++ [s4 (red (takeM m e))]) (e + 1)) r) : Ev (fun k => spec_l06Behind.l0 k [s4 m] l e) r := by
  have e1 : rd_T60 [s4 m] 0 = s4 m := rfl
  have ew : wrap64 (e + 1) = e + 1 := by unfold wrap64; omega
  refine Ev.step (fun k => rfl) ?_
  simp only [spec_l06Behind.l0, e1, ew]
  exact Ev.pos he.2 (Ev.pos (by simp) (Ev.bind (beh_take h hu he) (Ev.pos (by omega) k)))
theorem beh_ev {m : M4} (h : m.bd 288230376151711744) (hu : m.up) : Ev (fun k => spec_l06Behind.f k [s4 m]) (behR m) := by
  have e1 : rd_T60 [s4 m] 0 = s4 m := rfl
  have ht := stold_eq h
  unfold spec_l06Behind.f behR
  refine Ev.bind (Ev.is (fun k => ht)) ?_
  cases hT : tell m with
  | some e =>
    have hd := tell_dig hT
    have he : -1 ≤ e ∧ e ≤ 1 := by omega
    have h8 : IntKind.i8.wrap e = e := IntWalk.i8_in _ (by omega)
    refine Ev.pos rfl (Ev.pos (by simp) (Ev.bind (beh_tell h hu he) (Ev.to (Ev.now _) ?_)))
    simp only [Option.getD_some, h8]
    rfl
  | none =>
    refine Ev.neg (by simp) ?_
    refine beh_step h hu (e := -1) (by decide) [] (by simp) _ (beh_step h hu (e := 0) (by decide) _ (by simp) _ (beh_step h hu (e := 1) (by decide) _ (by simp) _ ?_))
    refine Ev.step (fun k => rfl) ?_
    simp only [spec_l06Behind.l0]
    exact Ev.neg (by decide) (Ev.now _)
end Go.Proofs.Ytpfnohdnaocpdaa.Pure

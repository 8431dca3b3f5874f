/- FnExactDoTheSame: for every input the law returns true and leaves its arguments as they were; out of the walk (PT.laws_FnExactDoTheSame.calls) and of the pure law.
   For all arguments that can be read as data. -/
import Derived.Test.YtpfnohdnaocpdaaRows
import Derived.Test.YtpfnohdnaocpdaaPTx6
import Derived.Test.YtpfnohdnaocpdaaJD
import Derived.Test.YtpfnohdnaocpdaaDataPT
import Derived.WalkKit
import Derived.ProofKit
import Derived.OpenShut
import Derived.ShutString
import Derived.ChangeOld
import Derived.Below
import Derived.SizedLaws
import Derived.Lib.SmallJoins
namespace Go.Proofs.Ytpfnohdnaocpdaa.fnExactDoTheSame
open Go.ChangeShapes Go.WideShapes Go.ChangeAt Go.RowKit Go.Proofs.YtpfnohdnaocpdaaOpen
open Go.ChangeMaps (open_string shut_string)
open Go.Proofs.Ytpfnohdnaocpdaa.PT Go.Proofs.YtpfnohdnaocpdaaW.PrintWords
set_option linter.unusedVariables false
theorem own : ownKnob Try.prog.godebug = none := by kernel_rfl
theorem laidOut : laidOutB Try.prog = true := by kernel_rfl
set_option maxRecDepth 100000 in
theorem lifted (os : Os) (started : os.Started) (H : Type) (enc : TypeId × Value → H) :
    ReturnsInHanded {} Try.checked os 8 .any (Rows.fnExactDoTheSameSpec.pre6 enc Try.prog Try.f8 Rows.fnExactDoTheSameRow.domain false) (Rows.fnExactDoTheSameSpec.post enc Try.prog Try.f8 false true false false) := by
  refine returnsInHanded_of_change_sized (C := Try.checked) own started (by kernel_rfl) Try.func8
    (ChangeSpec.witness6 (enc := enc) (C := Try.checked) false ⟨#[], #[.agg #[.slice none 0 0], .agg #[.slice none 0 0]], []⟩ 8 (by kernel_rfl) (by kernel_rfl) (by kernel_rfl) (by kernel_rfl)) ?_
  intro W base args ds gs before hval0 hW hcnd hsz0 _
  have hsz : (DataW.weightsEach Try.prog (Try.f8.params.toList ++ Rows.fnExactDoTheSameSpec.plain.varTypes Try.prog) (ds ++ gs)).all (· ≤ reachBytes) = true := hsz0
  have hval : ∀ (j : Nat) t v, Try.f8.params[j]? = some t → args[j]? = some v → Value.okWide Try.prog W .any base t v := hval0
  have hW' := hW
  obtain ⟨p, q, hA0, hV, rfl, hfz, hnd⟩ := hW
  have hA : DataW.TrodAll enc Try.prog W 0 (fun _ => true) true Try.f8.params.toList args.toList ds p := hA0
  rw [Try.params8] at hA hval hsz
  obtain ⟨v0, vs0, d0, ds0, p0, q0, hargs, rfl, rfl, h0, r0⟩ := trodAll_cons hA
  obtain ⟨v1, vs1, d1, ds1, p1, q1, rfl, rfl, rfl, h1, r1⟩ := trodAll_cons r0
  obtain ⟨rfl, rfl, rfl⟩ := trodAll_nil r1
  obtain rfl : args = #[v0, v1] := by cases args; simp_all
  obtain ⟨rfl, rfl⟩ := trodVars_none hV
  have k0 := h0
  have lt0 : ∀ x ∈ p0, x.block < W.heap.size := by obtain ⟨m, hm⟩ := k0; exact DataW.trod_lt m _ _ _ hm
  obtain ⟨fuel0, hf0⟩ := h0
  obtain ⟨l0, hk0, g0⟩ := opens24.2 H enc W fuel0 _ _ hf0 (weights_arg _ _ 0 24 d0 rfl rfl hsz)
  obtain ⟨cs0, rfl, hn0⟩ : ∃ cs, v0 = .agg cs ∧ cs.size = Try.prog.cellsOf 24 := by
    have := (hval 0 24 v0 rfl rfl)
    unfold Value.okWide at this
    rw [Try.underlying24] at this
    obtain ⟨cs, e, z, _⟩ := this
    exact ⟨cs, e, z⟩
  obtain ⟨A0_0, c0_0, hs0, hle0_0, hC0_0⟩ := k24_open hk0
  simp only [Value.cells] at hs0
  obtain rfl : cs0 = (_ : List Value).toArray := (Array.toArray_toList).symm.trans (congrArg List.toArray hs0)
  have k1 := h1
  have lt1 : ∀ x ∈ p1, x.block < W.heap.size := by obtain ⟨m, hm⟩ := k1; exact DataW.trod_lt m _ _ _ hm
  obtain ⟨fuel1, hf1⟩ := h1
  obtain ⟨l1, hk1, g1⟩ := opens24.2 H enc W fuel1 _ _ hf1 (weights_arg _ _ 1 24 d1 rfl rfl hsz)
  obtain ⟨cs1, rfl, hn1⟩ : ∃ cs, v1 = .agg cs ∧ cs.size = Try.prog.cellsOf 24 := by
    have := (hval 1 24 v1 rfl rfl)
    unfold Value.okWide at this
    rw [Try.underlying24] at this
    obtain ⟨cs, e, z, _⟩ := this
    exact ⟨cs, e, z⟩
  obtain ⟨A1_0, c1_0, hs1, hle1_0, hC1_0⟩ := k24_open hk1
  simp only [Value.cells] at hs1
  obtain rfl : cs1 = (_ : List Value).toArray := (Array.toArray_toList).symm.trans (congrArg List.toArray hs1)
  clear hA0 hval0 hsz0 hsz
  obtain ⟨k, h⟩ := Pure.FnExactDoTheSame l0 l1 g0 g1
  refine (PT.laws_FnExactDoTheSame.calls k _ _ l0.f0 _ _ l1.f0 W hC0_0 hle0_0 hC1_0 hle1_0 h).mono fun e W' ⟨he, bel⟩ => ?_
  subst he
  exact ⟨_, rfl, _, _, _, [], _, [], hW', trodAll_mk1 (shut_bool Try.underlying4 _), (trodAll_cons_mk (Below.trod laidOut (by kernel_rfl) (of_decide_eq_true (by kernel_rfl)) k0 bel lt0) (trodAll_cons_mk (Below.trod laidOut (by kernel_rfl) (of_decide_eq_true (by kernel_rfl)) k1 bel lt1) trodAll_mk0)), rfl, bel.frame _, fun h => by cases h⟩
theorem over : Rows.fnExactDoTheSameRow.holds Try.pinned (OpenSpec.ofChange Rows.fnExactDoTheSameSpec) :=
  OpenClaim.holds_of_wide 8 Try.f8 rfl rfl rfl rfl rfl rfl rfl ⟨rfl, rfl, rfl, rfl, rfl⟩ rfl rfl rfl rfl rfl (by kernel_rfl) Try.func8 (by kernel_rfl)
    (of_decide_eq_true (by kernel_rfl)) (by unfold Func.isWrapper; first | (rw [if_pos (by decide +kernel)]; kernel_rfl) | (rw [if_neg (by decide +kernel)]; exact ⟨rfl, rfl⟩))
    (fun os started H enc _ => lifted os started H enc)
theorem proved : Rows.FnExactDoTheSameSaid := over
#print axioms proved
end Go.Proofs.Ytpfnohdnaocpdaa.fnExactDoTheSame
namespace Go.Proofs.Ytpfnohdnaocpdaa
/-- The row, under a short name, for the claim. -/
theorem fnExactDoTheSame_holds : Rows.FnExactDoTheSameSaid := fnExactDoTheSame.proved
end Go.Proofs.Ytpfnohdnaocpdaa


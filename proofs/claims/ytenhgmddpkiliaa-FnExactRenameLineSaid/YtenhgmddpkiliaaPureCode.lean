/- The codes of a book with a name, in both texts. Plain Lean over the printed functions. -/
import Derived.Test.YtenhgmddpkiliaaPBx11
import Derived.Test.YtenhgmddpkiliaaPBx6
import Derived.Test.YtenhgmddpkiliaaPureBookOk
namespace Go.Proofs.Ytenhgmddpkiliaa.Pure
open Go.RowKit Go.Proofs.Ytenhgmddpkiliaa.PB Go.Proofs.YtenhgmddpkiliaaW.PrintWords Go.Proofs.YtenhgmddpkiliaaW.PrintLast Go.Proofs.YtenhgmddpkiliaaW.PrintMore Go.Proofs.YtenhgmddpkiliaaRP
set_option linter.unusedVariables false
set_option linter.unusedSimpArgs false

theorem valid_parts {b : List S45} (h : validB b = true) : b.length ≤ 24 ∧ Good b := by
  unfold validB at h
  by_cases c : b.length ≤ 24
  · rw [if_pos c] at h
    simp only [Bool.and_eq_true] at h
    exact ⟨c, good_of h.1⟩
  · rw [if_neg c] at h; simp at h
noncomputable def codeA (b : List S45) (a : ByteArray) : Int := if validB b = true then (if findL b a < 0 then 6 else 0) else 1
theorem inames_ev (b : List S45) (hz : Sz b) (a : ByteArray) : Ev (fun k => impl_namesOk.f k b 0 0 [a]) (codeA b a) := by
  unfold impl_namesOk.f codeA
  refine Ev.bind (ivalid_ev b hz) ?_
  by_cases c : validB b = true
  · rw [if_pos c]
    refine Ev.pos c (Ev.step (fun k => rfl) ?_)
    simp only [impl_namesOk.l0]
    refine Ev.pos (by simp) (Ev.pos (by omega) (Ev.pos (by simp) ?_))
    simp only [impl_lineOf.f, Option.bind_some]
    have e : rdOf ByteArray.empty [a] 0 = a := rfl
    rw [e]
    by_cases c2 : findL b a < 0
    · rw [if_pos c2]; exact Ev.pos c2 (Ev.now _)
    · rw [if_neg c2]
      refine Ev.neg c2 (Ev.step (fun k => rfl) ?_)
      rw [wrap_up (by omega) (by omega)]
      simp only [impl_namesOk.l0]
      refine Ev.neg (by simp) ?_
      have hw : impl_within.f 0 0 0 = some true := by unfold impl_within.f; rfl
      refine Ev.congr (f := fun _ => some 0) (fun k => by rw [hw]; rfl) (Ev.now _)
  · rw [if_neg c]; exact Ev.neg c (Ev.now _)
theorem code_zero {b : List S45} {a : ByteArray} (h : codeA b a = 0) : validB b = true ∧ In b (findL b a) := by
  unfold codeA at h
  by_cases c : validB b = true
  · rw [if_pos c] at h
    by_cases c2 : findL b a < 0
    · rw [if_pos c2] at h; omega
    · exact ⟨c, by omega, find_lt b a⟩
  · rw [if_neg c] at h; omega
theorem sasked_ev (b : List S45) (hz : Sz b) (a : ByteArray) : ∃ q : Int × Int, Ev (fun k => spec_l07Asked.f k b a 0) q ∧ q.2 = codeA b a ∧ (codeA b a = 0 → q.1 = findL b a) := by
  unfold spec_l07Asked.f codeA
  by_cases c : validB b = true
  · obtain ⟨hl, _⟩ := valid_parts c
    rw [if_pos c]
    by_cases c2 : findL b a < 0
    · rw [if_pos c2]
      exact ⟨(0, 6), Ev.bind (sok_ev b hz) (Ev.pos c (Ev.bind (sfind_ev b a (by omega)) (Ev.pos c2 (Ev.now _)))), rfl, fun h => absurd h (by omega)⟩
    · rw [if_neg c2]
      have hp : spec_l02Places.f 0 = some true := by unfold spec_l02Places.f; rw [l00In_eq]; rfl
      refine ⟨(findL b a, 0), Ev.bind (sok_ev b hz) (Ev.pos c (Ev.bind (sfind_ev b a (by omega)) (Ev.neg c2 ?_))), rfl, fun _ => rfl⟩
      exact Ev.congr (f := fun _ => some (findL b a, 0)) (fun k => by rw [hp]; rfl) (Ev.now _)
  · rw [if_neg c]
    exact ⟨(0, 1), Ev.bind (sok_ev b hz) (Ev.neg c (Ev.now _)), rfl, fun h => absurd h (by omega)⟩
theorem bne_self_f {α : Type} [BEq α] [LawfulBEq α] (a : α) : (a != a) = false := by simp

end Go.Proofs.Ytenhgmddpkiliaa.Pure

/- The users of a line, in both texts. Plain Lean over the printed functions. -/
import Derived.Test.YtenhgmddpkiliaaPBx3
import Derived.Test.YtenhgmddpkiliaaPureNamesL
import Derived.Test.YtenhgmddpkiliaaPBusersOf
namespace Go.Proofs.Ytenhgmddpkiliaa.Pure
open Go.RowKit Go.Proofs.Ytenhgmddpkiliaa.PB Go.Proofs.YtenhgmddpkiliaaW.PrintWords Go.Proofs.YtenhgmddpkiliaaW.PrintLast Go.Proofs.YtenhgmddpkiliaaW.PrintMore Go.Proofs.YtenhgmddpkiliaaRP
set_option linter.unusedVariables false
set_option linter.unusedSimpArgs false

/-- Does line i use line s, directly or by others? -/
noncomputable def userB (b : List S45) (s : Int) (i : Nat) : Bool := reachB b (i : Int) s.toNat
theorem userB_of {b : List S45} {s : Int} (hs : 0 ≤ s) {i : Nat} {m : List Bool} (h : ∀ j, 0 ≤ j → (Mk m j ↔ Rch b (i : Int) j)) : rdOf false m s = userB b s i := by
  have e := reachB_of h s.toNat
  rw [userB, ← e]
  simp [rdOf]
theorem needs_all (b : List S45) (hb : b.length ≤ 24) (hg : Good b) (s : Int) (hs : 0 ≤ s) (n : Nat) : n ≤ b.length → ∃ K, ∀ k, K ≤ k → ∀ i, i < n → ∃ m, impl_needs.f k b (i : Int) = some m ∧ m.length = b.length ∧ rdOf false m s = userB b s i := by
  induction n with
  | zero => intro _; exact ⟨0, fun k _ i hi => absurd hi (by omega)⟩
  | succ n ih =>
    intro hn
    obtain ⟨K, hK⟩ := ih (by omega)
    obtain ⟨m, ⟨K2, e⟩, hm, hr⟩ := ineeds_ev b hb hg (n : Int) ⟨by omega, by omega⟩
    refine ⟨max K K2, fun k hk i hi => ?_⟩
    by_cases c : i < n
    · exact hK k (by omega) i c
    · obtain rfl : i = n := by omega
      exact ⟨m, e k (by omega), hm, userB_of hs hr⟩
theorem iusers_ev (b : List S45) (hb : b.length ≤ 24) (hg : Good b) (a : ByteArray) (hi : In b (findL b a)) : Ev (fun k => impl_usersOf.f k b a) (namesL (userB b (findL b a)) b 0) := by
  unfold impl_usersOf.f
  refine Ev.pos (by omega) (Ev.pos hi ?_)
  obtain ⟨K, hK⟩ := needs_all b hb hg (findL b a) hi.1 b.length (Nat.le_refl _)
  refine ⟨K, fun k hk => ?_⟩
  have hn : needsAll k b = true := needsAll_of (fun i h => by
    obtain ⟨m, e, hm, _⟩ := hK k hk i h
    exact ⟨m, e, hm⟩)
  simp only [if_pos hn, Option.some.injEq]
  refine namesL_congr b 0 (fun i _ h => ?_)
  obtain ⟨m, e, _, hr⟩ := hK k hk i (by omega)
  rw [e]; exact hr
theorem susers_l0 (b : List S45) (hb : b.length ≤ 24) (hg : Good b) (s : Int) (hs : In b s) (d : Nat) : ∀ i : Nat, i + d = b.length → Ev (fun k => spec_l07Users.l0 k b s ((List.range i).map (userB b s)) (i : Int)) ((List.range b.length).map (userB b s)) := by
  induction d with
  | zero =>
    intro i h
    refine Ev.step (fun k => rfl) ?_
    simp only [spec_l07Users.l0]
    refine Ev.neg (by omega) (Ev.to (Ev.now _) ?_)
    rw [show i = b.length from by omega]
  | succ d ih =>
    intro i h
    refine Ev.step (fun k => rfl) ?_
    simp only [spec_l07Users.l0]
    obtain ⟨m, e, hm, hr⟩ := sneeds_ev b hb hg (i : Int) ⟨by omega, by omega⟩
    refine Ev.pos (by omega) (Ev.bind e (Ev.pos hs.1 (Ev.pos (by rw [hm]; exact hs.2) (Ev.pos (by simp; omega) ?_))))
    rw [wrap_up (by omega) (by omega), userB_of hs.1 hr]
    have := ih (i + 1) (by omega)
    rw [List.range_succ, List.map_append] at this
    exact this
theorem susers_ev (b : List S45) (hb : b.length ≤ 24) (hg : Good b) (s : Int) (hs : In b s) : Ev (fun k => spec_l07Users.f k b s) ((List.range b.length).map (userB b s)) :=
  susers_l0 b hb hg s hs b.length 0 (by omega)
/-- The names of the lines that use a line. -/
noncomputable def usersN (b : List S45) (s : Int) : List ByteArray := namesL (userB b s) b 0
theorem usersN_len (b : List S45) (s : Int) : (usersN b s).length ≤ b.length := namesL_len _ _ _
end Go.Proofs.Ytenhgmddpkiliaa.Pure

/- EraseLine: the program's answer is the reference's. Plain Lean over the printed functions. -/
import Derived.Test.YtenhgmddpkiliaaPBx12
import Derived.Test.YtenhgmddpkiliaaPBx1
import Derived.Test.YtenhgmddpkiliaaPBx7
import Derived.Test.YtenhgmddpkiliaaPureUsersL
import Derived.Test.YtenhgmddpkiliaaPureHeld
import Derived.Test.YtenhgmddpkiliaaPBeraseLine
import Derived.Test.YtenhgmddpkiliaaDataPB
namespace Go.Proofs.Ytenhgmddpkiliaa.Pure
open Go.RowKit Go.Proofs.Ytenhgmddpkiliaa.PB Go.Proofs.YtenhgmddpkiliaaW.PrintWords Go.Proofs.YtenhgmddpkiliaaW.PrintLast Go.Proofs.YtenhgmddpkiliaaW.PrintMore Go.Proofs.YtenhgmddpkiliaaRP
set_option linter.unusedVariables false
set_option linter.unusedSimpArgs false

noncomputable def cutN (b : List S45) (s : Int) : List S45 := b.take s.toNat ++ b.drop (s.toNat + 1)
theorem cutN_len (b : List S45) (s : Int) : (cutN b s).length ≤ b.length := by
  unfold cutN
  simp only [List.length_append, List.length_take, List.length_drop]
  omega
noncomputable def ansE (b : List S45) (a : ByteArray) : List S45 × Int := if codeA b a = 0 then (if 0 < (usersN b (findL b a)).length then ([], 4) else (cutN b (findL b a), 0)) else ([], codeA b a)
theorem ieraseOf_ev (b : List S45) (hz : Sz b) (a : ByteArray) : Ev (fun k => impl_EraseLine.f k b a) (ansE b a) := by
  unfold impl_EraseLine.f ansE
  refine Ev.bind (inames_ev b hz a) ?_
  by_cases c : codeA b a = 0
  · rw [if_pos c]
    obtain ⟨hv, hi⟩ := code_zero c
    obtain ⟨hl, hg⟩ := valid_parts hv
    refine Ev.pos c (Ev.bind (iusers_ev b hl hg a hi) ?_)
    change Ev (fun k => if 0 < (usersN b (findL b a)).length then some ([], 4) else if b.length ≤ 1000 ∧ 0 ≤ findL b a ∧ findL b a < b.length then some (b.take (findL b a).toNat ++ b.drop ((findL b a).toNat + 1), 0) else none) _
    by_cases c2 : 0 < (usersN b (findL b a)).length
    · exact Ev.to (Ev.pos c2 (Ev.now _)) (by rw [if_pos c2])
    · exact Ev.to (Ev.neg c2 (Ev.pos ⟨by omega, hi.1, hi.2⟩ (Ev.now _))) (by rw [if_neg c2]; rfl)
  · rw [if_neg c]; exact Ev.neg c (Ev.now _)
theorem seraseOf_ev (b : List S45) (hz : Sz b) (a : ByteArray) : Ev (fun k => spec_EraseLine.f k b a) (ansE b a) := by
  unfold spec_EraseLine.f ansE
  obtain ⟨q, hq, h2, h1⟩ := sasked_ev b hz a
  refine Ev.bind hq ?_
  rw [h2]
  by_cases c : codeA b a = 0
  · rw [if_pos c, h1 c]
    obtain ⟨hv, hi⟩ := code_zero c
    obtain ⟨hl, hg⟩ := valid_parts hv
    have i0 := hi.1
    have i1 := hi.2
    refine Ev.pos c (Ev.bind (susers_ev b hl hg _ hi) (Ev.bind (susersN_ev b hl _) ?_))
    have hw : wrap64 (findL b a + 1) = findL b a + 1 := by unfold wrap64; omega
    simp only [Option.bind_some, hw]
    by_cases c2 : 0 < (usersN b (findL b a)).length
    · rw [if_pos c2]; exact Ev.pos (by omega) (Ev.now _)
    · rw [if_neg c2]
      refine Ev.neg (by omega) (Ev.pos i0 (Ev.pos (by omega) (Ev.pos ?_ (Ev.pos (by omega) (Ev.pos (by omega) (Ev.pos ?_ ?_))))))
      · simp only [List.length_nil, List.length_take]; omega
      · simp only [List.length_nil, List.length_append, List.length_take, List.length_drop]; omega
      · refine Ev.to (Ev.now _) ?_
        rw [List.nil_append, show (findL b a + 1).toNat = (findL b a).toNat + 1 from by omega]
        rfl
  · rw [if_neg c]; exact Ev.neg c (Ev.now _)
theorem ansE_len (b : List S45) (a : ByteArray) : (ansE b a).1.length ≤ 1000 := by
  unfold ansE
  by_cases c : codeA b a = 0
  · rw [if_pos c]
    have := cutN_len b (findL b a)
    have := (valid_parts (code_zero c).1).1
    split
    · simp
    · simp only; omega
  · rw [if_neg c]; simp

/-- What the law needs: for every book and name. -/
theorem FnExactEraseLine (l0 : List S42) (a : ByteArray) (g0 : (∀ y ∈ l0, G42 y) ∧ l0.length * 72 ≤ 140737488351232) (g1 : a.size ≤ 140737488351232) : ∃ k, laws_FnExactEraseLine.f k l0 a = some true := by
  have h0 := g0.2
  refine Ev.rounds (g := fun k => laws_FnExactEraseLine.f k l0 a) ?_
  unfold laws_FnExactEraseLine.f
  by_cases cs : (a.size : Int) > 1048576
  · exact Ev.pos cs (Ev.now true)
  refine Ev.neg cs ?_
  obtain ⟨r0, e0⟩ := szLineS_ev l0 (by omega) 1048576
  refine Ev.bind e0 ?_
  by_cases c0 : r0 < 0
  · exact Ev.pos c0 (Ev.now true)
  refine Ev.neg c0 ?_
  have t0 := toLineS_ev l0 (by omega)
  have hlen : (l0.map conv).length ≤ 140737488355327 := by simp; omega
  have hz : Sz (l0.map conv) := by
    intro i hi0 hi1
    simp only [List.length_map] at hi1
    have hi : i.toNat < l0.length := by omega
    have : rd_T45 (l0.map conv) i = conv l0[i.toNat] := by simp [rd_T45, List.getD, hi]
    rw [this]
    exact (g0.1 _ (List.getElem_mem hi)).1
  generalize l0.map conv = l at t0 hz hlen
  have hs := seraseOf_ev l hz a
  have hi := ieraseOf_ev l hz a
  have hbl := ansE_len l a
  generalize hb : ansE l a = b at hs hi hbl
  obtain ⟨b1, b2⟩ := b
  simp only at hbl
  have hq := eqLineS_ev b1 (by omega)
  have hql := eqLineS_ev l hlen
  have hml := markLineS_ev l hlen
  have hm := markLineS_ev b1 (by omega)
  have hh := heldLineS_ev b1.length (by omega)
  have hpos : ¬ mke b1.length 1 < 0 := by rw [mke_small _ _ (by omega) (by omega)]; omega
  refine Ev.bind t0 (Ev.bind hs (Ev.bind t0 (Ev.bind hi (Ev.bind hq ?_))))
  refine Ev.pos rfl ?_
  rw [bne_self_f]
  refine Ev.step (fun k => rfl) ?_
  simp only [laws_FnExactEraseLine.j0]
  refine Ev.neg (by simp) (Ev.bind t0 (Ev.bind hql (Ev.pos rfl ?_)))
  have hposl : ¬ mke l.length 1 < 0 := by rw [mke_small _ _ (by omega) (by omega)]; omega
  refine Ev.bind hml (Ev.neg hposl (Ev.bind hq (Ev.pos rfl ?_)))
  rw [bne_self_f]
  refine Ev.step (fun k => rfl) ?_
  simp only [laws_FnExactEraseLine.j1]
  refine Ev.neg (by simp) (Ev.bind hm (Ev.bind hh (Ev.neg hpos (Ev.pos rfl (Ev.bind t0 (Ev.bind hi (Ev.bind hq (Ev.pos rfl ?_))))))))
  rw [bne_self_f]
  refine Ev.step (fun k => rfl) ?_
  simp only [laws_FnExactEraseLine.j2]
  exact Ev.neg (by simp) (Ev.bind hh (Ev.neg hpos (Ev.pos rfl (Ev.now true))))
end Go.Proofs.Ytenhgmddpkiliaa.Pure

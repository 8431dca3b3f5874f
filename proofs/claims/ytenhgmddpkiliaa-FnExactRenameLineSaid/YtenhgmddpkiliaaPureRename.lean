/- RenameLine: the program's answer is the reference's. Plain Lean over the printed functions. -/
import Derived.Test.YtenhgmddpkiliaaPBx12
import Derived.Test.YtenhgmddpkiliaaPBx1
import Derived.Test.YtenhgmddpkiliaaPBx7
import Derived.Test.YtenhgmddpkiliaaPureCode
import Derived.Test.YtenhgmddpkiliaaPureMarks
import Derived.Test.YtenhgmddpkiliaaPureHeld
import Derived.Test.YtenhgmddpkiliaaPBrename
import Derived.Test.YtenhgmddpkiliaaDataPB
namespace Go.Proofs.Ytenhgmddpkiliaa.Pure
open Go.RowKit Go.Proofs.Ytenhgmddpkiliaa.PB Go.Proofs.YtenhgmddpkiliaaW.PrintWords Go.Proofs.YtenhgmddpkiliaaW.PrintLast Go.Proofs.YtenhgmddpkiliaaW.PrintMore Go.Proofs.YtenhgmddpkiliaaRP
set_option linter.unusedVariables false
set_option linter.unusedSimpArgs false

noncomputable def ansR (b : List S45) (o n : ByteArray) : List S45 × Int :=
  if codeA b o = 0 then (if nmB n = true then (if n.toList ≠ o.toList ∧ 0 ≤ findL b n then ([], 4) else (b.map (rnL o n), 0)) else ([], 2)) else ([], codeA b o)
theorem irename_ev (b : List S45) (hz : Sz b) (o n : ByteArray) (hn : n.size ≤ 140737488351232) : Ev (fun k => impl_RenameLine.f k b o n) (ansR b o n) := by
  unfold impl_RenameLine.f ansR
  refine Ev.bind (inames_ev b hz o) ?_
  by_cases c : codeA b o = 0
  · rw [if_pos c]
    obtain ⟨hv, hi⟩ := code_zero c
    obtain ⟨hl, hg⟩ := valid_parts hv
    refine Ev.pos c (Ev.bind (iname_ev n hn) ?_)
    by_cases c2 : nmB n = true
    · refine Ev.pos c2 ?_
      rw [if_pos c2]
      by_cases c3 : n.toList ≠ o.toList ∧ 0 ≤ findL b n
      · exact Ev.pos c3 (Ev.to (Ev.now _) (by rw [if_pos c3]))
      · exact Ev.neg c3 (Ev.pos (by omega) (Ev.to (Ev.now _) (by rw [if_neg c3])))
    · exact Ev.neg c2 (Ev.to (Ev.now _) (by rw [if_neg c2]))
  · rw [if_neg c]; exact Ev.neg c (Ev.now _)
theorem find_apart {b : List S45} {o n : ByteArray} (h : 0 ≤ findL b n) : findL b n ≠ findL b o ↔ n.toList ≠ o.toList := by
  constructor
  · intro hne he
    apply hne
    have : nameB n = nameB o := by funext x; simp [nameB, he]
    unfold findL
    rw [this]
  · intro hne he
    apply hne
    have h1 := find_name h
    have h2 := find_name (b := b) (s := o) (by rw [← he]; exact h)
    rw [he] at h1
    exact h1.symm.trans h2
theorem ansR_len (b : List S45) (o n : ByteArray) : (ansR b o n).1.length ≤ 1000 := by
  unfold ansR
  by_cases c : codeA b o = 0
  · rw [if_pos c]
    have := (valid_parts (code_zero c).1).1
    split
    · split
      · simp
      · simp only [List.length_map]; omega
    · simp
  · rw [if_neg c]; simp
/-! ### the reference's loop -/
theorem rdM (d : List S45) (x : S45) (r : List S45) : rd_T45 (d ++ x :: r) (d.length : Int) = x := rd45_mid _ _ _ _ rfl
theorem setM (d : List S45) (x y : S45) (r : List S45) : (d ++ x :: r).set ((d.length : Int)).toNat y = d ++ y :: r := by
  have e : ((d.length : Int)).toNat = d.length := by omega
  rw [e, List.set_append_right _ _ (Nat.le_refl _), Nat.sub_self, List.set_cons_zero]
theorem sren_j2 (o n : ByteArray) (d : List S45) (x : S45) (r : List S45) (hl : d.length + r.length ≤ 1000) {a : List S45 × Int} (h : Ev (fun k => spec_RenameLine.l0 k o n (d ++ rn2 o n (rn1 o n x) :: r) ((d.length : Int) + 1)) a) : Ev (fun k => spec_RenameLine.j2 k o n (d ++ x :: r) (d.length : Int)) a := by
  refine Ev.step (fun k => rfl) ?_
  simp only [spec_RenameLine.j2]
  refine Ev.pos (by omega) (Ev.pos (by simp; omega) ?_)
  have hw : wrap64 ((d.length : Int) + 1) = (d.length : Int) + 1 := by unfold wrap64; omega
  rw [rdM, hw]
  by_cases c : x.f2.toList = o.toList
  · refine Ev.pos c ?_
    rw [rn1_pos c] at h
    simp only [Option.bind_some, setM, rdM]
    by_cases c2 : x.f3.toList = o.toList
    · refine Ev.pos c2 ?_
      rw [rn2_pos (x := { x with f2 := n }) c2] at h
      exact h
    · refine Ev.neg c2 ?_
      rw [rn2_neg (x := { x with f2 := n }) c2] at h
      exact h
  · refine Ev.neg c ?_
    rw [rn1_neg c] at h
    by_cases c2 : x.f3.toList = o.toList
    · refine Ev.pos c2 ?_
      rw [rn2_pos c2] at h
      rw [setM]
      exact h
    · refine Ev.neg c2 ?_
      rw [rn2_neg c2] at h
      exact h
theorem sren_l0 (o n : ByteArray) (r : List S45) : ∀ d : List S45, d.length + r.length ≤ 1000 → Ev (fun k => spec_RenameLine.l0 k o n (d ++ r) (d.length : Int)) (d ++ r.map (rnL o n), 0) := by
  induction r with
  | nil =>
    intro d h
    refine Ev.step (fun k => rfl) ?_
    simp only [spec_RenameLine.l0]
    exact Ev.neg (by simp) (Ev.to (Ev.now _) (by simp))
  | cons x r ih =>
    intro d h
    simp only [List.length_cons] at h
    refine Ev.step (fun k => rfl) ?_
    simp only [spec_RenameLine.l0]
    refine Ev.pos (by simp; omega) (Ev.pos (by omega) ?_)
    rw [rdM]
    have hq := ih (d ++ [rnL o n x]) (by simp; omega)
    simp only [List.length_append, List.length_cons, List.length_nil, List.append_assoc, List.cons_append, List.nil_append, Nat.zero_add, Int.natCast_add, Int.cast_ofNat_Int] at hq
    by_cases c : x.f0.toList = o.toList
    · refine Ev.pos c ?_
      rw [setM]
      refine sren_j2 o n d _ r (by omega) ?_
      have e : rnL o n x = rn2 o n (rn1 o n { x with f0 := n }) := by unfold rnL; rw [rn0_pos c]
      rw [e] at hq
      exact Ev.to hq (by rw [List.map_cons, e])
    · refine Ev.neg c ?_
      refine sren_j2 o n d _ r (by omega) ?_
      have e : rnL o n x = rn2 o n (rn1 o n x) := by unfold rnL; rw [rn0_neg c]
      rw [e] at hq
      exact Ev.to hq (by rw [List.map_cons, e])
theorem sren_j0 (b : List S45) (o n : ByteArray) (hl : b.length ≤ 1000) (t : Bool) : Ev (fun k => spec_RenameLine.j0 k b o n t) (if t = true then ([], 4) else (b.map (rnL o n), 0)) := by
  refine Ev.step (fun k => rfl) ?_
  simp only [spec_RenameLine.j0]
  by_cases c : t = true
  · rw [if_pos c]; exact Ev.pos c (Ev.now _)
  · rw [if_neg c]
    refine Ev.neg c ?_
    simp only [Option.bind_some, List.length_nil, List.nil_append]
    exact Ev.pos (by omega) (sren_l0 o n b [] (by simpa using hl))
theorem srename_ev (b : List S45) (hz : Sz b) (o n : ByteArray) (hn : n.size ≤ 140737488351232) : Ev (fun k => spec_RenameLine.f k b o n) (ansR b o n) := by
  unfold spec_RenameLine.f ansR
  obtain ⟨q, hq, h2, h1⟩ := sasked_ev b hz o
  refine Ev.bind hq ?_
  rw [h2]
  by_cases c : codeA b o = 0
  · rw [if_pos c, h1 c]
    obtain ⟨hv, hi⟩ := code_zero c
    obtain ⟨hl, hg⟩ := valid_parts hv
    refine Ev.pos c (Ev.bind (sname_ev n hn) ?_)
    by_cases c2 : nmB n = true
    · refine Ev.to (r := if n.toList ≠ o.toList ∧ 0 ≤ findL b n then ([], 4) else (b.map (rnL o n), 0)) ?_ (by rw [if_pos c2])
      refine Ev.pos c2 (Ev.bind (sfind_ev b n (by omega)) ?_)
      by_cases c3 : 0 ≤ findL b n
      · refine Ev.pos c3 (Ev.to (sren_j0 b o n (by omega) _) ?_)
        have hf := find_apart (b := b) (o := o) (n := n) c3
        by_cases c4 : n.toList = o.toList
        · have c5 : findL b n = findL b o := by
            have h9 := mt hf.1
            by_cases c6 : findL b n = findL b o
            · exact c6
            · exact absurd c4 (hf.1 c6)
          rw [if_neg (by simp [c5]), if_neg (fun h => h.1 c4)]
        · have c5 := hf.2 c4
          rw [if_pos (bne_iff_ne.mpr c5), if_pos ⟨c4, c3⟩]
      · refine Ev.neg c3 (Ev.to (sren_j0 b o n (by omega) _) ?_)
        rw [if_neg (by simp), if_neg (fun h => c3 h.2)]
    · exact Ev.neg c2 (Ev.to (Ev.now _) (by rw [if_neg c2]))
  · rw [if_neg c]; exact Ev.neg c (Ev.now _)

/-- What the law needs: for every book and names. -/
theorem FnExactRenameLine (l0 : List S42) (a n : ByteArray) (g0 : (∀ y ∈ l0, G42 y) ∧ l0.length * 72 ≤ 140737488351232) (g1 : a.size ≤ 140737488351232) (g2 : n.size ≤ 140737488351232) : ∃ k, laws_FnExactRenameLine.f k l0 a n = some true := by
  have h0 := g0.2
  refine Ev.rounds (g := fun k => laws_FnExactRenameLine.f k l0 a n) ?_
  unfold laws_FnExactRenameLine.f
  by_cases cs : (a.size : Int) > 1048576
  · exact Ev.pos cs (Ev.now true)
  refine Ev.neg cs ?_
  by_cases cs2 : (n.size : Int) > 1048576
  · exact Ev.pos cs2 (Ev.now true)
  refine Ev.neg cs2 ?_
  obtain ⟨r0, e0⟩ := szLineS_ev l0 (by omega) 1048576
  refine Ev.bind e0 ?_
  by_cases c0 : r0 < 0
  · exact Ev.pos c0 (Ev.now true)
  refine Ev.neg c0 ?_
  have t0 := toLineS_ev l0 (by omega)
  have hlen : (l0.map conv).length ≤ 140737488355327 := by simp; omega
  have hz : Sz (l0.map conv) := by
    intro i hi0 hi1
    simp only [List.length_map] at hi1
    have hi : i.toNat < l0.length := by omega
    have : rd_T45 (l0.map conv) i = conv l0[i.toNat] := by simp [rd_T45, List.getD, hi]
    rw [this]
    exact (g0.1 _ (List.getElem_mem hi)).1
  generalize l0.map conv = l at t0 hz hlen
  have hs := srename_ev l hz a n g2
  have hi := irename_ev l hz a n g2
  have hbl := ansR_len l a n
  generalize hb : ansR l a n = b at hs hi hbl
  obtain ⟨b1, b2⟩ := b
  simp only at hbl
  have hq := eqLineS_ev b1 (by omega)
  have hql := eqLineS_ev l hlen
  have hml := markLineS_ev l hlen
  have hm := markLineS_ev b1 (by omega)
  have hh := heldLineS_ev b1.length (by omega)
  have hpos : ¬ mke b1.length 1 < 0 := by rw [mke_small _ _ (by omega) (by omega)]; omega
  refine Ev.bind t0 (Ev.bind hs (Ev.bind t0 (Ev.bind hi (Ev.bind hq ?_))))
  refine Ev.pos rfl ?_
  rw [bne_self_f]
  refine Ev.step (fun k => rfl) ?_
  simp only [laws_FnExactRenameLine.j0]
  refine Ev.neg (by simp) (Ev.bind t0 (Ev.bind hql (Ev.pos rfl ?_)))
  have hposl : ¬ mke l.length 1 < 0 := by rw [mke_small _ _ (by omega) (by omega)]; omega
  refine Ev.bind hml (Ev.neg hposl (Ev.bind hq (Ev.pos rfl ?_)))
  rw [bne_self_f]
  refine Ev.step (fun k => rfl) ?_
  simp only [laws_FnExactRenameLine.j1]
  refine Ev.neg (by simp) (Ev.bind hm (Ev.bind hh (Ev.neg hpos (Ev.pos rfl (Ev.bind t0 (Ev.bind hi (Ev.bind hq (Ev.pos rfl ?_))))))))
  rw [bne_self_f]
  refine Ev.step (fun k => rfl) ?_
  simp only [laws_FnExactRenameLine.j2]
  exact Ev.neg (by simp) (Ev.bind hh (Ev.neg hpos (Ev.pos rfl (Ev.now true))))
end Go.Proofs.Ytenhgmddpkiliaa.Pure

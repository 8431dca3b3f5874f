/- Writing a line, in both texts. Plain Lean over the printed functions. -/
import Derived.Test.YtenhgmddpkiliaaPBx8
import Derived.Test.YtenhgmddpkiliaaPBx10
import Derived.Test.YtenhgmddpkiliaaPureBookOk
import Derived.Test.YtenhgmddpkiliaaPBclone
namespace Go.Proofs.Ytenhgmddpkiliaa.Pure
open Go.RowKit Go.Proofs.Ytenhgmddpkiliaa.PB Go.Proofs.YtenhgmddpkiliaaW.PrintWords Go.Proofs.YtenhgmddpkiliaaW.PrintLast Go.Proofs.YtenhgmddpkiliaaW.PrintMore Go.Proofs.YtenhgmddpkiliaaRP
set_option linter.unusedVariables false
set_option linter.unusedSimpArgs false

def SzM (b : List S45) : Prop := ∀ y, y ∈ b → y.f0.size ≤ 140737488351232
theorem SzM.sz {b : List S45} (h : SzM b) : Sz b := by
  intro i h0 h1
  have hi : i.toNat < b.length := by omega
  have : rd_T45 b i = b[i.toNat] := by simp [rd_T45, List.getD, hi]
  rw [this]
  exact h _ (List.getElem_mem hi)
theorem SzM.set {b : List S45} {x : S45} (h : SzM b) (hx : x.f0.size ≤ 140737488351232) (n : Nat) : SzM (b.set n x) := by
  intro y hy
  rcases List.mem_or_eq_of_mem_set hy with h2 | h2
  · exact h y h2
  · rw [h2]; exact hx
theorem SzM.snoc {b : List S45} {x : S45} (h : SzM b) (hx : x.f0.size ≤ 140737488351232) : SzM (b ++ [x]) := by
  intro y hy
  rcases List.mem_append.1 hy with h2 | h2
  · exact h y h2
  · rw [List.mem_singleton.1 h2]; exact hx

noncomputable def okA (o : List S45) : List S45 × Int := if validB o = true then (o, 0) else ([], 4)
noncomputable def writeA (b : List S45) (x : S45) : List S45 × Int :=
  if validB b = true then
    (if findL b x.f0 < 0 then (if (b.length : Int) ≥ 24 then ([], 3) else okA (b ++ [x])) else okA (b.set (findL b x.f0).toNat x))
  else ([], 1)
theorem valid_len {b : List S45} (h : validB b = true) : b.length ≤ 24 := by
  unfold validB at h
  by_cases c : b.length ≤ 24
  · exact c
  · rw [if_neg c] at h; simp at h
theorem s07write_ev (b : List S45) (x : S45) (hb : SzM b) (hx : x.f0.size ≤ 140737488351232) (c : validB b = true) : Ev (fun k => spec_l07Write.f k b x.f0 x.f1 x.f2 x.f3 x.f4 x.f5) (writeA b x) := by
  have hl := valid_len c
  unfold spec_l07Write.f writeA
  rw [if_pos c]
  have key : ∀ o : List S45, SzM o → Ev (fun k => (spec_l07Ok.f k o).bind fun t => if t = true then some (o, (0 : Int)) else some (([] : List S45), (4 : Int))) (okA o) := by
    intro o ho
    refine Ev.bind (sok_ev o ho.sz) ?_
    unfold okA
    by_cases c2 : validB o = true
    · exact Ev.pos c2 (Ev.to (Ev.now _) (by rw [if_pos c2]))
    · exact Ev.neg c2 (Ev.to (Ev.now _) (by rw [if_neg c2]))
  simp only [Option.bind_some, List.nil_append, List.length_nil]
  refine Ev.pos (by omega) (Ev.bind (sfind_ev b _ (by omega)) ?_)
  by_cases c2 : findL b x.f0 < 0
  · refine Ev.pos c2 ?_
    rw [if_pos c2]
    by_cases c3 : (b.length : Int) ≥ 24
    · rw [if_pos c3]; exact Ev.pos c3 (Ev.now _)
    · rw [if_neg c3]; exact Ev.neg c3 (Ev.pos (by omega) (key _ (hb.snoc hx)))
  · refine Ev.neg c2 ?_
    rw [if_neg c2]
    exact Ev.pos (by omega) (Ev.pos (find_lt _ _) (key _ (hb.set hx _)))
theorem iwrite_j0 (o : List S45) (ho : SzM o) : Ev (fun k => impl_WriteLine.j0 k o) (if (o.length : Int) > 24 then ([], 3) else okA o) := by
  refine Ev.step (fun k => rfl) ?_
  by_cases c : (o.length : Int) > 24
  · rw [if_pos c]; exact Ev.pos c (Ev.now _)
  · rw [if_neg c]
    refine Ev.neg c (Ev.bind (ivalid_ev o ho.sz) ?_)
    unfold okA
    by_cases c2 : validB o = true
    · exact Ev.pos c2 (Ev.to (Ev.now _) (by rw [if_pos c2]))
    · exact Ev.neg c2 (Ev.to (Ev.now _) (by rw [if_neg c2]))
theorem iwrite_ev (b : List S45) (x : S45) (hb : SzM b) (hx : x.f0.size ≤ 140737488351232) : Ev (fun k => impl_WriteLine.f k b x.f0 x.f1 x.f2 x.f3 x.f4 x.f5) (writeA b x) := by
  unfold impl_WriteLine.f writeA
  refine Ev.bind (ivalid_ev b hb.sz) ?_
  by_cases c : validB b = true
  · have hl := valid_len c
    refine Ev.pos c ?_
    rw [if_pos c]
    have hc : slices_CloneLine.f b = some b := by unfold slices_CloneLine.f; rw [if_pos (by omega)]
    simp only [hc, impl_lineOf.f, Option.bind_some]
    by_cases c2 : findL b x.f0 < 0
    · refine Ev.neg (by omega) (Ev.pos (by omega) (Ev.to (iwrite_j0 _ (hb.snoc hx)) ?_))
      rw [if_pos c2]
      by_cases c3 : (b.length : Int) ≥ 24
      · rw [if_pos c3, if_pos (by rw [List.length_append]; simp only [List.length_cons, List.length_nil]; omega)]
      · rw [if_neg c3, if_neg (by rw [List.length_append]; simp only [List.length_cons, List.length_nil]; omega)]
    · refine Ev.pos (by omega) (Ev.pos (by omega) (Ev.pos (find_lt _ _) (Ev.to (iwrite_j0 _ (hb.set hx _)) ?_)))
      rw [if_neg c2, if_neg (by rw [List.length_set]; omega)]
  · refine Ev.neg c ?_
    rw [if_neg c]; exact Ev.now _
theorem writeA_len (b : List S45) (x : S45) : (writeA b x).1.length ≤ 1000 := by
  have hk : ∀ o : List S45, (okA o).1.length ≤ 1000 := by
    intro o; unfold okA
    by_cases c : validB o = true
    · rw [if_pos c]; have := valid_len c; simp only; omega
    · rw [if_neg c]; simp
  unfold writeA
  split
  · split
    · split
      · simp
      · exact hk _
    · exact hk _
  · simp
end Go.Proofs.Ytenhgmddpkiliaa.Pure

/- KeptAfter: the program's answer is the reference's. Plain Lean over the printed functions. -/
import Derived.Test.YtenhgmddpkiliaaPBx12
import Derived.Test.YtenhgmddpkiliaaPBx1
import Derived.Test.YtenhgmddpkiliaaPureKeptA
import Derived.Test.YtenhgmddpkiliaaPureKeptL
import Derived.Test.YtenhgmddpkiliaaPureHeld
import Derived.Test.YtenhgmddpkiliaaDataPB
namespace Go.Proofs.Ytenhgmddpkiliaa.Pure
open Go.RowKit Go.Proofs.Ytenhgmddpkiliaa.PB Go.Proofs.YtenhgmddpkiliaaW.PrintWords Go.Proofs.YtenhgmddpkiliaaW.PrintLast Go.Proofs.YtenhgmddpkiliaaW.PrintMore Go.Proofs.YtenhgmddpkiliaaRP
set_option linter.unusedVariables false
set_option linter.unusedSimpArgs false

/-- What the law needs: for every book, what is kept, and line. -/
theorem FnExactKeptAfter (l0 : List S42) (l1 : List S120) (x : S42) (g0 : (∀ y ∈ l0, G42 y) ∧ l0.length * 72 ≤ 140737488351232) (g1 : (∀ y ∈ l1, G120 y) ∧ l1.length * 56 ≤ 140737488351232) (g2 : G42 x) : ∃ k, laws_FnExactKeptAfter.f k l0 l1 x.f0 x.f1 x.f2 x.f3 x.f4 x.f5 = some true := by
  have h0 := g0.2
  have h1 := g1.2
  refine Ev.rounds (g := fun k => laws_FnExactKeptAfter.f k l0 l1 x.f0 x.f1 x.f2 x.f3 x.f4 x.f5) ?_
  unfold laws_FnExactKeptAfter.f
  obtain ⟨r0, e0⟩ := szLineS_ev l0 (by omega) 1048576
  refine Ev.bind e0 ?_
  by_cases c0 : r0 < 0
  · exact Ev.pos c0 (Ev.now true)
  refine Ev.neg c0 ?_
  obtain ⟨r1, e1⟩ := szKeptS_ev l1 (by omega) r0
  refine Ev.bind e1 ?_
  by_cases c1 : r1 < 0
  · exact Ev.pos c1 (Ev.now true)
  refine Ev.neg c1 ?_
  obtain ⟨r2, e2⟩ := szLine_some x r1
  simp only [e2, Option.bind_some]
  by_cases c2 : r2 < 0
  · exact Ev.pos c2 (Ev.now true)
  refine Ev.neg c2 ?_
  have t0 := toLineS_ev l0 (by omega)
  have t1 := toKeptS_ev l1 (by omega)
  have hlen : (l0.map conv).length ≤ 140737488355327 := by simp; omega
  have hlenK : (l1.map convK).length ≤ 140737488355327 := by simp; omega
  have hbound : (l0.map conv).length ≤ 3909374676536 := by simp; omega
  have hboundK : (l1.map convK).length ≤ 5026338869833 := by simp; omega
  have hz : SzM (l0.map conv) := by
    intro y hy
    obtain ⟨z, hz, rfl⟩ := List.mem_map.1 hy
    exact (g0.1 z hz).1
  generalize l0.map conv = l at t0 hz hlen hbound
  generalize l1.map convK = q at t1 hlenK hboundK
  have hs := skept_ev l q (conv x) hz g2.1
  have hi := ikept_ev l q (conv x) hz g2.1
  have hbl := ansK_len l q (conv x)
  generalize hb : ansK l q (conv x) = b at hs hi hbl
  obtain ⟨b1, b2, b3⟩ := b
  simp only at hbl
  have hq := eqLineS_ev b1 (by omega)
  have hqK := eqKeptS_ev b2 (by omega)
  have hql := eqLineS_ev l hlen
  have hqlK := eqKeptS_ev q hlenK
  have hml := markLineS_ev l hlen
  have sml : mke l.length 1 = 1 + 6 * l.length := mke_small _ _ (by omega) (by omega)
  have hmlK := markKeptS_ev q (mke l.length 1) (by rw [sml]; omega) hlenK
  have smlK : mkeK q.length (mke l.length 1) = mke l.length 1 + 9 * q.length := mkeK_small _ _ (by rw [sml]; omega) (by rw [sml]; omega)
  have hm := markLineS_ev b1 (by omega)
  have sm : mke b1.length 1 = 1 + 6 * b1.length := mke_small _ _ (by omega) (by omega)
  have hmK := markKeptS_ev b2 (mke b1.length 1) (by rw [sm]; omega) (by omega)
  have hh := heldLineS_ev b1.length (by omega)
  have hhK := heldKeptS_ev b2.length (mke b1.length 1) (by rw [sm]; omega) (by omega)
  have smK : mkeK b2.length (mke b1.length 1) = mke b1.length 1 + 9 * b2.length := mkeK_small _ _ (by rw [sm]; omega) (by rw [sm]; omega)
  have hpos : ¬ mke b1.length 1 < 0 := by rw [sm]; omega
  have hposK : ¬ mkeK b2.length (mke b1.length 1) < 0 := by rw [smK, sm]; omega
  have hposl : ¬ mkeK q.length (mke l.length 1) < 0 := by rw [smlK, sml]; omega
  have nb : (b3 != b3) = false := by simp
  simp only [laws_toLine.f, Option.bind_some]
  refine Ev.bind t0 (Ev.bind t1 (Ev.bind hs (Ev.bind t0 (Ev.bind t1 (Ev.bind hi (Ev.bind hq (Ev.pos rfl (Ev.bind hqK (Ev.pos rfl ?_)))))))))
  rw [nb]
  refine Ev.step (fun k => rfl) ?_
  simp only [laws_FnExactKeptAfter.j0]
  refine Ev.neg (by simp) (Ev.bind t0 (Ev.bind hql (Ev.pos rfl (Ev.bind t1 (Ev.bind hqlK (Ev.pos rfl ?_))))))
  refine Ev.bind hml (Ev.bind hmlK (Ev.neg hposl (Ev.bind hq (Ev.pos rfl (Ev.bind hqK (Ev.pos rfl ?_))))))
  rw [nb]
  refine Ev.step (fun k => rfl) ?_
  simp only [laws_FnExactKeptAfter.j1, laws_toLine.f, Option.bind_some]
  refine Ev.neg (by simp) (Ev.bind hm (Ev.bind hmK (Ev.bind hh (Ev.neg hpos (Ev.bind hhK (Ev.neg hposK (Ev.pos rfl ?_)))))))
  refine Ev.bind t0 (Ev.bind t1 (Ev.bind hi (Ev.bind hq (Ev.pos rfl (Ev.bind hqK (Ev.pos rfl ?_))))))
  rw [nb]
  refine Ev.step (fun k => rfl) ?_
  simp only [laws_FnExactKeptAfter.j2]
  exact Ev.neg (by simp) (Ev.bind hh (Ev.neg hpos (Ev.bind hhK (Ev.neg hposK (Ev.pos rfl (Ev.now true))))))
end Go.Proofs.Ytenhgmddpkiliaa.Pure

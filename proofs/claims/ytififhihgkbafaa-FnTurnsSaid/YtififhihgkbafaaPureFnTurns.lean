/- A machine tells as many digits as are asked for. Plain Lean over the printed functions. -/
import Derived.Test.YtififhihgkbafaaPMx10
import Derived.Test.YtififhihgkbafaaPureTurnFacts
import Derived.Test.YtififhihgkbafaaPureTurnsB
import Derived.Test.YtififhihgkbafaaPureDigsI
import Derived.Test.YtififhihgkbafaaPureDraw
import Derived.Test.YtififhihgkbafaaDataPM
namespace Go.Proofs.Ytififhihgkbafaa.Pure
open Go.RowKit Go.Proofs.Ytififhihgkbafaa.PM Go.Proofs.YtififhihgkbafaaW.PrintWords Go.Proofs.YtififhihgkbafaaW.PrintLast Go.Proofs.YtififhihgkbafaaW.PrintMore Go.Proofs.YtififhihgkbafaaRP
set_option linter.unusedVariables false
set_option linter.unusedSimpArgs false
theorem digs_td (T : List S51) : digsOf T = tdL T := rfl
theorem digitAt_eq {h l : List Int} (hs : okS h l = true) (n : Nat) (hn : n ≤ 100000) : impl_DigitAt.f h l (n : Int) = some (digAt h l n, 0) := by
  unfold impl_DigitAt.f
  rw [ivalidS_eq, hs]
  simp only [Option.bind_some, if_true]
  rw [within_eq', inI_iff.2 ⟨by omega, by omega⟩]
  simp only [Option.bind_some, if_true]
  rw [iat_eq hs n hn]
  rfl
theorem law_loop {h l : List Int} (hs : okS h l = true) (n c a b e f : Int) (T : List S51) (hT : T.length ≤ 461) (ok : okTurns h l T) (v : Bool)
    (hv : Ev (fun k => laws_FnTurns.l0 k n T c T ((tdL T).length : Int) (tkN T : Int) (tdL T) (T.length : Int) a b e f h l) v) (r : List S51) : ∀ d : List S51, d ++ r = T →
    Ev (fun k => laws_FnTurns.l0 k n T c T ((tdL d).length : Int) (tkN d : Int) (tdL d) (d.length : Int) a b e f h l) v := by
  induction r with
  | nil =>
    intro d hd
    rw [List.append_nil] at hd
    subst hd
    exact hv
  | cons x r ih =>
    intro d hd
    have hln : d.length < T.length := by rw [← hd]; simp
    have hr : rd_T51 T (d.length : Int) = x := by rw [← hd, rd51_mid]
    have hq := ih (d ++ [x]) (by rw [← hd]; simp)
    have ht := td_tk d
    rw [List.length_append, List.length_singleton] at hq
    refine Ev.step (fun k => rfl) ?_
    simp only [laws_FnTurns.l0]
    rw [hr]
    refine Ev.pos (by omega) (Ev.pos (by omega) (Ev.pos (by omega) (Ev.neg (by simp) ?_)))
    cases hx : x.f0 with
    | true =>
      obtain ⟨q1, q2⟩ := tdL_told d hx
      rw [q1, q2, List.length_append, List.length_singleton] at hq
      refine Ev.pos (by first | rfl | trivial) (Ev.pos (by omega) ?_)
      rw [wnext d.length (by omega), wnext (tdL d).length (by omega)]
      exact hq
    | false =>
      obtain ⟨q1, q2⟩ := tdL_took d hx
      rw [q1, q2] at hq
      refine Ev.neg (by decide) ?_
      rw [digitAt_eq hs (tkN d) (by omega)]
      simp only [Option.bind_some]
      refine Ev.pos (by first | rfl | trivial) (Ev.pos (ok d x r hd.symm hx).symm ?_)
      rw [wnext d.length (by omega), wnext (tkN d) (by omega)]
      exact hq
theorem sameList_loop (a : List Int) (hn : a.length ≤ 140737488355327) (d : Nat) : ∀ (i : Nat), i + d = a.length → Ev (fun k => spec_l03SameList.l0 k a a (i : Int)) true := by
  induction d with
  | zero => intro i hi; exact Ev.step (fun k => rfl) (Ev.neg (by omega) (Ev.now _))
  | succ d ih =>
    intro i hi
    refine Ev.step (fun k => rfl) (Ev.pos (by omega) (Ev.pos (by omega) (Ev.pos (by omega) (Ev.pos rfl ?_))))
    rw [wnext i (by omega)]
    exact ih (i + 1) (by omega)
theorem alike_ev (a : List Int) (hn : a.length ≤ 140737488355327) : Ev (fun k => spec_A2Alike.f k a a) true := by
  unfold spec_A2Alike.f spec_l03SameList.f
  exact Ev.bind (Ev.pos rfl (sameList_loop a hn a.length 0 (by omega))) (Ev.now _)
theorem turns_ev {s t : List Int} (hs : Bytes s) (ht : Bytes t) : Ev (fun k => laws_FnTurns.f k s t) true := by
  obtain ⟨b, hb⟩ := long_some s t
  obtain ⟨m, em, okm, im⟩ := machine_ev hs
  obtain ⟨h, l, es, oks⟩ := stream_ev ht
  obtain ⟨n, en, hn⟩ := at_some hs
  have hin : inI (n : Int) 0 60 = true := inI_iff.2 ⟨by omega, by omega⟩
  obtain ⟨h16, l1, l14, _, _⟩ := okS_iff.1 oks
  have it := iturns_ev m h l n
  have st := sturns_ev m h l n (by omega) (by omega)
  have dg := idigits_ev m h l n
  have dg2 := idigits_ev ⟨2, 0, 0, 1⟩ h l n
  have it2 := iturns_ev m h l 61
  have g := turnsOf_good okm oks hin im
  have e2 : digitsOf ⟨2, 0, 0, 1⟩ h l n = ([], 0, 4) := by
    have e : turnsOf ⟨2, 0, 0, 1⟩ h l n = ([], 4) := by unfold turnsOf; rw [if_pos ⟨by decide, oks⟩, if_pos hin, if_neg (by decide)]
    unfold digitsOf; rw [e]; rfl
  have e3 : turnsOf m h l 61 = ([], 2) := by unfold turnsOf; rw [if_pos ⟨okm, oks⟩, if_neg (by decide)]
  rw [e2] at dg2
  rw [e3] at it2
  unfold digitsOf at dg
  generalize turnsOf m h l n = T at it st dg g
  rw [Int.toNat_natCast] at g
  obtain ⟨hT, g⟩ := g
  have fin : Ev (fun k => laws_FnTurns.j2 k (n : Int) false m.a m.b m.c m.d h l) true := by
    refine Ev.step (fun k => rfl) ?_
    simp only [laws_FnTurns.j2]
    exact Ev.neg (by decide) (Ev.bind dg2 (Ev.bind it2 (Ev.pos rfl (Ev.now _))))
  have loop : Ev (fun k => laws_FnTurns.l0 k (n : Int) T.1 T.2 T.1 0 0 [] 0 m.a m.b m.c m.d h l) true := by
    rcases g with ⟨e, hc⟩ | ⟨hc, ok, htd, hlast⟩
    · refine Ev.step (fun k => rfl) ?_
      simp only [laws_FnTurns.l0]
      rw [e]
      refine Ev.neg (by decide) (Ev.neg (by omega) ?_)
      by_cases c7 : T.2 = 7
      · exact Ev.pos c7 (Ev.now _)
      · refine Ev.neg c7 (Ev.to (Ev.now _) ?_)
        rcases hc with hc | hc
        · rw [hc]; rfl
        · exact absurd hc c7
    · refine law_loop oks (n : Int) T.2 m.a m.b m.c m.d T.1 hT ok true ?_ T.1 [] rfl
      have hl := td_tk T.1
      rw [if_pos hc, digs_td] at dg
      refine Ev.step (fun k => rfl) ?_
      simp only [laws_FnTurns.l0]
      refine Ev.neg (by omega) (Ev.pos hc (Ev.bind dg (Ev.pos (by omega) (Ev.pos rfl (Ev.pos (by dsimp only; omega) (Ev.bind (alike_ev (tdL T.1) (by omega)) (Ev.pos rfl ?_)))))))
      by_cases c : (n : Int) > 0
      · have w : wrap64 ((T.1.length : Int) - 1) = ((T.1.length - 1 : Nat) : Int) := by unfold wrap64; omega
        rw [w]
        have hlst : (rd_T51 T.1 ((T.1.length - 1 : Nat) : Int)).f0 = true := by
          rcases hlast with e | ⟨d, x, e, hx⟩
          · rw [e] at htd
            simp [tdL] at htd
            omega
          · rw [e, show ((d ++ [x]).length - 1 : Nat) = d.length by simp, rd51_mid]
            exact hx
        rw [hlst]
        exact Ev.pos c (Ev.pos (by omega) (Ev.pos (by omega) fin))
      · exact Ev.neg c fin
  unfold laws_FnTurns.f
  rw [hb]
  simp only [Option.bind_some]
  by_cases cb : b = true
  · exact Ev.pos cb (Ev.now _)
  refine Ev.neg cb (Ev.bind em (Ev.bind es ?_))
  rw [en]
  simp only [Option.bind_some]
  refine Ev.bind it (Ev.bind st (Ev.pos rfl (Ev.step (fun k => rfl) ?_)))
  simp only [laws_FnTurns.j0]
  exact Ev.neg (by simp) loop
theorem bytes_of {s : List Int} (h : ∀ x ∈ s, (Lit.int .u8 x).wf = true) : Bytes s := fun x hx => Go.bounds_u8 (h x hx)
/-- What the law needs. -/
theorem FnTurns (s t : List Int) (gs : GL44 s) (gt : GL44 t) : ∃ k, laws_FnTurns.f k s t = some true :=
  Ev.rounds (g := fun k => laws_FnTurns.f k s t) (turns_ev (bytes_of gs.1) (bytes_of gt.1))
end Go.Proofs.Ytififhihgkbafaa.Pure

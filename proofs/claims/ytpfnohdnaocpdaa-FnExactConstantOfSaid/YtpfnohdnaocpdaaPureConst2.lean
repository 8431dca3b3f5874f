/- The stream that a tree tells by itself: the reference's own way to it, and both alike. Plain Lean over the printed functions. -/
import Derived.Test.YtpfnohdnaocpdaaPTx13
import Derived.Test.YtpfnohdnaocpdaaPTx8
import Derived.Test.YtpfnohdnaocpdaaPTx5
import Derived.Test.YtpfnohdnaocpdaaPureConst
namespace Go.Proofs.Ytpfnohdnaocpdaa.Pure
open Go.RowKit Go.Proofs.Ytpfnohdnaocpdaa.PT Go.Proofs.YtpfnohdnaocpdaaW.PrintWords Go.Proofs.YtpfnohdnaocpdaaW.PrintLast Go.Proofs.YtpfnohdnaocpdaaW.PrintMore Go.Proofs.YtpfnohdnaocpdaaRP
set_option linter.unusedVariables false
set_option linter.unusedSimpArgs false
theorem rd_set (xs : List Int) (a b v : Int) (a0 : 0 ≤ a) (a1 : a < xs.length) (b0 : 0 ≤ b) : rd (xs.set a.toNat v) b = if a = b then v else rd xs b := by
  by_cases c : a = b
  · subst c
    rw [if_pos rfl]
    simp [rd, List.getD, show a.toNat < xs.length by omega]
  · rw [if_neg c]
    simp [rd, List.getD, List.getElem?_set, show ¬ a.toNat = b.toNat by omega]
theorem i16_small (i : Nat) (h : i ≤ 60) : IntKind.i16.wrap (i : Int) = i := by
  have : ∀ i : Nat, i < 61 → IntKind.i16.wrap (i : Int) = i := by decide
  exact this i (by omega)
theorem tree0 (l : List S89) (r : List Int) (s : List Bool) (hI : Inv l.length r s) (hl : l.length ≤ 60) (d : Nat) : ∀ (i : Nat) (x5 : List Int), i + d = r.length → x5.length = l.length → (∀ j : Nat, j < i → rd x5 (rd r (j : Int)) = j) →
    ∃ x5' : List Int, x5'.length = l.length ∧ (∀ j : Nat, j < r.length → rd x5' (rd r (j : Int)) = j) ∧ ∀ v, Ev (fun k => spec_l06Tree.l1 k [⟨l⟩] r x5' 0 []) v → Ev (fun k => spec_l06Tree.l0 k [⟨l⟩] r x5 (i : Int)) v := by
  have le := hI.le
  induction d with
  | zero =>
    intro i x5 hi h5 hj
    exact ⟨x5, h5, fun j hj' => hj j (by omega), fun v hv => Ev.step (fun k => rfl) (Ev.neg (by omega) hv)⟩
  | succ d ih =>
    intro i x5 hi h5 hj
    have hr := hI.rng _ (rd_memI (show i < r.length by omega))
    obtain ⟨x5', p1, p2, p3⟩ := ih (i + 1) (x5.set (rd r (i : Int)).toNat (i : Int)) (by omega) (by simp [h5]) (by
      intro j hj'
      have hrj := hI.rng _ (rd_memI (show j < r.length by omega))
      rw [rd_set x5 _ _ _ hr.1 (by rw [h5]; exact hr.2) hrj.1]
      by_cases c : j = i
      · subst c; rw [if_pos rfl]
      · rw [if_neg (hI.dup j i (by omega) (by omega)).symm]
        exact hj j (by omega))
    refine ⟨x5', p1, p2, fun v hv => ?_⟩
    refine Ev.step (fun k => rfl) (Ev.pos (by omega) (Ev.pos (by omega) (Ev.pos hr.1 (Ev.pos (by rw [h5]; exact hr.2) ?_))))
    rw [i16_small i (by omega), wnext i (by omega)]
    exact p3 v hv
/-- A node that tells, as the new tree has it. -/
def gN (l : List S89) (x5 : List Int) (a : Int) : S89 := ⟨(rd_T89 l a).f0, (rd_T89 l a).f1, ⟨rd x5 (rd_T89 l a).f2.f0, (rd_T89 l a).f2.f1, (rd_T89 l a).f2.f2⟩⟩
theorem tree1 (l : List S89) (hw : ∀ x ∈ l, Rg x) (hv : validT l = true) (r : List Int) (s : List Bool) (hI : Inv l.length r s) (hk : ∀ y ∈ r, ¬ (rd_T89 l y).f0 = 1) (x5 : List Int) (h5 : x5.length = l.length) (d : Nat) : ∀ (i : Nat) (acc : List S89), i + d = r.length → acc.length = i →
    Ev (fun k => spec_l06Tree.l1 k [⟨l⟩] r x5 (i : Int) acc) (acc ++ (r.drop i).map (gN l x5)) := by
  have hl := (validT_iff.1 hv).2.1
  have le := hI.le
  induction d with
  | zero =>
    intro i acc hi ha
    refine Ev.step (fun k => rfl) (Ev.neg (by omega) (Ev.to (Ev.now _) ?_))
    rw [List.drop_of_length_le (by omega)]
    simp
  | succ d ih =>
    intro i acc hi ha
    have hm := rd_memI (show i < r.length by omega)
    have hr := hI.rng _ hm
    have k1 := hk _ hm
    have hx := Wy.of hw hv hr.1 hr.2
    have h0 : 0 ≤ (rd_T89 l (rd r (i : Int))).f2.f0 ∧ (rd_T89 l (rd r (i : Int))).f2.f0 < (l.length : Int) := hx 0 (by omega)
    have nx := ih (i + 1) (acc ++ [gN l x5 (rd r (i : Int))]) (by omega) (by simp [ha])
    refine Ev.step (fun k => rfl) (Ev.pos (by omega) (Ev.pos (by simp) (Ev.pos (by omega) (Ev.pos hr.1 (Ev.pos hr.2 ?_)))))
    have w1 : ∀ a b c e f : Int, ¬ a = 1 → spec_l06Ways.f [(⟨a, b, ⟨c, e, f⟩⟩ : S89)] = some 1 := by
      intro a b c e f h
      rw [ways_eq, if_neg h]
    have hg := hx 0 (by omega)
    refine Ev.step (fun k => rfl) (Ev.bind (Ev.is (fun _ => w1 _ _ _ _ _ k1)) (Ev.pos (by omega) (Ev.pos (by omega) (Ev.pos (by omega) (Ev.pos hg.1 (Ev.pos (by rw [h5]; exact hg.2) ?_))))))
    refine Ev.step (fun k => rfl) (Ev.bind (Ev.is (fun _ => w1 _ _ _ _ _ k1)) (Ev.neg (by unfold wrap64; omega) (Ev.pos (by omega) ?_)))
    rw [List.append_assoc, List.singleton_append] at nx
    rw [wnext i (by omega), dropI r i (by omega), List.map_cons]
    exact nx
theorem cst_l1 (y : List S89) (hy : y.length ≤ 60) (d : Nat) : ∀ (i : Nat) (ds : List Int), i + d = y.length → ds.length = i → ∀ v,
    Ev (fun k => spec_ConstantOf.l1 k (ds ++ (y.drop i).map fun x => x.f1) ((y.length : Nat) : Int) y) v → Ev (fun k => spec_ConstantOf.l1 k ds (i : Int) y) v := by
  induction d with
  | zero =>
    intro i ds hi hd v hv
    rw [List.drop_of_length_le (by omega), List.map_nil, List.append_nil] at hv
    rw [show i = y.length by omega]
    exact hv
  | succ d ih =>
    intro i ds hi hd v hv
    rw [drop_T89 y i (by omega), List.map_cons, List.append_cons] at hv
    have nx := ih (i + 1) (ds ++ [(rd_T89 y (i : Int)).f1]) (by omega) (by simp [hd]) v hv
    refine Ev.step (fun k => rfl) (Ev.pos (by omega) (Ev.pos (by omega) (Ev.pos (by omega) ?_)))
    rw [wnext i (by omega)]
    exact nx
theorem rd_map (l : List S89) (x5 r : List Int) (i : Nat) (h : i < r.length) : rd_T89 (r.map (gN l x5)) (i : Int) = gN l x5 (rd r (i : Int)) := by
  rw [rd_at r i h]
  simp [rd_T89, List.getD, h]
theorem cst_l0_ok (l : List S89) (r : List Int) (s : List Bool) (hI : Inv l.length r s) (hl : l.length ≤ 60) (hk : ∀ y ∈ r, ¬ (rd_T89 l y).f0 = 1) (v : List Int × List Int × Int) (hv : Ev (fun k => (spec_l06Tree.f k [(⟨l⟩ : S34)] r).bind fun t => spec_ConstantOf.l1 k [] 0 t) v) (d : Nat) : ∀ i : Nat, i + d = r.length → Ev (fun k => spec_ConstantOf.l0 k r (i : Int) l) v := by
  have le := hI.le
  induction d with
  | zero => intro i hi; exact Ev.step (fun k => rfl) (Ev.neg (by omega) hv)
  | succ d ih =>
    intro i hi
    have hm := rd_memI (show i < r.length by omega)
    have hr := hI.rng _ hm
    refine Ev.step (fun k => rfl) (Ev.pos (by omega) (Ev.pos (by omega) (Ev.pos hr.1 (Ev.pos hr.2 (Ev.neg (hk _ hm) ?_)))))
    rw [wnext i (by omega)]
    exact ih (i + 1) (by omega)
theorem cst_l0_bad (l : List S89) (r : List Int) (s : List Bool) (hI : Inv l.length r s) (hl : l.length ≤ 60) (x : Nat) (hx : x < r.length) (h1 : (rd_T89 l (rd r (x : Int))).f0 = 1) (hk : ∀ j : Nat, j < x → ¬ (rd_T89 l (rd r (j : Int))).f0 = 1) (d : Nat) : ∀ i : Nat, i + d = x → Ev (fun k => spec_ConstantOf.l0 k r (i : Int) l) ([], [], 4) := by
  have le := hI.le
  induction d with
  | zero =>
    intro i hi
    obtain rfl : i = x := by omega
    have hr := hI.rng _ (rd_memI hx)
    exact Ev.step (fun k => rfl) (Ev.pos (by omega) (Ev.pos (by omega) (Ev.pos hr.1 (Ev.pos hr.2 (Ev.pos h1 (Ev.now _))))))
  | succ d ih =>
    intro i hi
    have hr := hI.rng _ (rd_memI (show i < r.length by omega))
    refine Ev.step (fun k => rfl) (Ev.pos (by omega) (Ev.pos (by omega) (Ev.pos hr.1 (Ev.pos hr.2 (Ev.neg (hk i (by omega)) ?_)))))
    rw [wnext i (by omega)]
    exact ih (i + 1) (by omega)
/-- Both texts tell the same stream of a tree. -/
theorem const_ev (l : List S89) (hw : ∀ x ∈ l, Rg x) (hl : l.length ≤ 140737488355327) : ∃ A : List Int × List Int × Int, A.1.length ≤ 60 ∧ A.2.1.length ≤ 60 ∧ Ev (fun k => spec_ConstantOf.f k l) A ∧ Ev (fun k => impl_ConstantOf.f k l) A := by
  unfold spec_ConstantOf.f impl_ConstantOf.f
  by_cases hv : validT l = true
  case neg =>
    refine ⟨([], [], 1), by simp, by simp, Ev.bind (sokT_ev l hw hl) (Ev.neg hv (Ev.now _)), ?_⟩
    exact Ev.bind (Ev.is (fun _ => ivalidT_eq l)) (Ev.neg hv (Ev.now _))
  obtain ⟨l1, l60, _⟩ := validT_iff.1 hv
  have sf : ∀ r v, Ev (fun k => spec_l06Reached.l0 k [⟨l⟩] ([] ++ [0]) ((List.replicate l.length false).set (0 : Int).toNat true) (([] : List Int).length : Int)) r → Ev (fun k => spec_ConstantOf.l0 k r 0 l) v → Ev (fun k => (spec_l06Ok.f k [(⟨l⟩ : S34)]).bind fun t => if t = true then ((spec_l06Reached.f k [(⟨l⟩ : S34)]).bind fun t => spec_ConstantOf.l0 k t 0 l) else some ([], [], 1)) v := by
    intro r v hr hv'
    refine Ev.bind (sokT_ev l hw hl) (Ev.pos hv (Ev.bind ?_ hv'))
    unfold spec_l06Reached.f
    refine Ev.pos (by simp) (Ev.pos (show (0 : Int) ≤ (l.length : Int) by omega) (Ev.pos (show ((l.length : Int)).toNat ≤ 281474976710656 by omega) ?_))
    simp only [Option.bind_some]
    exact Ev.pos (by simp [rd_T34, List.getD]; omega) hr
  have mf : ∀ v, Ev (fun k => impl_ConstantOf.l0 k [] (dg l []) 0 l) v → Ev (fun k => (impl_ValidTree.f l).bind fun t => if t = true then impl_ConstantOf.l0 k [] [] 0 l else some ([], [], 1)) v := by
    intro v hv'
    exact Ev.bind (Ev.is (fun _ => ivalidT_eq l)) (Ev.pos hv hv')
  rcases chain l hw hv l.length [] 0 _ rfl (Inv.start l.length l1) (fun y hy => by cases hy) with ⟨r, x, s, r1, r2, r3, r4, r5, r6⟩ | ⟨r, x, s, r1, r2, r3, r4, r5, r6⟩
  · have le := r1.le
    have dl := dg_len l r
    obtain ⟨q, q1, q2, qs, qi⟩ := fin_ev ((dg l r).take x) ((dg l r).drop x) (by simp; omega) (by simp; omega) (by simp; omega)
    refine ⟨cfin q, ?_, ?_, sf r _ r5 (cst_l0_ok l r s r1 l60 r3 _ ?_ r.length 0 (by omega)), mf _ (r6 _ qi)⟩
    · unfold cfin; split
      · exact q1
      · simp
    · unfold cfin; split
      · exact q2
      · simp
    · obtain ⟨x5, e1, e2, e3⟩ := tree0 l r s r1 l60 r.length 0 (List.replicate l.length 0) (by omega) (by simp) (fun j hj => by omega)
      have y := e3 _ (tree1 l hw hv r s r1 r3 x5 e1 r.length 0 [] (by omega) rfl)
      rw [List.nil_append, List.drop_zero] at y
      have yt : Ev (fun k => spec_l06Tree.f k [(⟨l⟩ : S34)] r) (r.map (gN l x5)) := by
        unfold spec_l06Tree.f
        exact Ev.pos (by simp) (Ev.pos (show (0 : Int) ≤ (l.length : Int) by omega) (Ev.pos (show ((l.length : Int)).toNat ≤ 140737488355328 by omega) y))
      have ly : (r.map (gN l x5)).length = r.length := by simp
      refine Ev.bind yt (cst_l1 (r.map (gN l x5)) (by omega) r.length 0 [] (by omega) rfl _ ?_)
      have ed : ((r.map (gN l x5)).drop 0).map (fun z => z.f1) = dg l r := by
        rw [List.drop_zero, List.map_map]
        rfl
      rw [ed, List.nil_append, ly]
      have el : (rd_T89 (r.map (gN l x5)) ((r.length - 1 : Nat) : Int)).f2.f0 = (x : Int) := by
        rw [rd_map l x5 r (r.length - 1) (by omega)]
        show rd x5 (rd_T89 l (rd r ((r.length - 1 : Nat) : Int))).f2.f0 = _
        rw [r4]
        exact e2 x r2
      have ew : wrap64 (((r.map (gN l x5)).length : Int) - 1) = ((r.length - 1 : Nat) : Int) := by
        rw [ly]
        exact (wrap_id (by omega) (by omega)).trans (by omega)
      refine Ev.step (fun k => rfl) (Ev.neg (by omega) ?_)
      rw [ew, el]
      exact Ev.pos (by omega) (Ev.pos (by omega) (Ev.pos (by omega) (Ev.pos (by omega) qs)))
  · refine ⟨([], [], 4), by simp, by simp, sf r _ r5 (cst_l0_bad l r s r1 l60 x r2 r3 r4 x 0 (by omega)), mf _ r6⟩
end Go.Proofs.Ytpfnohdnaocpdaa.Pure

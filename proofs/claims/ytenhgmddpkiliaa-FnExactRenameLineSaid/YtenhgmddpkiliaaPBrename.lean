/- impl.RenameLine by hand: a loop over three pointers into a line of a row of one's own. -/
import Derived.Test.YtenhgmddpkiliaaPBx11
import Derived.Test.YtenhgmddpkiliaaPBx9
import Derived.Test.YtenhgmddpkiliaaPBlineOf
import Derived.Test.YtenhgmddpkiliaaPBclone
import Derived.Deep.RegionWith
import Derived.IntWalk
namespace Go.Proofs.Ytenhgmddpkiliaa.PB
open Go.RowKit Go.Proofs.YtenhgmddpkiliaaW.PrintWords Go.Proofs.YtenhgmddpkiliaaW.PrintLast Go.Proofs.YtenhgmddpkiliaaW.PrintMore Go.Lib Go.Proofs.YtenhgmddpkiliaaRP
set_option linter.unusedVariables false
set_option linter.unusedSimpArgs false

def rs (o n s : ByteArray) : ByteArray := if s.toList = o.toList then n else s
def rn0 (o n : ByteArray) (x : S45) : S45 := { x with f0 := rs o n x.f0 }
def rn1 (o n : ByteArray) (x : S45) : S45 := { x with f2 := rs o n x.f2 }
def rn2 (o n : ByteArray) (x : S45) : S45 := { x with f3 := rs o n x.f3 }
def rnL (o n : ByteArray) (x : S45) : S45 := rn2 o n (rn1 o n (rn0 o n x))
section
variable {W : World} {base go n co : Nat} {ok : Nat → Prop} {xs : List S45} {i : Nat}
theorem line_cells (h : Kd.R k45 45 W base ok (.slice (some ⟨go, 0, none⟩) n co) xs) (hi : i < n) :
    (W.cell? ⟨go, i * 6, none⟩ = some (.string (rd_T45 xs (i : Int)).f0) ∧ W.cell? ⟨go, i * 6 + 2, none⟩ = some (.string (rd_T45 xs (i : Int)).f2) ∧ W.cell? ⟨go, i * 6 + 3, none⟩ = some (.string (rd_T45 xs (i : Int)).f3)) ∧
    W.frozen? ⟨go, i * 6, none⟩ = false ∧ W.frozen? ⟨go, i * 6 + 2, none⟩ = false ∧ W.frozen? ⟨go, i * 6 + 3, none⟩ = false := by
  obtain ⟨c, hcl, hM, hcc, hfr⟩ := Kd.R_elem h z45 (i : Int) (by omega) (by omega)
  obtain rfl := k45_openM hM
  exact ⟨⟨hcc 0 _ rfl, hcc 2 _ rfl, hcc 3 _ rfl⟩, hfr 0, hfr 2, hfr 3⟩
theorem line_put (h : Kd.R k45 45 W base ok (.slice (some ⟨go, 0, none⟩) n co) xs) (hi : i < n) (s : ByteArray) :
    (Kd.R k45 45 (W.setCell ⟨go, i * 6, none⟩ (.string s)) base ok (.slice (some ⟨go, 0, none⟩) n co) (xs.set i { rd_T45 xs (i : Int) with f0 := s }) ∧ W.grownBy (W.setCell ⟨go, i * 6, none⟩ (.string s)) (some go)) ∧
    (Kd.R k45 45 (W.setCell ⟨go, i * 6 + 2, none⟩ (.string s)) base ok (.slice (some ⟨go, 0, none⟩) n co) (xs.set i { rd_T45 xs (i : Int) with f2 := s }) ∧ W.grownBy (W.setCell ⟨go, i * 6 + 2, none⟩ (.string s)) (some go)) ∧
    (Kd.R k45 45 (W.setCell ⟨go, i * 6 + 3, none⟩ (.string s)) base ok (.slice (some ⟨go, 0, none⟩) n co) (xs.set i { rd_T45 xs (i : Int) with f3 := s }) ∧ W.grownBy (W.setCell ⟨go, i * 6 + 3, none⟩ (.string s)) (some go)) := by
  obtain ⟨c, hcl, hM, hcc, hfr⟩ := Kd.R_elem h z45 (i : Int) (by omega) (by omega)
  obtain rfl := k45_openM hM
  refine ⟨?_, ?_, ?_⟩
  · exact Kd.R_seg h (i : Int) (by omega) (by omega) (seg := [.string s]) (j := 0) hcl hcc (show _ ≤ 6 from by simp) (x' := { rd_T45 xs (i : Int) with f0 := s }) (okp := fun _ => False) (k45_mkM _ _ _ { rd_T45 xs (i : Int) with f0 := s }) (fun _ h => h.elim)
  · exact Kd.R_seg h (i : Int) (by omega) (by omega) (seg := [.string s]) (j := 2) hcl hcc (show _ ≤ 6 from by simp) (x' := { rd_T45 xs (i : Int) with f2 := s }) (okp := fun _ => False) (k45_mkM _ _ _ { rd_T45 xs (i : Int) with f2 := s }) (fun _ h => h.elim)
  · exact Kd.R_seg h (i : Int) (by omega) (by omega) (seg := [.string s]) (j := 3) hcl hcc (show _ ≤ 6 from by simp) (x' := { rd_T45 xs (i : Int) with f3 := s }) (okp := fun _ => False) (k45_mkM _ _ _ { rd_T45 xs (i : Int) with f3 := s }) (fun _ h => h.elim)
end
def impl_RenameLine.f (k : Nat) (l0 : List S45) (a1 a2 : ByteArray) : Option (List S45 × Int) := (impl_namesOk.f k l0 0 0 [a1]).bind fun c => if c = 0 then ((impl_lineName.f k a2).bind fun t => if t = true then (if a2.toList ≠ a1.toList ∧ 0 ≤ findL l0 a2 then some ([], 4) else if l0.length ≤ 1000 then some (l0.map (rnL a1 a2), 0) else none) else some ([], 2)) else some ([], c)
theorem impl_RenameLine.mono : ∀ a0 a1 a2 k, LeO (impl_RenameLine.f k a0 a1 a2) (impl_RenameLine.f (k + 1) a0 a1 a2) := by
  intro a0 a1 a2 k
  unfold impl_RenameLine.f
  refine LeO.bind (impl_namesOk.mono _ _ _ _ _) (fun _ => LeO.ite (LeO.bind (impl_lineName.mono _ _) (fun _ => LeO.refl _)) (LeO.refl _))
def outR (o n : ByteArray) (l : List S45) (j : Nat) : List S45 := (l.take j).map (rnL o n) ++ l.drop j
theorem outR_len (o n : ByteArray) (l : List S45) (j : Nat) : (outR o n l j).length = l.length := by
  unfold outR
  simp only [List.length_append, List.length_map, List.length_take, List.length_drop]
  omega
theorem outR_rd (o n : ByteArray) (l : List S45) (j : Nat) (h : j < l.length) : rd_T45 (outR o n l j) (j : Int) = rd_T45 l (j : Int) := by
  unfold rd_T45 outR
  have e : ((j : Int)).toNat = j := by omega
  rw [e]
  rw [List.getD_eq_getElem?_getD, List.getElem?_append_right (by simp; omega), List.getElem?_drop, List.getD_eq_getElem?_getD]
  have e2 : j + (j - (List.map (rnL o n) (List.take j l)).length) = j := by simp only [List.length_map, List.length_take]; omega
  rw [e2]
theorem outR_step (o n : ByteArray) (l : List S45) (j : Nat) (h : j < l.length) : (outR o n l j).set j (rnL o n (rd_T45 l (j : Int))) = outR o n l (j + 1) := by
  have hd : l.drop j = l[j] :: l.drop (j + 1) := List.drop_eq_getElem_cons h
  have hr : rd_T45 l (j : Int) = l[j] := by
    unfold rd_T45
    have e : ((j : Int)).toNat = j := by omega
    rw [e, List.getD_eq_getElem?_getD, List.getElem?_eq_getElem h]; rfl
  unfold outR
  rw [hr, hd, List.set_append_right _ _ (by simp; omega)]
  simp only [List.length_map, List.length_take, Nat.min_eq_left (Nat.le_of_lt h), Nat.sub_self, List.set_cons_zero]
  rw [List.take_add_one, List.getElem?_eq_getElem h, List.map_append, List.append_assoc]
  rfl
def stR (o n : ByteArray) (l : List S45) (i : Nat) (j : Nat) : List S45 := if j = 0 then l else if j = 1 then l.set i (rn0 o n (rd_T45 l (i : Int))) else if j = 2 then l.set i (rn1 o n (rn0 o n (rd_T45 l (i : Int)))) else l.set i (rnL o n (rd_T45 l (i : Int)))
theorem rn0_pos {o n : ByteArray} {x : S45} (c : x.f0.toList = o.toList) : rn0 o n x = { x with f0 := n } := by unfold rn0 rs; rw [if_pos c]
theorem rn0_neg {o n : ByteArray} {x : S45} (c : ¬ x.f0.toList = o.toList) : rn0 o n x = x := by unfold rn0 rs; rw [if_neg c]
theorem rn1_pos {o n : ByteArray} {x : S45} (c : x.f2.toList = o.toList) : rn1 o n x = { x with f2 := n } := by unfold rn1 rs; rw [if_pos c]
theorem rn1_neg {o n : ByteArray} {x : S45} (c : ¬ x.f2.toList = o.toList) : rn1 o n x = x := by unfold rn1 rs; rw [if_neg c]
theorem rn2_pos {o n : ByteArray} {x : S45} (c : x.f3.toList = o.toList) : rn2 o n x = { x with f3 := n } := by unfold rn2 rs; rw [if_pos c]
theorem rn2_neg {o n : ByteArray} {x : S45} (c : ¬ x.f3.toList = o.toList) : rn2 o n x = x := by unfold rn2 rs; rw [if_neg c]
theorem set_rd (l : List S45) (i : Nat) (h : i < l.length) : l.set i (rd_T45 l (i : Int)) = l := by
  have hr : rd_T45 l (i : Int) = l[i] := by
    unfold rd_T45
    have e : ((i : Int)).toNat = i := by omega
    rw [e, List.getD_eq_getElem?_getD, List.getElem?_eq_getElem h]; rfl
  rw [hr, List.set_getElem_self]
theorem rd_set (l : List S45) (i : Nat) (x : S45) (h : i < l.length) : rd_T45 (l.set i x) (i : Int) = x := by
  unfold rd_T45
  have e : ((i : Int)).toNat = i := by omega
  rw [e, List.getD_eq_getElem?_getD, List.getElem?_set_self (by simpa using h)]; rfl
theorem st1_pos {o n : ByteArray} {l : List S45} {j : Nat} (h : j < l.length) (c : (rd_T45 (stR o n l j 0) (j : Int)).f0.toList = o.toList) : (stR o n l j 0).set j { rd_T45 (stR o n l j 0) (j : Int) with f0 := n } = stR o n l j 1 := by
  have e0 : stR o n l j 0 = l := rfl
  have e1 : stR o n l j 1 = l.set j (rn0 o n (rd_T45 l (j : Int))) := rfl
  rw [e0] at c ⊢
  rw [e1, rn0_pos c]
theorem st1_neg {o n : ByteArray} {l : List S45} {j : Nat} (h : j < l.length) (c : ¬ (rd_T45 (stR o n l j 0) (j : Int)).f0.toList = o.toList) : stR o n l j 0 = stR o n l j 1 := by
  have e0 : stR o n l j 0 = l := rfl
  have e1 : stR o n l j 1 = l.set j (rn0 o n (rd_T45 l (j : Int))) := rfl
  rw [e0] at c ⊢
  rw [e1, rn0_neg c, set_rd l j h]
theorem st2_pos {o n : ByteArray} {l : List S45} {j : Nat} (h : j < l.length) (c : (rd_T45 (stR o n l j 1) (j : Int)).f2.toList = o.toList) : (stR o n l j 1).set j { rd_T45 (stR o n l j 1) (j : Int) with f2 := n } = stR o n l j 2 := by
  have e1 : stR o n l j 1 = l.set j (rn0 o n (rd_T45 l (j : Int))) := rfl
  have e2 : stR o n l j 2 = l.set j (rn1 o n (rn0 o n (rd_T45 l (j : Int)))) := rfl
  rw [e1, rd_set _ _ _ h] at c ⊢
  rw [e2, rn1_pos c, List.set_set]
theorem st2_neg {o n : ByteArray} {l : List S45} {j : Nat} (h : j < l.length) (c : ¬ (rd_T45 (stR o n l j 1) (j : Int)).f2.toList = o.toList) : stR o n l j 1 = stR o n l j 2 := by
  have e1 : stR o n l j 1 = l.set j (rn0 o n (rd_T45 l (j : Int))) := rfl
  have e2 : stR o n l j 2 = l.set j (rn1 o n (rn0 o n (rd_T45 l (j : Int)))) := rfl
  rw [e1, rd_set _ _ _ h] at c
  rw [e1, e2, rn1_neg c]
theorem st3_pos {o n : ByteArray} {l : List S45} {j : Nat} (h : j < l.length) (c : (rd_T45 (stR o n l j 2) (j : Int)).f3.toList = o.toList) : (stR o n l j 2).set j { rd_T45 (stR o n l j 2) (j : Int) with f3 := n } = stR o n l j 3 := by
  have e2 : stR o n l j 2 = l.set j (rn1 o n (rn0 o n (rd_T45 l (j : Int)))) := rfl
  have e3 : stR o n l j 3 = l.set j (rn2 o n (rn1 o n (rn0 o n (rd_T45 l (j : Int))))) := rfl
  rw [e2, rd_set _ _ _ h] at c ⊢
  rw [e3, rn2_pos c, List.set_set]
theorem st3_neg {o n : ByteArray} {l : List S45} {j : Nat} (h : j < l.length) (c : ¬ (rd_T45 (stR o n l j 2) (j : Int)).f3.toList = o.toList) : stR o n l j 2 = stR o n l j 3 := by
  have e2 : stR o n l j 2 = l.set j (rn1 o n (rn0 o n (rd_T45 l (j : Int)))) := rfl
  have e3 : stR o n l j 3 = l.set j (rn2 o n (rn1 o n (rn0 o n (rd_T45 l (j : Int))))) := rfl
  rw [e2, rd_set _ _ _ h] at c
  rw [e2, e3, rn2_neg c]
theorem st3_out (o n : ByteArray) (l : List S45) (j : Nat) (h : j < l.length) : stR o n (outR o n l j) j 3 = outR o n l (j + 1) := by
  have e3 : stR o n (outR o n l j) j 3 = (outR o n l j).set j (rnL o n (rd_T45 (outR o n l j) (j : Int))) := rfl
  rw [e3, outR_rd o n l j h, outR_step o n l j h]
set_option maxHeartbeats 8000000 in
set_option maxRecDepth 100000 in
theorem impl_RenameLine.calls (k : Nat) (A0 : Option Addr) (c0 : Nat) (l0 : List S45) (a1 a2 : ByteArray) (r1 : List S45) (r2 : Int) (w : World) (hr0 : Kd.C k45 w A0 l0.length l0) (hc0 : l0.length ≤ c0) (h : impl_RenameLine.f k l0 a1 a2 = some (r1, r2)) :
    Calls Try.prog 41 #[.slice A0 l0.length c0, .string a1, .string a2] w fun e w' => ∃ v0_ : Value, e = .returned (.tuple #[v0_, .int .i64 r2]) ∧ Kd.R k45 45 w' w.heap.size (fun _ => True) v0_ r1 ∧ Below w.heap.size w w' := by
  have HR0 := Aside0.mk hr0
  have HC0 := Aside0.mk hc0
  clear hr0 hc0
  have HB := Aside0.mk (Below.refl w.heap.size w)
  unfold impl_RenameLine.f at h
  obtain ⟨c, hc, h⟩ := Option.bind_eq_some_iff.mp h
  obtain ⟨y3, hy3⟩ : ∃ y_ : List ByteArray, y_ = [a1] := ⟨_, rfl⟩
  rw [← hy3] at hc
  have A3 := Aside0.mk hc
  have Ny3 := Aside0.mk hy3
  clear hc hy3
  by_cases c4 : c = 0
  · rw [if_pos c4] at h
    subst c4
    obtain ⟨t, ht, h⟩ := Option.bind_eq_some_iff.mp h
    have A4 := Aside0.mk ht
    clear ht
    by_cases c5 : t = true
    · rw [if_pos c5] at h
      subst c5
      have hx : ∃ y, y = findL l0 a2 := ⟨_, rfl⟩
      obtain ⟨y, hy⟩ := hx
      have hline : impl_lineOf.f l0 a2 = some y := by rw [hy]; rfl
      have A6 := Aside0.mk hline
      rw [← hy] at h
      clear hline hy
      by_cases c6 : a2.toList ≠ a1.toList ∧ 0 ≤ y
      · rw [if_pos c6] at h
        simp only [Option.some.injEq, Prod.mk.injEq] at h
        obtain ⟨rfl, rfl⟩ := h
        have q1 : (a2.toList != a1.toList) = true := bne_iff_ne.mpr c6.1
        have q3 : (a2.toList == a1.toList) = false := beq_eq_false_iff_ne.mpr c6.1
        have q2 : decide (0 ≤ y) = true := decide_eq_true c6.2
        have c8 : ¬ a2.toList = a1.toList := c6.1
        have c9 : 0 ≤ y := c6.2
        clear c6
        go_enter Try.func41, Try.ntmps41
        go_wp2_with (first | ((with_reducible refine gate_dst (N := 15) rfl ?_); refine Kd.R_lit Kd.string _ 9 ?hg (N := 15) ?hd (xs := ([a1] : List ByteArray)) (inner := [.string a1]) (ok := fun _ => True) (okp := fun _ => True) ?hr ?hp (fun _ hk => hk) trivial (Below.refl _ _) (Nat.le_refl _) (by simp) ?_; (case hd => rfl); (case hg => rfl); (case hr => first | (go_simp; done) | (go_simp; rfl)); (case hp => exact (Reps.one (show Kd.M Kd.string _ _ _ a1 [.string a1] from rfl) (Reps.none _ _))); intro v341 w6 ho7 hb hg_ hnew_; clear hg_ hnew_; rw [← Ny3.out] at ho7; have HO342 := Aside0.mk ho7; have n1_ := Aside0.mk (below_step (by repeat (first | exact HB.out | apply below_alloc)) hb); clear HB; have HB := n1_; clear n1_; clear hb ho7; obtain ⟨Ao8, co8, eo8⟩ := Kd.R_slice HO342.out; subst eo8) | (go_at_call 83; (with_reducible refine (impl_namesOk.calls k _ _ l0 0 0 _ _ y3 0 _ ?side1 ?side2 ?side3 ?side4 A3.out).mono ?_); (case side1 => repeat (first | exact (Kd.C_below HR0.out HB.out) | (with_reducible refine Kd.C_alloc ?_ _))); (case side2 => exact HC0.out); (case side3 => repeat (first | exact (Kd.R_reads' HO342.out).2.2 | (with_reducible refine Kd.C_alloc ?_ _))); (case side4 => exact (Kd.R_reads' HO342.out).2.1); rintro e w9 ⟨rfl, hb⟩; have n1_ := Aside0.mk (below_step (by repeat (first | exact HB.out | apply below_alloc)) hb); clear HB HO342; have HB := n1_; clear n1_ hb) | (go_at_call 90; (with_reducible refine (impl_lineName.calls k a2 true _ A4.out).mono ?_); rintro e w10 ⟨rfl, ⟨nd, rfl⟩⟩) | (go_at_call 79; (with_reducible refine (impl_lineOf.calls _ _ l0 a2 y _ ?side1 ?side2 A6.out).mono ?_); (case side1 => repeat (first | exact (Kd.C_below HR0.out HB.out) | (with_reducible refine Kd.C_alloc ?_ _) | (with_reducible refine Kd.C_drewN ?_ _) | (with_reducible refine Kd.C_drew ?_))); (case side2 => exact HC0.out); rintro e w11 ⟨rfl, hb⟩; have n1_ := Aside0.mk (below_step (by repeat (first | exact HB.out | apply below_alloc | apply pw_below_drewN | apply below_drew1)) hb); clear HB; have HB := n1_; clear n1_ hb))
        go_ret2
        exact ⟨_, rfl, Kd.R_nil _ _ _ _ _, by repeat (first | exact HB.out | apply below_alloc | apply pw_below_drewN | apply below_drew1)⟩
      · rw [if_neg c6] at h
        by_cases c7 : l0.length ≤ 1000
        case neg => rw [if_neg c7] at h; exact absurd h (by simp)
        rw [if_pos c7] at h
        simp only [Option.some.injEq, Prod.mk.injEq] at h
        obtain ⟨rfl, rfl⟩ := h
        have hcl : slices_CloneLine.f l0 = some l0 := by unfold slices_CloneLine.f; rw [if_pos (by omega)]
        have AC := Aside0.mk hcl
        have L7 := Aside0.mk c7
        clear hcl c7
        have key : ∀ (Ao : Option Addr) (co : Nat), True := fun _ _ => trivial
        by_cases c8 : a2.toList = a1.toList
        · have q1 : (a2.toList != a1.toList) = false := by simp [c8]
          have q3 : (a2.toList == a1.toList) = true := beq_iff_eq.mpr c8
          clear c6
          go_enter Try.func41, Try.ntmps41
          go_wp2_with (first | ((with_reducible refine gate_dst (N := 15) rfl ?_); refine Kd.R_lit Kd.string _ 9 ?hg (N := 15) ?hd (xs := ([a1] : List ByteArray)) (inner := [.string a1]) (ok := fun _ => True) (okp := fun _ => True) ?hr ?hp (fun _ hk => hk) trivial (Below.refl _ _) (Nat.le_refl _) (by simp) ?_; (case hd => rfl); (case hg => rfl); (case hr => first | (go_simp; done) | (go_simp; rfl)); (case hp => exact (Reps.one (show Kd.M Kd.string _ _ _ a1 [.string a1] from rfl) (Reps.none _ _))); intro v341 w6 ho7 hb hg_ hnew_; clear hg_ hnew_; rw [← Ny3.out] at ho7; have HO342 := Aside0.mk ho7; have n1_ := Aside0.mk (below_step (by repeat (first | exact HB.out | apply below_alloc)) hb); clear HB; have HB := n1_; clear n1_; clear hb ho7; obtain ⟨Ao8, co8, eo8⟩ := Kd.R_slice HO342.out; subst eo8) | (go_at_call 83; (with_reducible refine (impl_namesOk.calls k _ _ l0 0 0 _ _ y3 0 _ ?side1 ?side2 ?side3 ?side4 A3.out).mono ?_); (case side1 => repeat (first | exact (Kd.C_below HR0.out HB.out) | (with_reducible refine Kd.C_alloc ?_ _))); (case side2 => exact HC0.out); (case side3 => repeat (first | exact (Kd.R_reads' HO342.out).2.2 | (with_reducible refine Kd.C_alloc ?_ _))); (case side4 => exact (Kd.R_reads' HO342.out).2.1); rintro e w9 ⟨rfl, hb⟩; have n1_ := Aside0.mk (below_step (by repeat (first | exact HB.out | apply below_alloc)) hb); clear HB HO342; have HB := n1_; clear n1_ hb) | (go_at_call 90; (with_reducible refine (impl_lineName.calls k a2 true _ A4.out).mono ?_); rintro e w10 ⟨rfl, ⟨nd, rfl⟩⟩) | (go_at_call 78; (with_reducible refine (slices_CloneLine.calls _ _ l0 l0 _ ?side1 ?side2 AC.out).mono ?_); (case side1 => repeat (first | exact (Kd.C_below HR0.out HB.out) | (with_reducible refine Kd.C_alloc ?_ _) | (with_reducible refine Kd.C_drewN ?_ _) | (with_reducible refine Kd.C_drew ?_))); (case side2 => exact HC0.out); rintro e w12 ⟨v, rfl, ho, hb⟩; have HO := Aside0.mk (Kd.R_lower ho (below_size (by repeat (first | exact HB.out | apply below_alloc | apply pw_below_drewN | apply below_drew1)))); have n1_ := Aside0.mk (below_step (by repeat (first | exact HB.out | apply below_alloc | apply pw_below_drewN | apply below_drew1)) hb); clear HB; have HB := n1_; clear n1_ hb ho; obtain ⟨Ao, co, eo⟩ := Kd.R_slice HO.out; subst eo))
          go_loopw [36] (fun v36 wr => ∃ j : Nat, v36 = .int .i64 (j : Int) ∧ Aside0 (j ≤ l0.length) ∧ Aside0 (Kd.R k45 45 wr w.heap.size (fun _ => True) (.slice Ao l0.length co) (outR a1 a2 l0 j)) ∧ Aside0 (Below w.heap.size w wr)) (fun v _ => l0.length - (intOf v).toNat)
          case atStart => exact ⟨0, rfl, ⟨Nat.zero_le _⟩, ⟨HO.out⟩, ⟨HB.out⟩⟩
          case round =>
            clear HB
            obtain ⟨j, rfl, HJ, HO2, HB⟩ := hrel
            have L8 := L7.out
            by_cases hj : j < l0.length
            · have d1 : decide ((j : Int) < (l0.length : Int)) = true := decide_eq_true (by omega)
              have d2 : (j : Int) < (l0.length : Int) := by omega
              obtain ⟨go24, co24, eo24, gb24, gl24, cl24, HG24⟩ := Kd.R_form HO2.out (by rw [outR_len]; omega)
              (first | cases eo24 | (injection eo24 with ea_ en_ ec_; (first | subst ea_ | (injection ea_ with ea_; subst ea_)); subst ec_; clear en_))
              go_wp2
              go_region
              go_wp2
              have hne : go24 ≠ wr.heap.size := by omega
              go_loopw [53] (fun v53 wi => ∃ i : Nat, v53 = .int .i64 (i : Int) ∧ Aside0 (i ≤ 3) ∧ Aside0 (Kd.R k45 45 wi w.heap.size (fun _ => True) (.slice (some ⟨go24, 0, none⟩) l0.length co) (stR a1 a2 (outR a1 a2 l0 j) j i)) ∧ (wi.cell? ⟨wr.heap.size, 0, none⟩ = some (.pointer (some ⟨go24, j * 6, none⟩)) ∧ wi.cell? ⟨wr.heap.size, 1, none⟩ = some (.pointer (some ⟨go24, j * 6 + 2, none⟩)) ∧ wi.cell? ⟨wr.heap.size, 2, none⟩ = some (.pointer (some ⟨go24, j * 6 + 3, none⟩))) ∧ Aside0 (Below w.heap.size w wi)) (fun v _ => 3 - (intOf v).toNat)
              case atStart => exact ⟨0, rfl, ⟨by omega⟩, ⟨by (with_reducible repeat (first | apply Kd.R_alloc | apply Kd.R_drewN | apply Kd.R_drew)); exact HO2.out⟩, ⟨by simp, by simp, by simp⟩, ⟨by repeat (first | exact HB.out | apply below_alloc | apply pw_below_drewN | apply below_drew1)⟩⟩
              case round =>
                clear HB
                obtain ⟨i, rfl, HI, HO3, ⟨hp0, hp1, hp2⟩, HB⟩ := hrel
                have hlc := line_cells HO3.out hj
                have hlp := line_put HO3.out hj a2
                obtain rfl | rfl | rfl | rfl : i = 0 ∨ i = 1 ∨ i = 2 ∨ i = 3 := by have := HI.out; omega
                · have hx := hlc.1.1
                  have hf := hlc.2.1
                  have HP := Aside0.mk hlp.1
                  clear hlc hlp
                  by_cases c : (rd_T45 (stR a1 a2 (outR a1 a2 l0 j) j 0) (j : Int)).f0.toList = a1.toList
                  · have c1 : ((rd_T45 (stR a1 a2 (outR a1 a2 l0 j) j 0) (j : Int)).f0.toList == a1.toList) = true := beq_iff_eq.mpr c
                    have HE := Aside0.mk (st1_pos (h := by rw [outR_len]; exact hj) c)
                    clear c
                    go_wp2
                    go_roundw
                    case rel => exact ⟨1, by go_num, ⟨by omega⟩, ⟨by rw [← HE.out]; exact HP.out.1⟩, ⟨(World.cell?_setCell_far _ _ _ _ hne).trans hp0, (World.cell?_setCell_far _ _ _ _ hne).trans hp1, (World.cell?_setCell_far _ _ _ _ hne).trans hp2⟩, ⟨below_set HB.out gb24⟩⟩
                    case measure => simp [intOf]
                  · have c1 : ((rd_T45 (stR a1 a2 (outR a1 a2 l0 j) j 0) (j : Int)).f0.toList == a1.toList) = false := beq_eq_false_iff_ne.mpr c
                    have HE := Aside0.mk (st1_neg (n := a2) (h := by rw [outR_len]; exact hj) c)
                    clear c
                    go_wp2
                    go_roundw
                    case rel => exact ⟨1, by go_num, ⟨by omega⟩, ⟨by rw [← HE.out]; exact HO3.out⟩, ⟨hp0, hp1, hp2⟩, HB⟩
                    case measure => simp [intOf]
                · have hx := hlc.1.2.1
                  have hf := hlc.2.2.1
                  have HP := Aside0.mk hlp.2.1
                  clear hlc hlp
                  by_cases c : (rd_T45 (stR a1 a2 (outR a1 a2 l0 j) j 1) (j : Int)).f2.toList = a1.toList
                  · have c1 : ((rd_T45 (stR a1 a2 (outR a1 a2 l0 j) j 1) (j : Int)).f2.toList == a1.toList) = true := beq_iff_eq.mpr c
                    have HE := Aside0.mk (st2_pos (h := by rw [outR_len]; exact hj) c)
                    clear c
                    go_wp2
                    go_roundw
                    case rel => exact ⟨2, by go_num, ⟨by omega⟩, ⟨by rw [← HE.out]; exact HP.out.1⟩, ⟨(World.cell?_setCell_far _ _ _ _ hne).trans hp0, (World.cell?_setCell_far _ _ _ _ hne).trans hp1, (World.cell?_setCell_far _ _ _ _ hne).trans hp2⟩, ⟨below_set HB.out gb24⟩⟩
                    case measure => simp [intOf]
                  · have c1 : ((rd_T45 (stR a1 a2 (outR a1 a2 l0 j) j 1) (j : Int)).f2.toList == a1.toList) = false := beq_eq_false_iff_ne.mpr c
                    have HE := Aside0.mk (st2_neg (n := a2) (h := by rw [outR_len]; exact hj) c)
                    clear c
                    go_wp2
                    go_roundw
                    case rel => exact ⟨2, by go_num, ⟨by omega⟩, ⟨by rw [← HE.out]; exact HO3.out⟩, ⟨hp0, hp1, hp2⟩, HB⟩
                    case measure => simp [intOf]
                · have hx := hlc.1.2.2
                  have hf := hlc.2.2.2
                  have HP := Aside0.mk hlp.2.2
                  clear hlc hlp
                  by_cases c : (rd_T45 (stR a1 a2 (outR a1 a2 l0 j) j 2) (j : Int)).f3.toList = a1.toList
                  · have c1 : ((rd_T45 (stR a1 a2 (outR a1 a2 l0 j) j 2) (j : Int)).f3.toList == a1.toList) = true := beq_iff_eq.mpr c
                    have HE := Aside0.mk (st3_pos (h := by rw [outR_len]; exact hj) c)
                    clear c
                    go_wp2
                    go_roundw
                    case rel => exact ⟨3, by go_num, ⟨by omega⟩, ⟨by rw [← HE.out]; exact HP.out.1⟩, ⟨(World.cell?_setCell_far _ _ _ _ hne).trans hp0, (World.cell?_setCell_far _ _ _ _ hne).trans hp1, (World.cell?_setCell_far _ _ _ _ hne).trans hp2⟩, ⟨below_set HB.out gb24⟩⟩
                    case measure => simp [intOf]
                  · have c1 : ((rd_T45 (stR a1 a2 (outR a1 a2 l0 j) j 2) (j : Int)).f3.toList == a1.toList) = false := beq_eq_false_iff_ne.mpr c
                    have HE := Aside0.mk (st3_neg (n := a2) (h := by rw [outR_len]; exact hj) c)
                    clear c
                    go_wp2
                    go_roundw
                    case rel => exact ⟨3, by go_num, ⟨by omega⟩, ⟨by rw [← HE.out]; exact HO3.out⟩, ⟨hp0, hp1, hp2⟩, HB⟩
                    case measure => simp [intOf]
                · clear hlc hlp hp0 hp1 hp2
                  go_wp2
                  go_roundw
                  case rel => exact ⟨j + 1, by go_num, ⟨by omega⟩, ⟨by have h_ := HO3.out; rw [st3_out a1 a2 l0 j hj] at h_; exact h_⟩, HB⟩
                  case measure => simp [intOf]; omega
            · have d1 : decide ((j : Int) < (l0.length : Int)) = false := decide_eq_false (by omega)
              have hje : j = l0.length := by have := HJ.out; omega
              subst hje
              go_wp2
              go_ret2
              exact ⟨_, rfl, by have h_ := HO2.out; unfold outR at h_; rw [List.take_length, List.drop_length, List.append_nil] at h_; exact h_, HB.out⟩
        · have q1 : (a2.toList != a1.toList) = true := bne_iff_ne.mpr c8
          have q3 : (a2.toList == a1.toList) = false := beq_eq_false_iff_ne.mpr c8
          have q2 : decide (0 ≤ y) = false := decide_eq_false (fun h => c6 ⟨c8, h⟩)
          clear c6
          go_enter Try.func41, Try.ntmps41
          go_wp2_with (first | ((with_reducible refine gate_dst (N := 15) rfl ?_); refine Kd.R_lit Kd.string _ 9 ?hg (N := 15) ?hd (xs := ([a1] : List ByteArray)) (inner := [.string a1]) (ok := fun _ => True) (okp := fun _ => True) ?hr ?hp (fun _ hk => hk) trivial (Below.refl _ _) (Nat.le_refl _) (by simp) ?_; (case hd => rfl); (case hg => rfl); (case hr => first | (go_simp; done) | (go_simp; rfl)); (case hp => exact (Reps.one (show Kd.M Kd.string _ _ _ a1 [.string a1] from rfl) (Reps.none _ _))); intro v341 w6 ho7 hb hg_ hnew_; clear hg_ hnew_; rw [← Ny3.out] at ho7; have HO342 := Aside0.mk ho7; have n1_ := Aside0.mk (below_step (by repeat (first | exact HB.out | apply below_alloc)) hb); clear HB; have HB := n1_; clear n1_; clear hb ho7; obtain ⟨Ao8, co8, eo8⟩ := Kd.R_slice HO342.out; subst eo8) | (go_at_call 83; (with_reducible refine (impl_namesOk.calls k _ _ l0 0 0 _ _ y3 0 _ ?side1 ?side2 ?side3 ?side4 A3.out).mono ?_); (case side1 => repeat (first | exact (Kd.C_below HR0.out HB.out) | (with_reducible refine Kd.C_alloc ?_ _))); (case side2 => exact HC0.out); (case side3 => repeat (first | exact (Kd.R_reads' HO342.out).2.2 | (with_reducible refine Kd.C_alloc ?_ _))); (case side4 => exact (Kd.R_reads' HO342.out).2.1); rintro e w9 ⟨rfl, hb⟩; have n1_ := Aside0.mk (below_step (by repeat (first | exact HB.out | apply below_alloc)) hb); clear HB HO342; have HB := n1_; clear n1_ hb) | (go_at_call 90; (with_reducible refine (impl_lineName.calls k a2 true _ A4.out).mono ?_); rintro e w10 ⟨rfl, ⟨nd, rfl⟩⟩) | (go_at_call 79; (with_reducible refine (impl_lineOf.calls _ _ l0 a2 y _ ?side1 ?side2 A6.out).mono ?_); (case side1 => repeat (first | exact (Kd.C_below HR0.out HB.out) | (with_reducible refine Kd.C_alloc ?_ _) | (with_reducible refine Kd.C_drewN ?_ _) | (with_reducible refine Kd.C_drew ?_))); (case side2 => exact HC0.out); rintro e w11 ⟨rfl, hb⟩; have n1_ := Aside0.mk (below_step (by repeat (first | exact HB.out | apply below_alloc | apply pw_below_drewN | apply below_drew1)) hb); clear HB; have HB := n1_; clear n1_ hb) | (go_at_call 78; (with_reducible refine (slices_CloneLine.calls _ _ l0 l0 _ ?side1 ?side2 AC.out).mono ?_); (case side1 => repeat (first | exact (Kd.C_below HR0.out HB.out) | (with_reducible refine Kd.C_alloc ?_ _) | (with_reducible refine Kd.C_drewN ?_ _) | (with_reducible refine Kd.C_drew ?_))); (case side2 => exact HC0.out); rintro e w12 ⟨v, rfl, ho, hb⟩; have HO := Aside0.mk (Kd.R_lower ho (below_size (by repeat (first | exact HB.out | apply below_alloc | apply pw_below_drewN | apply below_drew1)))); have n1_ := Aside0.mk (below_step (by repeat (first | exact HB.out | apply below_alloc | apply pw_below_drewN | apply below_drew1)) hb); clear HB; have HB := n1_; clear n1_ hb ho; obtain ⟨Ao, co, eo⟩ := Kd.R_slice HO.out; subst eo))
          go_loopw [36] (fun v36 wr => ∃ j : Nat, v36 = .int .i64 (j : Int) ∧ Aside0 (j ≤ l0.length) ∧ Aside0 (Kd.R k45 45 wr w.heap.size (fun _ => True) (.slice Ao l0.length co) (outR a1 a2 l0 j)) ∧ Aside0 (Below w.heap.size w wr)) (fun v _ => l0.length - (intOf v).toNat)
          case atStart => exact ⟨0, rfl, ⟨Nat.zero_le _⟩, ⟨HO.out⟩, ⟨HB.out⟩⟩
          case round =>
            clear HB
            obtain ⟨j, rfl, HJ, HO2, HB⟩ := hrel
            have L8 := L7.out
            by_cases hj : j < l0.length
            · have d1 : decide ((j : Int) < (l0.length : Int)) = true := decide_eq_true (by omega)
              have d2 : (j : Int) < (l0.length : Int) := by omega
              obtain ⟨go24, co24, eo24, gb24, gl24, cl24, HG24⟩ := Kd.R_form HO2.out (by rw [outR_len]; omega)
              (first | cases eo24 | (injection eo24 with ea_ en_ ec_; (first | subst ea_ | (injection ea_ with ea_; subst ea_)); subst ec_; clear en_))
              go_wp2
              go_region
              go_wp2
              have hne : go24 ≠ wr.heap.size := by omega
              go_loopw [53] (fun v53 wi => ∃ i : Nat, v53 = .int .i64 (i : Int) ∧ Aside0 (i ≤ 3) ∧ Aside0 (Kd.R k45 45 wi w.heap.size (fun _ => True) (.slice (some ⟨go24, 0, none⟩) l0.length co) (stR a1 a2 (outR a1 a2 l0 j) j i)) ∧ (wi.cell? ⟨wr.heap.size, 0, none⟩ = some (.pointer (some ⟨go24, j * 6, none⟩)) ∧ wi.cell? ⟨wr.heap.size, 1, none⟩ = some (.pointer (some ⟨go24, j * 6 + 2, none⟩)) ∧ wi.cell? ⟨wr.heap.size, 2, none⟩ = some (.pointer (some ⟨go24, j * 6 + 3, none⟩))) ∧ Aside0 (Below w.heap.size w wi)) (fun v _ => 3 - (intOf v).toNat)
              case atStart => exact ⟨0, rfl, ⟨by omega⟩, ⟨by (with_reducible repeat (first | apply Kd.R_alloc | apply Kd.R_drewN | apply Kd.R_drew)); exact HO2.out⟩, ⟨by simp, by simp, by simp⟩, ⟨by repeat (first | exact HB.out | apply below_alloc | apply pw_below_drewN | apply below_drew1)⟩⟩
              case round =>
                clear HB
                obtain ⟨i, rfl, HI, HO3, ⟨hp0, hp1, hp2⟩, HB⟩ := hrel
                have hlc := line_cells HO3.out hj
                have hlp := line_put HO3.out hj a2
                obtain rfl | rfl | rfl | rfl : i = 0 ∨ i = 1 ∨ i = 2 ∨ i = 3 := by have := HI.out; omega
                · have hx := hlc.1.1
                  have hf := hlc.2.1
                  have HP := Aside0.mk hlp.1
                  clear hlc hlp
                  by_cases c : (rd_T45 (stR a1 a2 (outR a1 a2 l0 j) j 0) (j : Int)).f0.toList = a1.toList
                  · have c1 : ((rd_T45 (stR a1 a2 (outR a1 a2 l0 j) j 0) (j : Int)).f0.toList == a1.toList) = true := beq_iff_eq.mpr c
                    have HE := Aside0.mk (st1_pos (h := by rw [outR_len]; exact hj) c)
                    clear c
                    go_wp2
                    go_roundw
                    case rel => exact ⟨1, by go_num, ⟨by omega⟩, ⟨by rw [← HE.out]; exact HP.out.1⟩, ⟨(World.cell?_setCell_far _ _ _ _ hne).trans hp0, (World.cell?_setCell_far _ _ _ _ hne).trans hp1, (World.cell?_setCell_far _ _ _ _ hne).trans hp2⟩, ⟨below_set HB.out gb24⟩⟩
                    case measure => simp [intOf]
                  · have c1 : ((rd_T45 (stR a1 a2 (outR a1 a2 l0 j) j 0) (j : Int)).f0.toList == a1.toList) = false := beq_eq_false_iff_ne.mpr c
                    have HE := Aside0.mk (st1_neg (n := a2) (h := by rw [outR_len]; exact hj) c)
                    clear c
                    go_wp2
                    go_roundw
                    case rel => exact ⟨1, by go_num, ⟨by omega⟩, ⟨by rw [← HE.out]; exact HO3.out⟩, ⟨hp0, hp1, hp2⟩, HB⟩
                    case measure => simp [intOf]
                · have hx := hlc.1.2.1
                  have hf := hlc.2.2.1
                  have HP := Aside0.mk hlp.2.1
                  clear hlc hlp
                  by_cases c : (rd_T45 (stR a1 a2 (outR a1 a2 l0 j) j 1) (j : Int)).f2.toList = a1.toList
                  · have c1 : ((rd_T45 (stR a1 a2 (outR a1 a2 l0 j) j 1) (j : Int)).f2.toList == a1.toList) = true := beq_iff_eq.mpr c
                    have HE := Aside0.mk (st2_pos (h := by rw [outR_len]; exact hj) c)
                    clear c
                    go_wp2
                    go_roundw
                    case rel => exact ⟨2, by go_num, ⟨by omega⟩, ⟨by rw [← HE.out]; exact HP.out.1⟩, ⟨(World.cell?_setCell_far _ _ _ _ hne).trans hp0, (World.cell?_setCell_far _ _ _ _ hne).trans hp1, (World.cell?_setCell_far _ _ _ _ hne).trans hp2⟩, ⟨below_set HB.out gb24⟩⟩
                    case measure => simp [intOf]
                  · have c1 : ((rd_T45 (stR a1 a2 (outR a1 a2 l0 j) j 1) (j : Int)).f2.toList == a1.toList) = false := beq_eq_false_iff_ne.mpr c
                    have HE := Aside0.mk (st2_neg (n := a2) (h := by rw [outR_len]; exact hj) c)
                    clear c
                    go_wp2
                    go_roundw
                    case rel => exact ⟨2, by go_num, ⟨by omega⟩, ⟨by rw [← HE.out]; exact HO3.out⟩, ⟨hp0, hp1, hp2⟩, HB⟩
                    case measure => simp [intOf]
                · have hx := hlc.1.2.2
                  have hf := hlc.2.2.2
                  have HP := Aside0.mk hlp.2.2
                  clear hlc hlp
                  by_cases c : (rd_T45 (stR a1 a2 (outR a1 a2 l0 j) j 2) (j : Int)).f3.toList = a1.toList
                  · have c1 : ((rd_T45 (stR a1 a2 (outR a1 a2 l0 j) j 2) (j : Int)).f3.toList == a1.toList) = true := beq_iff_eq.mpr c
                    have HE := Aside0.mk (st3_pos (h := by rw [outR_len]; exact hj) c)
                    clear c
                    go_wp2
                    go_roundw
                    case rel => exact ⟨3, by go_num, ⟨by omega⟩, ⟨by rw [← HE.out]; exact HP.out.1⟩, ⟨(World.cell?_setCell_far _ _ _ _ hne).trans hp0, (World.cell?_setCell_far _ _ _ _ hne).trans hp1, (World.cell?_setCell_far _ _ _ _ hne).trans hp2⟩, ⟨below_set HB.out gb24⟩⟩
                    case measure => simp [intOf]
                  · have c1 : ((rd_T45 (stR a1 a2 (outR a1 a2 l0 j) j 2) (j : Int)).f3.toList == a1.toList) = false := beq_eq_false_iff_ne.mpr c
                    have HE := Aside0.mk (st3_neg (n := a2) (h := by rw [outR_len]; exact hj) c)
                    clear c
                    go_wp2
                    go_roundw
                    case rel => exact ⟨3, by go_num, ⟨by omega⟩, ⟨by rw [← HE.out]; exact HO3.out⟩, ⟨hp0, hp1, hp2⟩, HB⟩
                    case measure => simp [intOf]
                · clear hlc hlp hp0 hp1 hp2
                  go_wp2
                  go_roundw
                  case rel => exact ⟨j + 1, by go_num, ⟨by omega⟩, ⟨by have h_ := HO3.out; rw [st3_out a1 a2 l0 j hj] at h_; exact h_⟩, HB⟩
                  case measure => simp [intOf]; omega
            · have d1 : decide ((j : Int) < (l0.length : Int)) = false := decide_eq_false (by omega)
              have hje : j = l0.length := by have := HJ.out; omega
              subst hje
              go_wp2
              go_ret2
              exact ⟨_, rfl, by have h_ := HO2.out; unfold outR at h_; rw [List.take_length, List.drop_length, List.append_nil] at h_; exact h_, HB.out⟩
    · have c5 : t = false := by simpa using c5
      subst c5
      simp only [Bool.false_eq_true, ↓reduceIte, Option.some.injEq, Prod.mk.injEq] at h
      obtain ⟨rfl, rfl⟩ := h
      go_enter Try.func41, Try.ntmps41
      go_wp2_with (first | ((with_reducible refine gate_dst (N := 15) rfl ?_); refine Kd.R_lit Kd.string _ 9 ?hg (N := 15) ?hd (xs := ([a1] : List ByteArray)) (inner := [.string a1]) (ok := fun _ => True) (okp := fun _ => True) ?hr ?hp (fun _ hk => hk) trivial (Below.refl _ _) (Nat.le_refl _) (by simp) ?_; (case hd => rfl); (case hg => rfl); (case hr => first | (go_simp; done) | (go_simp; rfl)); (case hp => exact (Reps.one (show Kd.M Kd.string _ _ _ a1 [.string a1] from rfl) (Reps.none _ _))); intro v341 w6 ho7 hb hg_ hnew_; clear hg_ hnew_; rw [← Ny3.out] at ho7; have HO342 := Aside0.mk ho7; have n1_ := Aside0.mk (below_step (by repeat (first | exact HB.out | apply below_alloc)) hb); clear HB; have HB := n1_; clear n1_; clear hb ho7; obtain ⟨Ao8, co8, eo8⟩ := Kd.R_slice HO342.out; subst eo8) | (go_at_call 83; (with_reducible refine (impl_namesOk.calls k _ _ l0 0 0 _ _ y3 0 _ ?side1 ?side2 ?side3 ?side4 A3.out).mono ?_); (case side1 => repeat (first | exact (Kd.C_below HR0.out HB.out) | (with_reducible refine Kd.C_alloc ?_ _))); (case side2 => exact HC0.out); (case side3 => repeat (first | exact (Kd.R_reads' HO342.out).2.2 | (with_reducible refine Kd.C_alloc ?_ _))); (case side4 => exact (Kd.R_reads' HO342.out).2.1); rintro e w9 ⟨rfl, hb⟩; have n1_ := Aside0.mk (below_step (by repeat (first | exact HB.out | apply below_alloc)) hb); clear HB HO342; have HB := n1_; clear n1_ hb) | (go_at_call 90; (with_reducible refine (impl_lineName.calls k a2 false _ A4.out).mono ?_); rintro e w10 ⟨rfl, ⟨nd, rfl⟩⟩))
      go_ret2
      exact ⟨_, rfl, Kd.R_nil _ _ _ _ _, by repeat (first | exact HB.out | apply below_alloc | apply pw_below_drewN | apply below_drew1)⟩
  · rw [if_neg c4] at h
    simp only [Option.some.injEq, Prod.mk.injEq] at h
    obtain ⟨rfl, rfl⟩ := h
    have c4b1 : (c != 0) = true := bne_iff_ne.mpr c4
    have c4b0 : (c == 0) = false := beq_eq_false_iff_ne.mpr c4
    go_enter Try.func41, Try.ntmps41
    go_wp2_with (first | ((with_reducible refine gate_dst (N := 15) rfl ?_); refine Kd.R_lit Kd.string _ 9 ?hg (N := 15) ?hd (xs := ([a1] : List ByteArray)) (inner := [.string a1]) (ok := fun _ => True) (okp := fun _ => True) ?hr ?hp (fun _ hk => hk) trivial (Below.refl _ _) (Nat.le_refl _) (by simp) ?_; (case hd => rfl); (case hg => rfl); (case hr => first | (go_simp; done) | (go_simp; rfl)); (case hp => exact (Reps.one (show Kd.M Kd.string _ _ _ a1 [.string a1] from rfl) (Reps.none _ _))); intro v341 w6 ho7 hb hg_ hnew_; clear hg_ hnew_; rw [← Ny3.out] at ho7; have HO342 := Aside0.mk ho7; have n1_ := Aside0.mk (below_step (by repeat (first | exact HB.out | apply below_alloc)) hb); clear HB; have HB := n1_; clear n1_; clear hb ho7; obtain ⟨Ao8, co8, eo8⟩ := Kd.R_slice HO342.out; subst eo8) | (go_at_call 83; (with_reducible refine (impl_namesOk.calls k _ _ l0 0 0 _ _ y3 c _ ?side1 ?side2 ?side3 ?side4 A3.out).mono ?_); (case side1 => repeat (first | exact (Kd.C_below HR0.out HB.out) | (with_reducible refine Kd.C_alloc ?_ _))); (case side2 => exact HC0.out); (case side3 => repeat (first | exact (Kd.R_reads' HO342.out).2.2 | (with_reducible refine Kd.C_alloc ?_ _))); (case side4 => exact (Kd.R_reads' HO342.out).2.1); rintro e w9 ⟨rfl, hb⟩; have n1_ := Aside0.mk (below_step (by repeat (first | exact HB.out | apply below_alloc)) hb); clear HB HO342; have HB := n1_; clear n1_ hb))
    go_ret2
    exact ⟨_, rfl, Kd.R_nil _ _ _ _ _, HB.out⟩
end Go.Proofs.Ytenhgmddpkiliaa.PB

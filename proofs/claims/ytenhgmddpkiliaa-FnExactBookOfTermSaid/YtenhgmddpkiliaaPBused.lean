/- The program's uses and Line.used (through a pointer that is only read): what they answer. -/
import Derived.Test.YtenhgmddpkiliaaPBx3
import Derived.Test.YtenhgmddpkiliaaPBl02Ok
import Derived.Lib.Hide
namespace Go.Proofs.Ytenhgmddpkiliaa.PB
open Go.RowKit Go.Proofs.YtenhgmddpkiliaaW.PrintWords Go.Proofs.YtenhgmddpkiliaaW.PrintLast Go.Proofs.YtenhgmddpkiliaaW.PrintMore Go.Lib
set_option linter.unusedVariables false
set_option linter.unusedSimpArgs false

def usesA (k : Int) : Bool := oneB k || twoB k
theorem uses_eq (a : Int) : impl_uses.f 1 a = some (usesA a, twoB a, a == 1) := by
  unfold impl_uses.f
  by_cases h1 : a = 1
  · subst h1; rfl
  · rw [if_neg h1]
    by_cases h2 : a = 2
    · subst h2; rfl
    · rw [if_neg h2]
      by_cases h3 : a = 3
      · subst h3; rfl
      · rw [if_neg h3]
        by_cases h4 : a = 4
        · subst h4; rfl
        · rw [if_neg h4]
          by_cases h5 : a = 5
          · subst h5; rfl
          · rw [if_neg h5]
            by_cases h8 : a = 8
            · subst h8; rfl
            · rw [if_neg h8]
              by_cases h9 : a = 9
              · subst h9; rfl
              · have ht : twoB a = false := by simp [twoB, h8, h9]; omega
                have h91 : (a == 9) = false := by simpa using h9
                have h11 : (a == 1) = false := by simpa using h1
                rw [h91, h11, ht]
                simp only [impl_uses.j0, usesA, ht]
                by_cases h6 : a = 6
                · subst h6; rfl
                · by_cases h7 : a = 7
                  · subst h7; rfl
                  · by_cases h10 : a = 10
                    · subst h10; rfl
                    · simp [oneB, h6, h7, h10]
theorem uses_to (a : Int) (b1 b2 : Bool) (w : World) (h1 : Aside0 (usesA a = b1)) (h2 : Aside0 (twoB a = b2)) : Calls Try.prog 74 #[.int .i8 a] w fun e w' => e = .returned (.tuple #[.bool b1, .bool b2, .bool (a == 1)]) ∧ ∃ n, w' = w.drewN n := by
  obtain ⟨rfl⟩ := h1; obtain ⟨rfl⟩ := h2
  exact (impl_uses.calls 1 a _ _ _ w (uses_eq a)).mono fun _ _ h => ⟨h.1, h.2.out⟩

def usedL (x : S45) : List ByteArray := if usesA x.f1 then (if twoB x.f1 then [x.f2, x.f3] else [x.f2]) else []
theorem two_uses {k : Int} (h : usesA k = false) : twoB k = false := by
  unfold usesA at h
  cases h2 : twoB k <;> simp_all

set_option maxRecDepth 100000 in
set_option maxHeartbeats 8000000 in
theorem used_any (x : S45) (ad : Addr) (w : World) (h1 : w.cell? ⟨ad.block, ad.off + 1, none⟩ = some (.int .i8 x.f1)) (h2 : w.cell? ⟨ad.block, ad.off + 2, none⟩ = some (.string x.f2)) (h3 : w.cell? ⟨ad.block, ad.off + 3, none⟩ = some (.string x.f3)) :
    Calls Try.prog 106 #[.pointer (some ad)] w fun e w' => ∃ v0_ : Value, e = .returned (v0_) ∧ Kd.R Kd.string 9 w' w.heap.size (fun _ => True) v0_ (usedL x) ∧ Below w.heap.size w w' := by
  have HB := Aside0.mk (Below.refl w.heap.size w)
  have G1 := Aside0.mk h1
  have G2 := Aside0.mk h2
  have G3 := Aside0.mk h3
  cases hq1 : usesA x.f1 with
  | false =>
    have hq2 := two_uses hq1
    have Q1 := Aside0.mk hq1
    have Q2 := Aside0.mk hq2
    clear hq1 hq2
    go_enter Try.func106, Try.ntmps106
    go_wp2_with (first
      | ((with_reducible refine gate_callee (f := 74) rfl ?_); refine goesL_ (some 12) rfl rfl Try.func74 (by kernel_rfl) rfl #[.int .i8 x.f1] rfl (by (try simp only [List.map_toArray, List.map_cons, List.map_nil]); first | done | rfl | (simp only [List.length_drop, List.length_take]; rfl)) ?_; (refine (uses_to x.f1 _ _ _ Q1 Q2).mono ?_); rintro e w' ⟨rfl, ⟨nd, rfl⟩⟩; refine ⟨_, rfl, ?_⟩)
      | ((with_reducible refine gate_dst (N := 16) rfl ?_); refine Kd.R_lit Kd.string _ 9 ?hg (N := 16) ?hd (xs := ([] : List ByteArray)) (inner := []) (ok := fun _ => True) (okp := fun _ => True) ?hr ?hp (fun _ hk => hk) trivial (Below.refl _ _) (Nat.le_refl _) (by simp) ?_; (case hd => rfl); (case hg => rfl); (case hr => first | (go_simp; done) | (go_simp; rfl)); (case hp => exact (Reps.none _ _)); intro v351 w3 ho4 hb hg_ hnew_; clear hg_ hnew_; have n0_ := Aside0.mk (Kd.R_lower ho4 (below_size (by repeat (first | (with_reducible first | exact HB.out | apply below_alloc | apply pw_below_drewN | apply below_drew1) | exact HB.out)))); have n1_ := Aside0.mk (below_step (by repeat (first | (with_reducible first | exact HB.out | apply below_alloc | apply pw_below_drewN | apply below_drew1) | exact HB.out)) hb); clear HB; have HO := n0_; have HB := n1_; clear n0_ n1_; clear hb ho4))
    go_ret
    exact ⟨_, rfl, by unfold usedL; rw [Q1.out]; exact HO.out, HB.out⟩
  | true =>
    cases hq2 : twoB x.f1 with
    | false =>
      have Q1 := Aside0.mk hq1
      have Q2 := Aside0.mk hq2
      clear hq1 hq2
      go_enter Try.func106, Try.ntmps106
      go_wp2_with (first
        | ((with_reducible refine gate_callee (f := 74) rfl ?_); refine goesL_ (some 12) rfl rfl Try.func74 (by kernel_rfl) rfl #[.int .i8 x.f1] rfl (by (try simp only [List.map_toArray, List.map_cons, List.map_nil]); first | done | rfl | (simp only [List.length_drop, List.length_take]; rfl)) ?_; (refine (uses_to x.f1 _ _ _ Q1 Q2).mono ?_); rintro e w' ⟨rfl, ⟨nd, rfl⟩⟩; refine ⟨_, rfl, ?_⟩)
        | ((with_reducible refine gate_dst (N := 16) rfl ?_); refine Kd.R_lit Kd.string _ 9 ?hg (N := 16) ?hd (xs := ([] : List ByteArray)) (inner := []) (ok := fun _ => True) (okp := fun _ => True) ?hr ?hp (fun _ hk => hk) trivial (Below.refl _ _) (Nat.le_refl _) (by simp) ?_; (case hd => rfl); (case hg => rfl); (case hr => first | (go_simp; done) | (go_simp; rfl)); (case hp => exact (Reps.none _ _)); intro v351 w3 ho4 hb hg_ hnew_; clear hg_ hnew_; have n0_ := Aside0.mk (Kd.R_lower ho4 (below_size (by repeat (first | (with_reducible first | exact HB.out | apply below_alloc | apply pw_below_drewN | apply below_drew1) | exact HB.out)))); have n1_ := Aside0.mk (below_step (by repeat (first | (with_reducible first | exact HB.out | apply below_alloc | apply pw_below_drewN | apply below_drew1) | exact HB.out)) hb); clear HB; have HO := n0_; have HB := n1_; clear n0_ n1_; clear hb ho4; have h2 := (HB.out.cell (World.block_lt_of_cell? w _ G2.out)).trans G2.out)
        | ((with_reducible refine gate_builtin (b := .append) (xs := #[.tmp 18, .tmp 23]) rfl ?_); at_builtin; refine Kd.R_append Kd.string (w0 := w) w.heap.size rfl (.tmp 18) (.tmp 23) 48 9 (.string ⟨#[]⟩) 16 rfl Try.underlying48 info9 rfl (by decide) (by omega) v351 [] (x.f2) [.string (x.f2)] (fun _ => True) (fun _ => False) rfl rfl ?aP (fun _ hk => hk.elim) ?aF ?aO ?aB ?aS ?aL ?_; (case aP => exact rfl); (case aB => exact (by repeat (first | (with_reducible first | exact HB.out | apply below_alloc | apply pw_below_drewN | apply below_drew1) | exact HB.out))); (case aF => exact (fun _ _ => trivial)); (case aO => exact (by (with_reducible repeat (first | apply Kd.R_alloc | apply Kd.R_drewN | apply Kd.R_drew)); exact HO.out)); (case aS => exact (below_size (by repeat (first | (with_reducible first | exact HB.out | apply below_alloc | apply pw_below_drewN | apply below_drew1) | exact HB.out)))); (case aL => simp); intro v356 w11 ho hb hg hat; have n0_ := Aside0.mk (hb); have n1_ := Aside0.mk (ho); clear HB; clear HO; have HB := n0_; have HO := n1_; clear n0_ n1_; clear ho hb hg hat))
      go_ret
      exact ⟨_, rfl, by unfold usedL; rw [Q1.out, Q2.out]; exact HO.out, HB.out⟩
    | true =>
      have Q1 := Aside0.mk hq1
      have Q2 := Aside0.mk hq2
      clear hq1 hq2
      go_enter Try.func106, Try.ntmps106
      go_wp2_with (first
        | ((with_reducible refine gate_callee (f := 74) rfl ?_); refine goesL_ (some 12) rfl rfl Try.func74 (by kernel_rfl) rfl #[.int .i8 x.f1] rfl (by (try simp only [List.map_toArray, List.map_cons, List.map_nil]); first | done | rfl | (simp only [List.length_drop, List.length_take]; rfl)) ?_; (refine (uses_to x.f1 _ _ _ Q1 Q2).mono ?_); rintro e w' ⟨rfl, ⟨nd, rfl⟩⟩; refine ⟨_, rfl, ?_⟩)
        | ((with_reducible refine gate_dst (N := 16) rfl ?_); refine Kd.R_lit Kd.string _ 9 ?hg (N := 16) ?hd (xs := ([] : List ByteArray)) (inner := []) (ok := fun _ => True) (okp := fun _ => True) ?hr ?hp (fun _ hk => hk) trivial (Below.refl _ _) (Nat.le_refl _) (by simp) ?_; (case hd => rfl); (case hg => rfl); (case hr => first | (go_simp; done) | (go_simp; rfl)); (case hp => exact (Reps.none _ _)); intro v351 w3 ho4 hb hg_ hnew_; clear hg_ hnew_; have n0_ := Aside0.mk (Kd.R_lower ho4 (below_size (by repeat (first | (with_reducible first | exact HB.out | apply below_alloc | apply pw_below_drewN | apply below_drew1) | exact HB.out)))); have n1_ := Aside0.mk (below_step (by repeat (first | (with_reducible first | exact HB.out | apply below_alloc | apply pw_below_drewN | apply below_drew1) | exact HB.out)) hb); clear HB; have HO := n0_; have HB := n1_; clear n0_ n1_; clear hb ho4; have h2 := (HB.out.cell (World.block_lt_of_cell? w _ G2.out)).trans G2.out)
        | ((with_reducible refine gate_builtin (b := .append) (xs := #[.tmp 18, .tmp 23]) rfl ?_); at_builtin; refine Kd.R_append Kd.string (w0 := w) w.heap.size rfl (.tmp 18) (.tmp 23) 48 9 (.string ⟨#[]⟩) 16 rfl Try.underlying48 info9 rfl (by decide) (by omega) v351 [] (x.f2) [.string (x.f2)] (fun _ => True) (fun _ => False) rfl rfl ?aP (fun _ hk => hk.elim) ?aF ?aO ?aB ?aS ?aL ?_; (case aP => exact rfl); (case aB => exact (by repeat (first | (with_reducible first | exact HB.out | apply below_alloc | apply pw_below_drewN | apply below_drew1) | exact HB.out))); (case aF => exact (fun _ _ => trivial)); (case aO => exact (by (with_reducible repeat (first | apply Kd.R_alloc | apply Kd.R_drewN | apply Kd.R_drew)); exact HO.out)); (case aS => exact (below_size (by repeat (first | (with_reducible first | exact HB.out | apply below_alloc | apply pw_below_drewN | apply below_drew1) | exact HB.out)))); (case aL => simp); intro v356 w11 ho hb hg hat; have n0_ := Aside0.mk (hb); have n1_ := Aside0.mk (ho); clear HB; clear HO; have HB := n0_; have HO1 := n1_; clear n0_ n1_; clear ho hb hg hat; clear h2; have h3 := (HB.out.cell (World.block_lt_of_cell? w _ G3.out)).trans G3.out)
        | ((with_reducible refine gate_builtin (b := .append) (xs := #[.tmp 26, .tmp 31]) rfl ?_); at_builtin; refine Kd.R_append Kd.string (w0 := w) w.heap.size rfl (.tmp 26) (.tmp 31) 48 9 (.string ⟨#[]⟩) 16 rfl Try.underlying48 info9 rfl (by decide) (by omega) v356 [x.f2] (x.f3) [.string (x.f3)] (fun _ => True) (fun _ => False) rfl rfl ?aP (fun _ hk => hk.elim) ?aF ?aO ?aB ?aS ?aL ?_; (case aP => exact rfl); (case aB => exact (by repeat (first | (with_reducible first | exact HB.out | apply below_alloc | apply pw_below_drewN | apply below_drew1) | exact HB.out))); (case aF => exact (fun _ _ => trivial)); (case aO => exact (by (with_reducible repeat (first | apply Kd.R_alloc | apply Kd.R_drewN | apply Kd.R_drew)); exact HO1.out)); (case aS => exact (below_size (by repeat (first | (with_reducible first | exact HB.out | apply below_alloc | apply pw_below_drewN | apply below_drew1) | exact HB.out)))); (case aL => simp); intro v357 w12 ho hb hg hat; have n0_ := Aside0.mk (hb); have n1_ := Aside0.mk (ho); clear HB; clear HO1; have HB := n0_; have HO2 := n1_; clear n0_ n1_; clear ho hb hg hat))
      go_ret
      exact ⟨_, rfl, by unfold usedL; rw [Q1.out, Q2.out]; exact HO2.out, HB.out⟩
end Go.Proofs.Ytenhgmddpkiliaa.PB

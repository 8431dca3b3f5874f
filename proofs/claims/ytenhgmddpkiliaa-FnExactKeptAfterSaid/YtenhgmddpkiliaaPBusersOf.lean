/- impl.usersOf by hand: the names of the lines whose needs have a line; it hands a closure to impl.names. -/
import Derived.Test.YtenhgmddpkiliaaPBx10
import Derived.Test.YtenhgmddpkiliaaPBlineOf
import Derived.Test.YtenhgmddpkiliaaPBnames
import Derived.Deep.RegionWith
namespace Go.Proofs.Ytenhgmddpkiliaa.PB
open Go.RowKit Go.Proofs.YtenhgmddpkiliaaW.PrintWords Go.Proofs.YtenhgmddpkiliaaW.PrintLast Go.Proofs.YtenhgmddpkiliaaW.PrintMore Go.Lib Go.Proofs.YtenhgmddpkiliaaRP
set_option linter.unusedVariables false
set_option linter.unusedSimpArgs false

set_option maxHeartbeats 4000000 in
theorem names_114 (p : Nat → Bool) (cap0_ cap1_ : Value) (A0 : Option Addr) (c0 : Nat) (l0 : List S45) (w : World) (hr0 : Kd.C k45 w A0 l0.length l0) (hc0 : l0.length ≤ c0) (hl0 : l0.length ≤ 1000)
    (hp : ∀ k : Nat, k < l0.length → ∀ wr, Below w.heap.size w wr → Calls Try.prog 114 #[.int .i64 k, cap0_, cap1_] wr fun e w' => e = .returned (.bool (p k)) ∧ Below wr.heap.size wr w') :
    Calls Try.prog 84 #[.slice A0 l0.length c0, .func (.func 114) #[] #[cap0_, cap1_]] w fun e w' => ∃ v0_ : Value, e = .returned v0_ ∧ Kd.R Kd.string 9 w' w.heap.size (fun _ => True) v0_ (namesL p l0 0) ∧ Below w.heap.size w w' := by
  have HR := Aside0.mk hr0
  have hm : l0.length ≤ 9223372036854775807 := hr0.2.1
  clear hr0
  have eg : ∀ args w, (callFunc 114 args).run Try.prog w = .ok (.enter 114 args) w := enters_of Try.func114 (by kernel_rfl) rfl
  have HE := Aside0.mk eg
  have HPP := Aside0.mk hp
  clear eg hp
  have HB := Aside0.mk (Below.refl w.heap.size w)
  obtain ⟨r, hr⟩ : ∃ r, r = namesL p l0 0 := ⟨_, rfl⟩
  rw [← hr]
  have HR1 := Aside0.mk hr
  clear hr
  go_enter Try.func84, Try.ntmps84
  go_wp2_with (first | ((with_reducible refine gate_dst (N := 8) rfl ?_); refine Kd.R_lit Kd.string _ 9 ?hg (N := 8) ?hd (xs := ([] : List ByteArray)) (inner := []) (ok := fun _ => True) (okp := fun _ => True) ?hr ?hp (fun _ hk => hk) trivial (Below.refl _ _) (Nat.le_refl _) (by simp) ?_; (case hd => rfl); (case hg => rfl); (case hr => first | (go_simp; done) | (go_simp; rfl)); (case hp => exact (Reps.none _ _)); intro v1 w1 ho hb hg_ hnew_; clear hg_ hnew_; have HO1 := Aside0.mk (Kd.R_lower ho (below_size HB.out)); have n2_ := Aside0.mk (below_step HB.out hb); clear HB; have HB := n2_; clear n2_ hb ho))
  go_loopw [5, 11] (fun u i wr => ∃ (k : Nat) (ys : List ByteArray), k ≤ l0.length ∧ i = .int .i64 k ∧ Aside0 (r = ys ++ namesL p (l0.drop k) k) ∧ Aside0 (ys.length ≤ k) ∧ Aside0 (Kd.R Kd.string 9 wr w.heap.size (fun _ => True) u ys) ∧ Aside0 (Below w.heap.size w wr)) (fun _ i _ => l0.length - (intOf i).toNat)
  case atStart => exact ⟨0, [], Nat.zero_le _, rfl, ⟨by rw [HR1.out]; rfl⟩, ⟨Nat.zero_le _⟩, ⟨HO1.out⟩, ⟨HB.out⟩⟩
  case round =>
    obtain ⟨k, ys, hk, rfl, HS0, HL, HO, HB⟩ := hrel
    by_cases hlt : k < l0.length
    · obtain ⟨ad, e, h0, h1, h2, h3, h4, h5⟩ := at_T45 HR.out (k : Int) (by omega) (by omega)
      rw [Int.toNat_natCast] at h0 h1 h2 h3 h4 h5
      cases e
      replace h0 := (HB.out.cell (World.block_lt_of_cell? w _ h0)).trans h0
      replace h1 := (HB.out.cell (World.block_lt_of_cell? w _ h1)).trans h1
      replace h2 := (HB.out.cell (World.block_lt_of_cell? w _ h2)).trans h2
      replace h3 := (HB.out.cell (World.block_lt_of_cell? w _ h3)).trans h3
      replace h4 := (HB.out.cell (World.block_lt_of_cell? w _ h4)).trans h4
      replace h5 := (HB.out.cell (World.block_lt_of_cell? w _ h5)).trans h5
      have hlt' : (k : Int) < (l0.length : Int) := by omega
      have hd := dropN_T45 l0 k hlt
      have HS := Aside0.mk (HS0.out.trans (by rw [hd]; rfl) : r = ys ++ (if p k = true then (rd_T45 l0 (k : Int)).f0 :: namesL p (l0.drop (k + 1)) (k + 1) else namesL p (l0.drop (k + 1)) (k + 1)))
      have hp := HPP.out k hlt
      clear hd
      have HEk := HE.out
      generalize hq : p k = b at hp HS
      clear hq
      have HP := Aside0.mk hp
      clear hp
      have hge := below_size HB.out
      cases b with
      | true =>
        go_wp2_with (first | (go_at_fn 114; refine (HP.out _ ?bel).mono ?_; (case bel => repeat (first | exact HB.out | apply below_alloc | refine below_set ?_ hge)); rintro e w' ⟨rfl, hb⟩; have hcx : w'.cell? ⟨wr.heap.size, 0, none⟩ = some (.string (rd_T45 l0 (k : Int)).f0) := (hb.cell (p := ⟨wr.heap.size, 0, none⟩) (by simp)).trans (by simp); have HB1 := Aside0.mk (below_step (below_alloc HB.out _) hb); have HO1 := Aside0.mk (Kd.R_below HO.out (((Below.refl _ wr).alloc (Nat.le_refl _) _).trans (hb.mono (by simp)))); clear hb) | ((with_reducible refine gate_builtin (b := .append) (xs := #[.tmp 19, .tmp 22]) rfl ?_); at_builtin; refine Kd.R_append Kd.string (w0 := w) w.heap.size rfl (.tmp 19) (.tmp 22) 48 9 (.string ⟨#[]⟩) 16 rfl Try.underlying48 info9 rfl (by decide) (by omega) u5 ys ((rd_T45 l0 (k : Int)).f0) [.string ((rd_T45 l0 (k : Int)).f0)] (fun _ => True) (fun _ => False) rfl rfl ?aP (fun _ hk => hk.elim) ?aF ?aO ?aB ?aS ?aL ?_; (case aP => exact rfl); (case aB => exact (by repeat (first | (with_reducible first | exact HB1.out | apply below_alloc | apply pw_below_drewN | apply below_drew1) | exact HB1.out))); (case aF => exact (fun _ _ => trivial)); (case aO => exact (by (with_reducible repeat (first | apply Kd.R_alloc | apply Kd.R_drewN | apply Kd.R_drew)); exact HO1.out)); (case aS => exact (below_size (by repeat (first | (with_reducible first | exact HB1.out | apply below_alloc | apply pw_below_drewN | apply below_drew1) | exact HB1.out)))); (case aL => have := HL.out; omega); intro v2 w10 ho hb2 hg hat; have HO2 := Aside0.mk ho; have HB2 := Aside0.mk hb2; clear ho hb2 hg hat))
        go_roundw
        case rel => exact ⟨k + 1, ys ++ [(rd_T45 l0 (k : Int)).f0], by omega, by go_num, ⟨by rw [HS.out]; simp⟩, ⟨by have := HL.out; simp; omega⟩, ⟨HO2.out⟩, ⟨HB2.out⟩⟩
        case measure => simp [intOf]; omega
      | false =>
        go_wp2_with (first | (go_at_fn 114; refine (HP.out _ ?bel).mono ?_; (case bel => repeat (first | exact HB.out | apply below_alloc | refine below_set ?_ hge)); rintro e w' ⟨rfl, hb⟩; have hcx : w'.cell? ⟨wr.heap.size, 0, none⟩ = some (.string (rd_T45 l0 (k : Int)).f0) := (hb.cell (p := ⟨wr.heap.size, 0, none⟩) (by simp)).trans (by simp); have HB1 := Aside0.mk (below_step (below_alloc HB.out _) hb); have HO1 := Aside0.mk (Kd.R_below HO.out (((Below.refl _ wr).alloc (Nat.le_refl _) _).trans (hb.mono (by simp)))); clear hb))
        go_roundw
        case rel => exact ⟨k + 1, ys, by omega, by go_num, ⟨by rw [HS.out]; simp⟩, ⟨by have := HL.out; omega⟩, ⟨HO1.out⟩, ⟨HB1.out⟩⟩
        case measure => simp [intOf]; omega
    · have : k = l0.length := by omega
      subst this
      go_wp2
      go_ret
      exact ⟨_, rfl, by rw [HS0.out, List.drop_length]; simp only [namesL, List.append_nil]; exact HO.out, HB.out⟩
def UsersPost (w : World) (b : Bool) (e : Ending) (w' : World) : Prop := e = .returned (.bool b) ∧ Below w.heap.size w w'
set_option maxHeartbeats 1000000 in
theorem users_pred (K : Nat) (A0 : Option Addr) (c0 : Nat) (l0 : List S45) (hc0 : l0.length ≤ c0) (at_ : Int) (k : Nat) (hk : k < l0.length) (m : List Bool) (hm : impl_needs.f K l0 k = some m) (h0 : 0 ≤ at_) (h1 : at_ < m.length) (B1 B2 : Nat) (w : World) (hr0 : Kd.C k45 w A0 l0.length l0)
    (hcell : w.cell? ⟨B1, 0, none⟩ = some (.slice A0 l0.length c0)) (hcell2 : w.cell? ⟨B2, 0, none⟩ = some (.int .i64 at_)) :
    Calls Try.prog 114 #[.int .i64 k, .pointer (some ⟨B1, 0, none⟩), .pointer (some ⟨B2, 0, none⟩)] w (UsersPost w (rdOf false m at_)) := by
  have HR := Aside0.mk hr0
  have HA := Aside0.mk hm
  have HC := Aside0.mk hc0
  have hb1 := World.block_lt_of_cell? w _ hcell
  have hb2 := World.block_lt_of_cell? w _ hcell2
  clear hr0 hm hc0
  go_enter Try.func114, Try.ntmps114
  go_wp2
  go_region_with (first | (go_at_call 66; refine (impl_needs.calls K A0 c0 l0 k m _ (Kd.C_drew HR.out) HC.out HA.out).mono ?_; rintro e w' ⟨v, rfl, ho, hb⟩; have q1 : w'.cell? ⟨B1, 0, none⟩ = some (.slice A0 l0.length c0) := (hb.cell (p := ⟨B1, 0, none⟩) (by simpa using hb1)).trans hcell; have q2 : w'.cell? ⟨B2, 0, none⟩ = some (.int .i64 at_) := (hb.cell (p := ⟨B2, 0, none⟩) (by simpa using hb2)).trans hcell2; obtain ⟨Ao, co, eo⟩ := Kd.R_slice ho; subst eo; obtain ⟨ad, e, hx⟩ := Kd.at_bool (Kd.R_reads' ho).2.2 at_ h0 h1; cases e; have HB := Aside0.mk (below_step (below_drew1 (Below.refl w.heap.size w)) hb); clear hb ho))
  all_goals (go_wp2; go_ret; exact ⟨rfl, HB.out⟩)
theorem namesL_congr {p q : Nat → Bool} : ∀ (l : List S45) (j : Nat), (∀ i, j ≤ i → i < j + l.length → p i = q i) → namesL p l j = namesL q l j
  | [], _, _ => rfl
  | x :: l, j, h => by
    have h0 := h j (Nat.le_refl _) (by simp)
    have h1 := namesL_congr l (j + 1) (fun i hi hj => h i (by omega) (by simp only [List.length_cons]; omega))
    simp only [namesL, h0, h1]
def needsAll (k : Nat) (l0 : List S45) : Bool := (List.range l0.length).all fun i => match impl_needs.f k l0 (i : Int) with | some m => m.length == l0.length | none => false
theorem needsAll_get {k : Nat} {l0 : List S45} (h : needsAll k l0 = true) (i : Nat) (hi : i < l0.length) : ∃ m, impl_needs.f k l0 (i : Int) = some m ∧ m.length = l0.length := by
  have := (List.all_eq_true.mp h) i (List.mem_range.mpr hi)
  split at this
  · rename_i m hm; exact ⟨m, hm, by simpa using this⟩
  · exact absurd this (by simp)
theorem needsAll_of {k : Nat} {l0 : List S45} (h : ∀ i, i < l0.length → ∃ m, impl_needs.f k l0 (i : Int) = some m ∧ m.length = l0.length) : needsAll k l0 = true := by
  refine List.all_eq_true.mpr (fun i hi => ?_)
  obtain ⟨m, hm, hl⟩ := h i (List.mem_range.mp hi)
  simp [hm, hl]
def impl_usersOf.f (k : Nat) (l0 : List S45) (a1 : ByteArray) : Option (List ByteArray) := if l0.length ≤ 1000 then (if 0 ≤ findL l0 a1 ∧ findL l0 a1 < l0.length then (if needsAll k l0 = true then some (namesL (fun i => rdOf false ((impl_needs.f k l0 (i : Int)).getD []) (findL l0 a1)) l0 0) else none) else none) else none
theorem impl_usersOf.mono : ∀ a0 a1 k, LeO (impl_usersOf.f k a0 a1) (impl_usersOf.f (k + 1) a0 a1) := by
  intro a0 a1 k
  unfold impl_usersOf.f
  refine LeO.ite (LeO.ite ?_ (LeO.refl _)) (LeO.refl _)
  intro r h
  by_cases hn : needsAll k a0 = true
  · rw [if_pos hn] at h
    have hm : needsAll (k + 1) a0 = true := needsAll_of (fun i hi => by
      obtain ⟨m, h1, h2⟩ := needsAll_get hn i hi
      exact ⟨m, impl_needs.mono _ _ _ _ h1, h2⟩)
    rw [if_pos hm, ← h, Option.some.injEq]
    refine namesL_congr _ _ (fun i _ hi => ?_)
    obtain ⟨m, h1, h2⟩ := needsAll_get hn i (by omega)
    rw [h1, impl_needs.mono _ _ _ _ h1]
  · rw [if_neg hn] at h; exact absurd h (by simp)
set_option maxHeartbeats 8000000 in
set_option maxRecDepth 100000 in
theorem impl_usersOf.calls (k : Nat) (A0 : Option Addr) (c0 : Nat) (l0 : List S45) (a1 : ByteArray) (r : List ByteArray) (w : World) (hr0 : Kd.C k45 w A0 l0.length l0) (hc0 : l0.length ≤ c0) (h : impl_usersOf.f k l0 a1 = some r) :
    Calls Try.prog 87 #[.slice A0 l0.length c0, .string a1] w fun e w' => ∃ v0_ : Value, e = .returned v0_ ∧ Kd.R Kd.string 9 w' w.heap.size (fun _ => True) v0_ r ∧ Below w.heap.size w w' := by
  have HR0 := Aside0.mk hr0
  have HC0 := Aside0.mk hc0
  clear hr0 hc0
  have HB := Aside0.mk (Below.refl w.heap.size w)
  unfold impl_usersOf.f at h
  by_cases c5 : l0.length ≤ 1000
  case neg => rw [if_neg c5] at h; exact absurd h (by simp)
  rw [if_pos c5] at h
  have hx : ∃ y, y = findL l0 a1 := ⟨_, rfl⟩
  obtain ⟨y, hy⟩ := hx
  have hline : impl_lineOf.f l0 a1 = some y := by rw [hy]; rfl
  rw [← hy] at h
  by_cases c6 : 0 ≤ y ∧ y < l0.length
  case neg => rw [if_neg c6] at h; exact absurd h (by simp)
  rw [if_pos c6] at h
  by_cases c7 : needsAll k l0 = true
  case neg => rw [if_neg c7] at h; exact absurd h (by simp)
  rw [if_pos c7] at h
  have NR := Aside0.mk (Option.some.inj h)
  have A6 := Aside0.mk hline
  have L5 := Aside0.mk c5
  have Y6 := Aside0.mk c6
  have NA := Aside0.mk c7
  clear hline hy c5 c6 c7 h
  go_enter Try.func87, Try.ntmps87
  go_wp2_with (first | (go_at_call 79; (with_reducible refine (impl_lineOf.calls _ _ l0 a1 y _ ?side1 ?side2 A6.out).mono ?_); (case side1 => repeat (first | exact (Kd.C_below HR0.out HB.out) | (with_reducible refine Kd.C_alloc ?_ _))); (case side2 => exact HC0.out); rintro e w10 ⟨rfl, hb⟩; have Q1 := Aside0.mk (((hb.cell (p := ⟨w.heap.size, 0, none⟩) (by simp)).trans (by simp)) : w10.cell? ⟨w.heap.size, 0, none⟩ = some (.slice A0 l0.length c0)); have HB1 := Aside0.mk (below_step (below_alloc HB.out _) hb); have q1 : (w10.alloc (Obj.cells #[Value.int IntKind.i64 y] 3)).cell? ⟨w.heap.size, 0, none⟩ = some (.slice A0 l0.length c0) := (((Below.refl _ w10).alloc (Nat.le_refl _) _).cell (p := ⟨w.heap.size, 0, none⟩) (World.block_lt_of_cell? w10 _ Q1.out)).trans Q1.out; clear hb) | (go_at_call 84; (refine (names_114 (fun i => rdOf false ((impl_needs.f k l0 (i : Int)).getD []) y) (.pointer (some ⟨w.heap.size, 0, none⟩)) (.pointer (some ⟨w10.heap.size, 0, none⟩)) _ _ l0 _ ?side1 ?side2 L5.out ?side3).mono ?_; (case side1 => exact Kd.C_alloc (Kd.C_below HR0.out HB1.out) _); (case side2 => exact HC0.out); (case side3 => (intro i hi wr hb; obtain ⟨m, hm, hl⟩ := needsAll_get NA.out i hi; have e1 : rdOf false ((impl_needs.f k l0 (i : Int)).getD []) y = rdOf false m y := (by rw [hm]; rfl); rw [e1]; have hq := below_step (below_alloc HB1.out _) hb; exact users_pred k A0 c0 l0 HC0.out y i hi m hm Y6.out.1 (by rw [hl]; exact Y6.out.2) w.heap.size w10.heap.size wr (Kd.C_below HR0.out hq) ((hb.cell (p := ⟨w.heap.size, 0, none⟩) (by have hz : w.heap.size < w10.heap.size := World.block_lt_of_cell? w10 _ Q1.out; simp; omega)).trans q1) ((hb.cell (p := ⟨w10.heap.size, 0, none⟩) (by simp)).trans (by simp)))); rintro e w12 ⟨v2, rfl, ho, hb⟩; have HOr := Aside0.mk (Kd.R_lower ho (below_size (below_alloc HB1.out _))); have HBr := Aside0.mk (below_step (below_alloc HB1.out _) hb); clear ho hb)))
  go_ret
  exact ⟨_, rfl, by rw [← NR.out]; exact HOr.out, HBr.out⟩
end Go.Proofs.Ytenhgmddpkiliaa.PB

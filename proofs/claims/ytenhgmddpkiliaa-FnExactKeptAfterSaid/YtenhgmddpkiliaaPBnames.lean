/- impl.names with one closure: the names of the lines that a predicate takes. -/
import Derived.Test.YtenhgmddpkiliaaPBx0
import Derived.Test.YtenhgmddpkiliaaRP
import Derived.Shelf.Abstract
namespace Go.Proofs.Ytenhgmddpkiliaa.PB
open Go.RowKit Go.Proofs.YtenhgmddpkiliaaW.PrintWords Go.Proofs.YtenhgmddpkiliaaW.PrintLast Go.Proofs.YtenhgmddpkiliaaW.PrintMore Go.Lib Go.Proofs.YtenhgmddpkiliaaRP
set_option linter.unusedVariables false
set_option linter.unusedSimpArgs false

def namesL (p : Nat → Bool) : List S45 → Nat → List ByteArray
  | [], _ => []
  | x :: xs, k => if p k = true then x.f0 :: namesL p xs (k + 1) else namesL p xs (k + 1)
theorem dropN_T45 (l : List S45) (k : Nat) (h : k < l.length) : l.drop k = rd_T45 l (k : Int) :: l.drop (k + 1) := by
  rw [List.drop_eq_getElem_cons h]
  simp [rd_T45, List.getD, h]
set_option maxHeartbeats 4000000 in
theorem names_85 (p : Nat → Bool) (cap0_ : Value) (A0 : Option Addr) (c0 : Nat) (l0 : List S45) (w : World) (hr0 : Kd.C k45 w A0 l0.length l0) (hc0 : l0.length ≤ c0) (hl0 : l0.length ≤ 1000)
    (hp : ∀ k : Nat, k < l0.length → ∀ wr, Below w.heap.size w wr → Calls Try.prog 85 #[.int .i64 k, cap0_] wr fun e w' => e = .returned (.bool (p k)) ∧ Below wr.heap.size wr w') :
    Calls Try.prog 84 #[.slice A0 l0.length c0, .func (.func 85) #[] #[cap0_]] w fun e w' => ∃ v0_ : Value, e = .returned v0_ ∧ Kd.R Kd.string 9 w' w.heap.size (fun _ => True) v0_ (namesL p l0 0) ∧ Below w.heap.size w w' := by
  have HR := Aside0.mk hr0
  have hm : l0.length ≤ 9223372036854775807 := hr0.2.1
  clear hr0
  have eg : ∀ args w, (callFunc 85 args).run Try.prog w = .ok (.enter 85 args) w := enters_of Try.func85 (by kernel_rfl) rfl
  have HE := Aside0.mk eg
  have HPP := Aside0.mk hp
  clear eg hp
  have HB := Aside0.mk (Below.refl w.heap.size w)
  obtain ⟨r, hr⟩ : ∃ r, r = namesL p l0 0 := ⟨_, rfl⟩
  rw [← hr]
  have HR1 := Aside0.mk hr
  clear hr
  go_enter Try.func84, Try.ntmps84
  go_wp2_with (first | ((with_reducible refine gate_dst (N := 8) rfl ?_); refine Kd.R_lit Kd.string _ 9 ?hg (N := 8) ?hd (xs := ([] : List ByteArray)) (inner := []) (ok := fun _ => True) (okp := fun _ => True) ?hr ?hp (fun _ hk => hk) trivial (Below.refl _ _) (Nat.le_refl _) (by simp) ?_; (case hd => rfl); (case hg => rfl); (case hr => first | (go_simp; done) | (go_simp; rfl)); (case hp => exact (Reps.none _ _)); intro v1 w1 ho hb hg_ hnew_; clear hg_ hnew_; have HO1 := Aside0.mk (Kd.R_lower ho (below_size HB.out)); have n2_ := Aside0.mk (below_step HB.out hb); clear HB; have HB := n2_; clear n2_ hb ho))
  go_loopw [5, 11] (fun u i wr => ∃ (k : Nat) (ys : List ByteArray), k ≤ l0.length ∧ i = .int .i64 k ∧ Aside0 (r = ys ++ namesL p (l0.drop k) k) ∧ Aside0 (ys.length ≤ k) ∧ Aside0 (Kd.R Kd.string 9 wr w.heap.size (fun _ => True) u ys) ∧ Aside0 (Below w.heap.size w wr)) (fun _ i _ => l0.length - (intOf i).toNat)
  case atStart => exact ⟨0, [], Nat.zero_le _, rfl, ⟨by rw [HR1.out]; rfl⟩, ⟨Nat.zero_le _⟩, ⟨HO1.out⟩, ⟨HB.out⟩⟩
  case round =>
    obtain ⟨k, ys, hk, rfl, HS0, HL, HO, HB⟩ := hrel
    by_cases hlt : k < l0.length
    · obtain ⟨ad, e, h0, h1, h2, h3, h4, h5⟩ := at_T45 HR.out (k : Int) (by omega) (by omega)
      rw [Int.toNat_natCast] at h0 h1 h2 h3 h4 h5
      cases e
      replace h0 := (HB.out.cell (World.block_lt_of_cell? w _ h0)).trans h0
      replace h1 := (HB.out.cell (World.block_lt_of_cell? w _ h1)).trans h1
      replace h2 := (HB.out.cell (World.block_lt_of_cell? w _ h2)).trans h2
      replace h3 := (HB.out.cell (World.block_lt_of_cell? w _ h3)).trans h3
      replace h4 := (HB.out.cell (World.block_lt_of_cell? w _ h4)).trans h4
      replace h5 := (HB.out.cell (World.block_lt_of_cell? w _ h5)).trans h5
      have hlt' : (k : Int) < (l0.length : Int) := by omega
      have hd := dropN_T45 l0 k hlt
      have HS := Aside0.mk (HS0.out.trans (by rw [hd]; rfl) : r = ys ++ (if p k = true then (rd_T45 l0 (k : Int)).f0 :: namesL p (l0.drop (k + 1)) (k + 1) else namesL p (l0.drop (k + 1)) (k + 1)))
      have hp := HPP.out k hlt
      clear hd
      have HEk := HE.out
      generalize hq : p k = b at hp HS
      clear hq
      have HP := Aside0.mk hp
      clear hp
      have hge := below_size HB.out
      cases b with
      | true =>
        go_wp2_with (first | (go_at_fn 85; refine (HP.out _ ?bel).mono ?_; (case bel => repeat (first | exact HB.out | apply below_alloc | refine below_set ?_ hge)); rintro e w' ⟨rfl, hb⟩; have hcx : w'.cell? ⟨wr.heap.size, 0, none⟩ = some (.string (rd_T45 l0 (k : Int)).f0) := (hb.cell (p := ⟨wr.heap.size, 0, none⟩) (by simp)).trans (by simp); have HB1 := Aside0.mk (below_step (below_alloc HB.out _) hb); have HO1 := Aside0.mk (Kd.R_below HO.out (((Below.refl _ wr).alloc (Nat.le_refl _) _).trans (hb.mono (by simp)))); clear hb) | ((with_reducible refine gate_builtin (b := .append) (xs := #[.tmp 19, .tmp 22]) rfl ?_); at_builtin; refine Kd.R_append Kd.string (w0 := w) w.heap.size rfl (.tmp 19) (.tmp 22) 48 9 (.string ⟨#[]⟩) 16 rfl Try.underlying48 info9 rfl (by decide) (by omega) u5 ys ((rd_T45 l0 (k : Int)).f0) [.string ((rd_T45 l0 (k : Int)).f0)] (fun _ => True) (fun _ => False) rfl rfl ?aP (fun _ hk => hk.elim) ?aF ?aO ?aB ?aS ?aL ?_; (case aP => exact rfl); (case aB => exact (by repeat (first | (with_reducible first | exact HB1.out | apply below_alloc | apply pw_below_drewN | apply below_drew1) | exact HB1.out))); (case aF => exact (fun _ _ => trivial)); (case aO => exact (by (with_reducible repeat (first | apply Kd.R_alloc | apply Kd.R_drewN | apply Kd.R_drew)); exact HO1.out)); (case aS => exact (below_size (by repeat (first | (with_reducible first | exact HB1.out | apply below_alloc | apply pw_below_drewN | apply below_drew1) | exact HB1.out)))); (case aL => have := HL.out; omega); intro v2 w10 ho hb2 hg hat; have HO2 := Aside0.mk ho; have HB2 := Aside0.mk hb2; clear ho hb2 hg hat))
        go_roundw
        case rel => exact ⟨k + 1, ys ++ [(rd_T45 l0 (k : Int)).f0], by omega, by go_num, ⟨by rw [HS.out]; simp⟩, ⟨by have := HL.out; simp; omega⟩, ⟨HO2.out⟩, ⟨HB2.out⟩⟩
        case measure => simp [intOf]; omega
      | false =>
        go_wp2_with (first | (go_at_fn 85; refine (HP.out _ ?bel).mono ?_; (case bel => repeat (first | exact HB.out | apply below_alloc | refine below_set ?_ hge)); rintro e w' ⟨rfl, hb⟩; have hcx : w'.cell? ⟨wr.heap.size, 0, none⟩ = some (.string (rd_T45 l0 (k : Int)).f0) := (hb.cell (p := ⟨wr.heap.size, 0, none⟩) (by simp)).trans (by simp); have HB1 := Aside0.mk (below_step (below_alloc HB.out _) hb); have HO1 := Aside0.mk (Kd.R_below HO.out (((Below.refl _ wr).alloc (Nat.le_refl _) _).trans (hb.mono (by simp)))); clear hb))
        go_roundw
        case rel => exact ⟨k + 1, ys, by omega, by go_num, ⟨by rw [HS.out]; simp⟩, ⟨by have := HL.out; omega⟩, ⟨HO1.out⟩, ⟨HB1.out⟩⟩
        case measure => simp [intOf]; omega
    · have : k = l0.length := by omega
      subst this
      go_wp2
      go_ret
      exact ⟨_, rfl, by rw [HS0.out, List.drop_length]; simp only [namesL, List.append_nil]; exact HO.out, HB.out⟩
end Go.Proofs.Ytenhgmddpkiliaa.PB

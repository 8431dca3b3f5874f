/- The program's lineOf (slices.IndexFunc with a closure over a name): the place of the first line of the name, or -1. -/
import Derived.Test.YtenhgmddpkiliaaPBx0
import Derived.Test.YtenhgmddpkiliaaIDX
import Derived.Shelf.Abstract
namespace Go.Proofs.Ytenhgmddpkiliaa.PB
open Go.RowKit Go.Proofs.YtenhgmddpkiliaaW.PrintWords Go.Proofs.YtenhgmddpkiliaaW.PrintLast Go.Proofs.YtenhgmddpkiliaaW.PrintMore Go.Lib Go.Proofs.YtenhgmddpkiliaaRP
set_option linter.unusedVariables false
set_option linter.unusedSimpArgs false

def nameB (s : ByteArray) (x : S45) : Bool := x.f0.toList == s.toList
def findL (l : List S45) (s : ByteArray) : Int := idxL (nameB s) l
theorem findName_pred (x : S45) (s : ByteArray) (B : Nat) (w : World) (hB : B < w.heap.size) (hcell : w.cell? ⟨B, 0, none⟩ = some (.string s)) :
    Calls Try.prog 111 #[.agg #[.string x.f0, .int .i8 x.f1, .string x.f2, .string x.f3, .int .i64 x.f4, .int .i64 x.f5], .pointer (some ⟨B, 0, none⟩)] w fun e w' => e = .returned (.bool (x.f0.toList == s.toList)) ∧ Below w.heap.size w w' := by
  have hne : B ≠ w.heap.size := by omega
  go_enter Try.func111, Try.ntmps111
  go_wp2
  all_goals (go_ret; exact ⟨by simp_all, (Below.refl _ _).alloc (Nat.le_refl _) _⟩)
theorem drop_T45 (l : List S45) (k : Nat) (h : k < l.length) : l.drop k = rd_T45 l (k : Int) :: l.drop (k + 1) := by
  rw [List.drop_eq_getElem_cons h]
  simp [rd_T45, List.getD, h]
set_option maxHeartbeats 4000000 in
theorem idx110_111 (p : S45 → Bool) (cap0_ : Value) (A0 : Option Addr) (c0 : Nat) (l0 : List S45) (w : World) (hr0 : Kd.C k45 w A0 l0.length l0) (hc0 : l0.length ≤ c0)
    (hp : ∀ x ∈ l0, ∀ wr, Below w.heap.size w wr → Calls Try.prog 111 #[.agg #[.string x.f0, .int .i8 x.f1, .string x.f2, .string x.f3, .int .i64 x.f4, .int .i64 x.f5], cap0_] wr fun e w' => e = .returned (.bool (p x)) ∧ Below wr.heap.size wr w') :
    Calls Try.prog 110 #[.slice A0 l0.length c0, .func (.func 111) #[] #[cap0_]] w fun e w' => e = .returned (.int .i64 (idxL p l0)) ∧ Below w.heap.size w w' := by
  have HR := Aside0.mk hr0
  have hm : l0.length ≤ 9223372036854775807 := hr0.2.1
  clear hr0
  have eg : ∀ args w, (callFunc 111 args).run Try.prog w = .ok (.enter 111 args) w := enters_of Try.func111 (by kernel_rfl) rfl
  have HE := Aside0.mk eg
  have HPP := Aside0.mk hp
  clear eg hp
  obtain ⟨r, hr⟩ : ∃ r, r = idxL p l0 := ⟨_, rfl⟩
  rw [← hr]
  have HR1 := Aside0.mk hr
  clear hr
  go_enter Try.func110, Try.ntmps110
  go_wp2
  go_loopw [5, 8] (fun _ i wr => ∃ k : Nat, k ≤ l0.length ∧ i = .int .i64 k ∧ Aside0 (r = idxGo p (l0.drop k) k) ∧ Aside0 (Below w.heap.size w wr)) (fun _ i _ => l0.length - (intOf i).toNat)
  case atStart => exact ⟨0, Nat.zero_le _, rfl, ⟨by rw [HR1.out]; rfl⟩, ⟨Below.refl _ _⟩⟩
  case round =>
    obtain ⟨k, hk, rfl, HO, HB⟩ := hrel
    by_cases hlt : k < l0.length
    · obtain ⟨ad, e, h0, h1, h2, h3, h4, h5⟩ := at_T45 HR.out (k : Int) (by omega) (by omega)
      rw [Int.toNat_natCast] at h0 h1 h2 h3 h4 h5
      cases e
      replace h0 := (HB.out.cell (World.block_lt_of_cell? w _ h0)).trans h0
      replace h1 := (HB.out.cell (World.block_lt_of_cell? w _ h1)).trans h1
      replace h2 := (HB.out.cell (World.block_lt_of_cell? w _ h2)).trans h2
      replace h3 := (HB.out.cell (World.block_lt_of_cell? w _ h3)).trans h3
      replace h4 := (HB.out.cell (World.block_lt_of_cell? w _ h4)).trans h4
      replace h5 := (HB.out.cell (World.block_lt_of_cell? w _ h5)).trans h5
      have hlt' : (k : Int) < (l0.length : Int) := by omega
      have hd := drop_T45 l0 k hlt
      have HS := Aside0.mk (HO.out.trans (by rw [hd]; rfl) : r = if p (rd_T45 l0 (k : Int)) = true then (k : Int) else idxGo p (l0.drop (k + 1)) (k + 1))
      have hp := HPP.out (rd_T45 l0 (k : Int)) (List.mem_of_mem_drop (i := k) (by rw [hd]; exact List.mem_cons_self)) wr HB.out
      clear hd
      have HEk := HE.out
      generalize hq : p (rd_T45 l0 (k : Int)) = b at hp HS
      clear hq
      have HP := Aside0.mk hp
      clear hp
      cases b with
      | true =>
        go_wp2_with (go_at_fn 111; refine HP.out.mono ?_; rintro e w' ⟨rfl, hb⟩)
        go_ret
        exact ⟨by rw [HS.out]; first | rfl | simp, below_step HB.out hb⟩
      | false =>
        go_wp2_with (go_at_fn 111; refine HP.out.mono ?_; rintro e w' ⟨rfl, hb⟩)
        go_roundw
        case rel => exact ⟨k + 1, by omega, by go_num, ⟨by rw [HS.out]; first | rfl | simp⟩, ⟨below_step HB.out hb⟩⟩
        case measure => simp [intOf]; omega
    · have : k = l0.length := by omega
      subst this
      go_wp2
      go_ret
      exact ⟨by rw [HO.out, List.drop_length]; rfl, HB.out⟩
def impl_lineOf.f (l0 : List S45) (a1 : ByteArray) : Option Int := some (findL l0 a1)
set_option maxHeartbeats 2000000 in
theorem impl_lineOf.calls (A0 : Option Addr) (c0 : Nat) (l0 : List S45) (a1 : ByteArray) (r : Int) (w : World) (hr0 : Kd.C k45 w A0 l0.length l0) (hc0 : l0.length ≤ c0) (h : impl_lineOf.f l0 a1 = some r) :
    Calls Try.prog 79 #[.slice A0 l0.length c0, .string a1] w fun e w' => e = .returned (.int .i64 r) ∧ Below w.heap.size w w' := by
  obtain rfl := Option.some.inj h
  clear h
  have hx := idx110_111 (nameB a1) (.pointer (some ⟨w.heap.size, 0, none⟩)) A0 c0 l0 (w.alloc (.cells #[.string a1] 9)) (Kd.C_alloc hr0 _) hc0
    (fun x _ wr hb => findName_pred x a1 w.heap.size wr (Nat.lt_of_lt_of_le (by simp) hb.size) ((hb.cell (p := ⟨w.heap.size, 0, none⟩) (by simp)).trans (by simp)))
  have HX := Aside0.mk hx
  clear hx hr0
  unfold findL
  generalize idxL (nameB a1) l0 = r at HX ⊢
  go_enter Try.func79, Try.ntmps79
  go_wp2_with (go_at_call 110; refine HX.out.mono ?_; rintro e w' ⟨rfl, hb⟩)
  go_ret
  exact ⟨rfl, ((Below.refl _ w).alloc (Nat.le_refl _) _).trans (hb.mono (by simp))⟩
end Go.Proofs.Ytenhgmddpkiliaa.PB

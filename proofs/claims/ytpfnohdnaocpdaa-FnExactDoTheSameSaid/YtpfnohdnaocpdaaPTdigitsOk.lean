/- The program's isDigit, and digitsOk (slices.ContainsFunc with a closure): whether all are digits. -/
import Derived.Test.YtpfnohdnaocpdaaPTx0
import Derived.Test.YtpfnohdnaocpdaaIDX
import Derived.Shelf.Abstract
namespace Go.Proofs.Ytpfnohdnaocpdaa.PT
open Go.RowKit Go.Proofs.YtpfnohdnaocpdaaW.PrintWords Go.Proofs.YtpfnohdnaocpdaaW.PrintLast Go.Proofs.YtpfnohdnaocpdaaW.PrintMore Go.Lib Go.Proofs.YtpfnohdnaocpdaaRP
set_option linter.unusedVariables false
set_option linter.unusedSimpArgs false

def digB (d : Int) : Bool := decide (-1 ≤ d) && decide (d ≤ 1)
theorem isDigit_any (d : Int) (w : World) : Calls Try.prog 148 #[.int .i8 d] w fun e w' => e = .returned (.bool (digB d)) ∧ Below w.heap.size w w' := by
  by_cases h : -1 ≤ d
  all_goals
    go_enter Try.func148, Try.ntmps148
    go_wp2
    go_ret
    exact ⟨by first | (simp [digB, h]; done) | (simp [digB, h]; omega), Below.refl _ _⟩
theorem notDigit_any (d : Int) (w : World) : Calls Try.prog 150 #[.int .i8 d] w fun e w' => e = .returned (.bool (!digB d)) ∧ Below w.heap.size w w' := by
  have HD := Aside0.mk (isDigit_any d)
  generalize digB d = b at HD
  go_enter Try.func150, Try.ntmps150
  go_wp2_with (go_at_call 148; refine (HD.out _).mono ?_; rintro e w' ⟨rfl, hb⟩)
  go_ret
  exact ⟨rfl, by assumption⟩
set_option maxHeartbeats 4000000 in
theorem idx157_150 (p : Int → Bool) (A0 : Option Addr) (c0 : Nat) (l0 : List Int) (w : World) (hr0 : Kd.C (Kd.int .i8) w A0 l0.length l0) (hc0 : l0.length ≤ c0)
    (hp : ∀ x ∈ l0, ∀ wr, Below w.heap.size w wr → Calls Try.prog 150 #[.int .i8 x] wr fun e w' => e = .returned (.bool (p x)) ∧ Below wr.heap.size wr w') :
    Calls Try.prog 157 #[.slice A0 l0.length c0, .func (.func 150) #[] #[]] w fun e w' => e = .returned (.int .i64 (idxL p l0)) ∧ Below w.heap.size w w' := by
  have HR := Aside0.mk hr0
  have hm : l0.length ≤ 9223372036854775807 := hr0.2.1
  clear hr0
  have eg : ∀ args w, (callFunc 150 args).run Try.prog w = .ok (.enter 150 args) w := enters_of Try.func150 (by kernel_rfl) rfl
  have HE := Aside0.mk eg
  have HPP := Aside0.mk hp
  clear eg hp
  obtain ⟨r, hr⟩ : ∃ r, r = idxL p l0 := ⟨_, rfl⟩
  rw [← hr]
  have HR1 := Aside0.mk hr
  clear hr
  go_enter Try.func157, Try.ntmps157
  go_wp2
  go_loopw [5, 8] (fun _ i wr => ∃ k : Nat, k ≤ l0.length ∧ i = .int .i64 k ∧ Aside0 (r = idxGo p (l0.drop k) k) ∧ Aside0 (Below w.heap.size w wr)) (fun _ i _ => l0.length - (intOf i).toNat)
  case atStart => exact ⟨0, Nat.zero_le _, rfl, ⟨by rw [HR1.out]; rfl⟩, ⟨Below.refl _ _⟩⟩
  case round =>
    obtain ⟨k, hk, rfl, HO, HB⟩ := hrel
    by_cases hlt : k < l0.length
    · obtain ⟨ad, e, h0⟩ := Kd.at_int HR.out (k : Int) (by omega) (by omega)
      rw [Int.toNat_natCast] at h0
      cases e
      replace h0 := (HB.out.cell (World.block_lt_of_cell? w _ h0)).trans h0
      have hlt' : (k : Int) < (l0.length : Int) := by omega
      have hd := drop_int l0 k hlt
      have HS := Aside0.mk (HO.out.trans (by rw [hd]; rfl) : r = if p (rd l0 (k : Int)) = true then (k : Int) else idxGo p (l0.drop (k + 1)) (k + 1))
      have hp := HPP.out (rd l0 (k : Int)) (List.mem_of_mem_drop (i := k) (by rw [hd]; exact List.mem_cons_self)) wr HB.out
      clear hd
      have HEk := HE.out
      generalize hq : p (rd l0 (k : Int)) = b at hp HS
      clear hq
      have HP := Aside0.mk hp
      clear hp
      cases b with
      | true =>
        go_wp2_with (go_at_fn 150; refine HP.out.mono ?_; rintro e w' ⟨rfl, hb⟩)
        go_ret
        exact ⟨by rw [HS.out]; first | rfl | simp, below_step HB.out hb⟩
      | false =>
        go_wp2_with (go_at_fn 150; refine HP.out.mono ?_; rintro e w' ⟨rfl, hb⟩)
        go_roundw
        case rel => exact ⟨k + 1, by omega, by go_num, ⟨by rw [HS.out]; first | rfl | simp⟩, ⟨below_step HB.out hb⟩⟩
        case measure => simp [intOf]; omega
    · have : k = l0.length := by omega
      subst this
      go_wp2
      go_ret
      exact ⟨by rw [HO.out, List.drop_length]; rfl, HB.out⟩
set_option maxHeartbeats 2000000 in
theorem con149_150 (p : Int → Bool) (A0 : Option Addr) (c0 : Nat) (l0 : List Int) (w : World) (hr0 : Kd.C (Kd.int .i8) w A0 l0.length l0) (hc0 : l0.length ≤ c0)
    (hp : ∀ x ∈ l0, ∀ wr, Below w.heap.size w wr → Calls Try.prog 150 #[.int .i8 x] wr fun e w' => e = .returned (.bool (p x)) ∧ Below wr.heap.size wr w') :
    Calls Try.prog 149 #[.slice A0 l0.length c0, .func (.func 150) #[] #[]] w fun e w' => e = .returned (.bool (l0.any p)) ∧ Below w.heap.size w w' := by
  have hx := idx157_150 p A0 c0 l0 w hr0 hc0 hp
  have HX := Aside0.mk hx
  clear hx hr0 hp
  have HA := Aside0.mk (idxL_any p l0)
  generalize idxL p l0 = i at HX HA
  cases hb : l0.any p with
  | true =>
    rw [hb] at HA
    have h0 : 0 ≤ i := by have := HA.out; simpa using this
    go_enter Try.func149, Try.ntmps149
    go_wp2_with (go_at_call 157; refine HX.out.mono ?_; rintro e w' ⟨rfl, hb⟩)
    go_ret
    exact ⟨by first | rfl | simp [h0], by assumption⟩
  | false =>
    rw [hb] at HA
    have h0 : i < 0 := by have := HA.out; simpa using this
    have h1 : decide (0 ≤ i) = false := decide_eq_false (by omega)
    go_enter Try.func149, Try.ntmps149
    go_wp2_with (go_at_call 157; refine HX.out.mono ?_; rintro e w' ⟨rfl, hb⟩)
    go_ret
    exact ⟨by first | rfl | simp [h0, h1], by assumption⟩
def impl_digitsOk.f (l0 : List Int) : Option Bool := some (l0.all digB)
set_option maxHeartbeats 2000000 in
theorem impl_digitsOk.calls (A0 : Option Addr) (c0 : Nat) (l0 : List Int) (r : Bool) (w : World) (hr0 : Kd.C (Kd.int .i8) w A0 l0.length l0) (hc0 : l0.length ≤ c0) (h : impl_digitsOk.f l0 = some r) :
    Calls Try.prog 115 #[.slice A0 l0.length c0] w fun e w' => e = .returned (.bool r) ∧ Below w.heap.size w w' := by
  obtain rfl := Option.some.inj h
  clear h
  have HX := Aside0.mk (con149_150 (fun d => !digB d) A0 c0 l0 w hr0 hc0 (fun x _ wr _ => notDigit_any x wr))
  clear hr0
  have HA : Aside0 ((l0.any fun d => !digB d) = !l0.all digB) := ⟨by rw [List.all_eq_not_any_not, Bool.not_not]⟩
  rw [HA.out] at HX
  generalize l0.all digB = b at HX
  go_enter Try.func115, Try.ntmps115
  go_wp2_with (go_at_call 149; refine HX.out.mono ?_; rintro e w' ⟨rfl, hb⟩)
  go_ret
  exact ⟨by simp, by assumption⟩
end Go.Proofs.Ytpfnohdnaocpdaa.PT

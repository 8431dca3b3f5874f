/- The reference's l02Node (through a pointer that is only read) and l02Ok: what they answer.
   For every term that can be read. -/
import Derived.Test.YtenhgmddpkiliaaPBx0
import Derived.Test.YtenhgmddpkiliaaPBx2
import Derived.Test.YtenhgmddpkiliaaPBx3
import Derived.Lib.Hide
namespace Go.Proofs.Ytenhgmddpkiliaa.PB
open Go.RowKit Go.Proofs.YtenhgmddpkiliaaW.PrintWords Go.Proofs.YtenhgmddpkiliaaW.PrintLast Go.Proofs.YtenhgmddpkiliaaW.PrintMore Go.Lib
set_option linter.unusedVariables false
set_option linter.unusedSimpArgs false

def oneB (k : Int) : Bool := k == 6 || k == 7 || k == 10
def twoB (k : Int) : Bool := (decide (2 ≤ k) && decide (k ≤ 5)) || k == 8 || k == 9
def inB (n a b : Int) : Bool := decide (a ≤ n) && decide (n ≤ b)

theorem l02One_eq (k : Int) : spec_l02One.f k = some (oneB k) := by
  unfold spec_l02One.f oneB
  by_cases h : k = 6
  · simp [h]
  · by_cases h2 : k = 7
    · simp [h, h2]
    · simp [h, h2]
theorem l02Two_eq (k : Int) : spec_l02Two.f k = some (twoB k) := by
  unfold spec_l02Two.f twoB
  by_cases h : 2 ≤ k
  · by_cases h2 : k ≤ 5
    · simp [h, h2]
    · by_cases h3 : k = 8
      · simp [h3]
      · simp [h, h2, h3]
  · by_cases h3 : k = 8
    · simp [h3]
    · simp [h, h3]
theorem l00In_eq (n a b : Int) : spec_l00In.f n a b = some (inB n a b) := by
  unfold spec_l00In.f inB
  by_cases h : a ≤ n
  · simp [h]
  · simp [h]

theorem one_any (k : Int) (w : World) : Calls Try.prog 69 #[.int .i8 k] w fun e w' => e = .returned (.bool (oneB k)) ∧ ∃ n, w' = w.drewN n :=
  (spec_l02One.calls k _ w (l02One_eq k)).mono fun _ _ h => ⟨h.1, h.2.out⟩
theorem two_any (k : Int) (w : World) : Calls Try.prog 70 #[.int .i8 k] w fun e w' => e = .returned (.bool (twoB k)) ∧ ∃ n, w' = w.drewN n :=
  (spec_l02Two.calls k _ w (l02Two_eq k)).mono fun _ _ h => ⟨h.1, h.2.out⟩
theorem in_any (n a b : Int) (w : World) : Calls Try.prog 107 #[.int .i64 n, .int .i64 a, .int .i64 b] w fun e w' => e = .returned (.bool (inB n a b)) ∧ ∃ m, w' = w.drewN m :=
  (spec_l00In.calls n a b _ w (l00In_eq n a b)).mono fun _ _ h => ⟨h.1, h.2.out⟩

def nodeB (x : S83) (at_ : Int) : Bool :=
  if x.f0 < 1 then false else if 12 < x.f0 then false else
  if oneB x.f0 || twoB x.f0 then
    (if inB (wrap64 x.f1) 0 (wrap64 (at_ - 1)) then (if x.f3 = 0 then (if x.f4 = 0 then (if twoB x.f0 then inB (wrap64 x.f2) 0 (wrap64 (at_ - 1)) else x.f2 == 0) else false) else false) else false)
  else if x.f1 = 0 then (if x.f2 = 0 then (if x.f0 = 1 then (if inB x.f3 (-1000000000) 1000000000 then inB x.f4 1 1000000000 else false) else if x.f3 = 0 then x.f4 == 0 else false) else false) else false

set_option maxHeartbeats 1000000 in
theorem node_any (x : S83) (ad : Addr) (at_ : Int) (w : World) (h0 : w.cell? ad = some (.int .i8 x.f0)) (h1 : w.cell? ⟨ad.block, ad.off + 1, none⟩ = some (.int .i16 x.f1)) (h2 : w.cell? ⟨ad.block, ad.off + 2, none⟩ = some (.int .i16 x.f2)) (h3 : w.cell? ⟨ad.block, ad.off + 3, none⟩ = some (.int .i64 x.f3)) (h4 : w.cell? ⟨ad.block, ad.off + 4, none⟩ = some (.int .i64 x.f4)) :
    Calls Try.prog 108 #[.pointer (some ad), .int .i64 at_] w fun e w' => e = .returned (.bool (nodeB x at_)) ∧ ∃ n, w' = w.drewN n := by
  go_enter Try.func108, Try.ntmps108
  go_wp2_with (first | (go_at_call 69; refine (one_any _ _).mono ?_; rintro e w' ⟨rfl, n, rfl⟩) | (go_at_call 70; refine (two_any _ _).mono ?_; rintro e w' ⟨rfl, n, rfl⟩) | (go_at_call 107; refine (in_any _ _ _ _).mono ?_; rintro e w' ⟨rfl, n, rfl⟩))
  all_goals
    go_ret
    exact ⟨congrArg (fun b => Ending.returned (Value.bool b)) (by unfold nodeB; (repeat' split) <;> first | rfl | omega | (exfalso; omega) | simp_all), by first | exact ⟨_, rfl⟩ | exact ⟨0, rfl⟩⟩

def okUpTo (l : List S83) (k : Nat) : Bool := (List.range k).all fun i => nodeB (rd_T83 l (i : Int)) (i : Int)
theorem okUpTo_succ (l : List S83) (k : Nat) : okUpTo l (k + 1) = (okUpTo l k && nodeB (rd_T83 l (k : Int)) (k : Int)) := by
  simp [okUpTo, List.range_succ, List.all_append]
theorem okUpTo_false {l : List S83} {k n : Nat} (hk : k < n) (h : nodeB (rd_T83 l (k : Int)) (k : Int) = false) : okUpTo l n = false := by
  rw [okUpTo, List.all_eq_false]
  exact ⟨k, List.mem_range.2 hk, by simp [h]⟩
def okTerm (l : List S83) : Bool := inB (l.length : Int) 1 40 && okUpTo l l.length
def spec_l02Ok.f (l0 : List S83) : Option Bool := some (okTerm l0)
set_option maxHeartbeats 1000000 in
theorem spec_l02Ok.calls (A0 : Option Addr) (c0 : Nat) (l0 : List S83) (r : Bool) (w : World) (hr0 : Kd.C k83 w A0 l0.length l0) (hc0 : l0.length ≤ c0) (h : spec_l02Ok.f l0 = some r) :
    Calls Try.prog 67 #[.slice A0 l0.length c0] w fun e w' => e = .returned (.bool r) ∧ Drawn0 w w' := by
  obtain rfl := Option.some.inj h
  clear h
  have HR := Aside0.mk hr0
  have hm : l0.length ≤ 9223372036854775807 := hr0.2.1
  clear hr0
  cases hin : inB (l0.length : Int) 1 40 with
  | false =>
    go_enter Try.func67, Try.ntmps67
    go_wp2_with (go_at_call 107; refine (in_any _ _ _ _).mono ?_; rintro e w' ⟨rfl, n, rfl⟩)
    go_ret
    exact ⟨by simp [okTerm, hin], ⟨_, rfl⟩⟩
  | true =>
    go_enter Try.func67, Try.ntmps67
    go_wp2_with (go_at_call 107; refine (in_any _ _ _ _).mono ?_; rintro e w' ⟨rfl, n, rfl⟩)
    go_loopw [3] (fun i wr => ∃ k : Nat, k ≤ l0.length ∧ i = .int .i64 k ∧ Aside0 (okUpTo l0 k = true) ∧ Aside0 (Drawn0 w wr)) (fun i _ => l0.length - (intOf i).toNat)
    case atStart => exact ⟨0, Nat.zero_le _, rfl, ⟨by simp [okUpTo]⟩, ⟨⟨_, rfl⟩⟩⟩
    case round =>
      obtain ⟨k, hk, rfl, HO, HD⟩ := hrel
      obtain ⟨m, rfl⟩ := HD.out.out
      have HM := Aside0.mk hin
      clear hin HD
      by_cases hlt : k < l0.length
      · obtain ⟨ad, e, h0, h1, h2, h3, h4⟩ := at_T83 HR.out (k : Int) (by omega) (by omega)
        rw [Int.toNat_natCast] at h0 h1 h2 h3 h4
        cases e
        have hlt' : (k : Int) < (l0.length : Int) := by omega
        have hc := node_any (rd_T83 l0 (k : Int)) (ad.add (k * 5)) (k : Int) (w.drewN m) h0 h1 h2 h3 h4
        clear h0 h1 h2 h3 h4
        have HN := Aside0.mk (rfl : nodeB (rd_T83 l0 (k : Int)) (k : Int) = nodeB (rd_T83 l0 (k : Int)) (k : Int))
        generalize hq : nodeB (rd_T83 l0 (k : Int)) (k : Int) = q at hc
        have HQ := Aside0.mk hq
        clear hq
        cases q with
        | true =>
          go_wp2_with (go_at_call 108; refine hc.mono ?_; rintro e w' ⟨rfl, n, rfl⟩)
          go_roundw
          case rel => exact ⟨k + 1, by omega, by go_num, ⟨by rw [okUpTo_succ, HO.out, HQ.out]; rfl⟩, ⟨⟨_, rfl⟩⟩⟩
          case measure => simp [intOf]; omega
        | false =>
          go_wp2_with (go_at_call 108; refine hc.mono ?_; rintro e w' ⟨rfl, n, rfl⟩)
          go_ret
          exact ⟨by simp [okTerm, okUpTo_false hlt HQ.out], ⟨_, rfl⟩⟩
      · have : k = l0.length := by omega
        subst this
        go_wp2
        go_ret
        exact ⟨by simp [okTerm, HO.out, HM.out], ⟨_, rfl⟩⟩
end Go.Proofs.Ytenhgmddpkiliaa.PB

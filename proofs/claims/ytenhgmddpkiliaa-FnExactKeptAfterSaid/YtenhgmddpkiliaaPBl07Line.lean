/- The reference's l07Line through a pointer that is only read: what it answers. -/
import Derived.Test.YtenhgmddpkiliaaPBx3
import Derived.Test.YtenhgmddpkiliaaPBone
import Derived.Test.YtenhgmddpkiliaaRP
import Derived.Deep.QuietTactic
import Derived.BigQuiet
import Derived.Deep.DeepCutAuto
namespace Go.Proofs.Ytenhgmddpkiliaa.PB
open Go.RowKit Go.Proofs.YtenhgmddpkiliaaW.PrintWords Go.Proofs.YtenhgmddpkiliaaW.PrintLast Go.Proofs.YtenhgmddpkiliaaW.PrintMore Go.Lib Go.Proofs.YtenhgmddpkiliaaRP
set_option linter.unusedVariables false
set_option linter.unusedSimpArgs false

def emptyB (s : ByteArray) : Bool := decide (s.toList = ([] : List UInt8))
def tailB (x : S45) : Bool := if x.f1 = 1 then (if inB x.f4 (-1000000000) 1000000000 then inB x.f5 1 1000000000 else false) else if x.f4 = 0 then x.f5 == 0 else false
def lineB (nm : Bool) (x : S45) : Bool :=
  if nm then
    if x.f1 < 1 then false else if 12 < x.f1 then false else
    if (oneB x.f1 || twoB x.f1) == emptyB x.f2 then false else
    if twoB x.f1 == emptyB x.f3 then false else tailB x
  else false

theorem one_to (k : Int) (b : Bool) (w : World) (h : Aside0 (oneB k = b)) : Calls Try.prog 69 #[.int .i8 k] w fun e w' => e = .returned (.bool b) ∧ ∃ n, w' = w.drewN n := by
  obtain ⟨rfl⟩ := h; exact one_any k w
theorem two_to (k : Int) (b : Bool) (w : World) (h : Aside0 (twoB k = b)) : Calls Try.prog 70 #[.int .i8 k] w fun e w' => e = .returned (.bool b) ∧ ∃ n, w' = w.drewN n := by
  obtain ⟨rfl⟩ := h; exact two_any k w

theorem in_to (n a b : Int) (c : Bool) (w : World) (h : Aside0 (inB n a b = c)) : Calls Try.prog 107 #[.int .i64 n, .int .i64 a, .int .i64 b] w fun e w' => e = .returned (.bool c) ∧ ∃ m, w' = w.drewN m := by
  obtain ⟨rfl⟩ := h; exact in_any n a b w

def headB (nm : Bool) (x : S45) : Bool := if nm then (if x.f1 < 1 then true else decide (12 < x.f1)) else true
def midB (x : S45) (b1 b2 : Bool) : Bool := if (b1 || b2) == emptyB x.f2 then true else b2 == emptyB x.f3
theorem lineB_eq (nm : Bool) (x : S45) : lineB nm x = (!headB nm x && !midB x (oneB x.f1) (twoB x.f1) && tailB x) := by
  unfold lineB headB midB
  cases nm
  · rfl
  · by_cases h1 : x.f1 < 1
    · simp [h1]
    · by_cases h2 : 12 < x.f1
      · simp [h1, h2]
      · simp only [if_neg h1, if_neg h2, if_true, decide_eq_false h2]
        by_cases h3 : ((oneB x.f1 || twoB x.f1) == emptyB x.f2) = true
        · simp [h3]
        · by_cases h4 : (twoB x.f1 == emptyB x.f3) = true
          · simp [h3, h4]
          · simp only [Bool.not_eq_true] at h3 h4
            simp [h3, h4]

set_option maxRecDepth 100000 in
set_option maxHeartbeats 4000000 in
theorem line_any (x : S45) (ad : Addr) (nm : Bool) (w : World) (hnm : ∀ w, Calls Try.prog 88 #[.string x.f0] w fun e w' => e = .returned (.bool nm) ∧ ∃ n, w' = w.drewN n)
    (h0 : w.cell? ad = some (.string x.f0)) (h1 : w.cell? ⟨ad.block, ad.off + 1, none⟩ = some (.int .i8 x.f1)) (h2 : w.cell? ⟨ad.block, ad.off + 2, none⟩ = some (.string x.f2)) (h3 : w.cell? ⟨ad.block, ad.off + 3, none⟩ = some (.string x.f3)) (h4 : w.cell? ⟨ad.block, ad.off + 4, none⟩ = some (.int .i64 x.f4)) (h5 : w.cell? ⟨ad.block, ad.off + 5, none⟩ = some (.int .i64 x.f5)) :
    Calls Try.prog 103 #[.pointer (some ad)] w fun e w' => e = .returned (.bool (lineB nm x)) ∧ ∃ n, w' = w.drewN n := by
  obtain ⟨r, hr⟩ : ∃ r, r = lineB nm x := ⟨_, rfl⟩
  rw [← hr]
  have HR := Aside0.mk hr
  clear hr
  have H1 := Aside0.mk (rfl : oneB x.f1 = oneB x.f1)
  have H2 := Aside0.mk (rfl : twoB x.f1 = twoB x.f1)
  generalize hq1 : oneB x.f1 = b1 at H1
  generalize hq2 : twoB x.f1 = b2 at H2
  have Q1 := Aside0.mk hq1
  have Q2 := Aside0.mk hq2
  clear H1 H2 hq1 hq2
  have HN := Aside0.mk hnm
  clear hnm
  go_enter Try.func103, Try.ntmps103
  go_upto_region 1 with (fail)
  go_cut [23] (fun v23 wc => v23 = .bool (headB nm x) ∧ ∃ n, wc = w.drewN n)
  case first =>
    cases nm with
    | false =>
      (go_wp2_with (first | (go_at_call 69; refine (one_to _ _ _ Q1).mono ?_; rintro e w' ⟨rfl, n, rfl⟩) | (go_at_call 70; refine (two_to _ _ _ Q2).mono ?_; rintro e w' ⟨rfl, n, rfl⟩) | (go_at_call 88; refine (HN.out _).mono ?_; rintro e w' ⟨rfl, n, rfl⟩)); all_goals repeat (go_quiet (first | (go_at_call 69; refine (one_to _ _ _ Q1).mono ?_; rintro e w' ⟨rfl, n, rfl⟩; (try first | exact ⟨rfl, _, World.drewN_drewN _ _ _⟩ | exact ⟨rfl, _, Eq.trans (World.drewN_drewN _ _ _) (congrArg (World.drewN _) (Nat.add_assoc _ _ _))⟩)) | (go_at_call 70; refine (two_to _ _ _ Q2).mono ?_; rintro e w' ⟨rfl, n, rfl⟩; (try first | exact ⟨rfl, _, World.drewN_drewN _ _ _⟩ | exact ⟨rfl, _, Eq.trans (World.drewN_drewN _ _ _) (congrArg (World.drewN _) (Nat.add_assoc _ _ _))⟩)) | (go_at_call 88; refine (HN.out _).mono ?_; rintro e w' ⟨rfl, n, rfl⟩; (try first | exact ⟨rfl, _, World.drewN_drewN _ _ _⟩ | exact ⟨rfl, _, Eq.trans (World.drewN_drewN _ _ _) (congrArg (World.drewN _) (Nat.add_assoc _ _ _))⟩))); try go_wp2_with (first | (go_at_call 69; refine (one_to _ _ _ Q1).mono ?_; rintro e w' ⟨rfl, n, rfl⟩) | (go_at_call 70; refine (two_to _ _ _ Q2).mono ?_; rintro e w' ⟨rfl, n, rfl⟩) | (go_at_call 88; refine (HN.out _).mono ?_; rintro e w' ⟨rfl, n, rfl⟩))))
      go_meet
      case rel => exact ⟨rfl, _, rfl⟩
    | true =>
      by_cases hk : x.f1 < 1
      · (go_wp2_with (first | (go_at_call 69; refine (one_to _ _ _ Q1).mono ?_; rintro e w' ⟨rfl, n, rfl⟩) | (go_at_call 70; refine (two_to _ _ _ Q2).mono ?_; rintro e w' ⟨rfl, n, rfl⟩) | (go_at_call 88; refine (HN.out _).mono ?_; rintro e w' ⟨rfl, n, rfl⟩)); all_goals repeat (go_quiet (first | (go_at_call 69; refine (one_to _ _ _ Q1).mono ?_; rintro e w' ⟨rfl, n, rfl⟩; (try first | exact ⟨rfl, _, World.drewN_drewN _ _ _⟩ | exact ⟨rfl, _, Eq.trans (World.drewN_drewN _ _ _) (congrArg (World.drewN _) (Nat.add_assoc _ _ _))⟩)) | (go_at_call 70; refine (two_to _ _ _ Q2).mono ?_; rintro e w' ⟨rfl, n, rfl⟩; (try first | exact ⟨rfl, _, World.drewN_drewN _ _ _⟩ | exact ⟨rfl, _, Eq.trans (World.drewN_drewN _ _ _) (congrArg (World.drewN _) (Nat.add_assoc _ _ _))⟩)) | (go_at_call 88; refine (HN.out _).mono ?_; rintro e w' ⟨rfl, n, rfl⟩; (try first | exact ⟨rfl, _, World.drewN_drewN _ _ _⟩ | exact ⟨rfl, _, Eq.trans (World.drewN_drewN _ _ _) (congrArg (World.drewN _) (Nat.add_assoc _ _ _))⟩))); try go_wp2_with (first | (go_at_call 69; refine (one_to _ _ _ Q1).mono ?_; rintro e w' ⟨rfl, n, rfl⟩) | (go_at_call 70; refine (two_to _ _ _ Q2).mono ?_; rintro e w' ⟨rfl, n, rfl⟩) | (go_at_call 88; refine (HN.out _).mono ?_; rintro e w' ⟨rfl, n, rfl⟩))))
        go_meet
        case rel => exact ⟨by simp [headB, hk], _, rfl⟩
      · (go_wp2_with (first | (go_at_call 69; refine (one_to _ _ _ Q1).mono ?_; rintro e w' ⟨rfl, n, rfl⟩) | (go_at_call 70; refine (two_to _ _ _ Q2).mono ?_; rintro e w' ⟨rfl, n, rfl⟩) | (go_at_call 88; refine (HN.out _).mono ?_; rintro e w' ⟨rfl, n, rfl⟩)); all_goals repeat (go_quiet (first | (go_at_call 69; refine (one_to _ _ _ Q1).mono ?_; rintro e w' ⟨rfl, n, rfl⟩; (try first | exact ⟨rfl, _, World.drewN_drewN _ _ _⟩ | exact ⟨rfl, _, Eq.trans (World.drewN_drewN _ _ _) (congrArg (World.drewN _) (Nat.add_assoc _ _ _))⟩)) | (go_at_call 70; refine (two_to _ _ _ Q2).mono ?_; rintro e w' ⟨rfl, n, rfl⟩; (try first | exact ⟨rfl, _, World.drewN_drewN _ _ _⟩ | exact ⟨rfl, _, Eq.trans (World.drewN_drewN _ _ _) (congrArg (World.drewN _) (Nat.add_assoc _ _ _))⟩)) | (go_at_call 88; refine (HN.out _).mono ?_; rintro e w' ⟨rfl, n, rfl⟩; (try first | exact ⟨rfl, _, World.drewN_drewN _ _ _⟩ | exact ⟨rfl, _, Eq.trans (World.drewN_drewN _ _ _) (congrArg (World.drewN _) (Nat.add_assoc _ _ _))⟩))); try go_wp2_with (first | (go_at_call 69; refine (one_to _ _ _ Q1).mono ?_; rintro e w' ⟨rfl, n, rfl⟩) | (go_at_call 70; refine (two_to _ _ _ Q2).mono ?_; rintro e w' ⟨rfl, n, rfl⟩) | (go_at_call 88; refine (HN.out _).mono ?_; rintro e w' ⟨rfl, n, rfl⟩))))
        go_meet
        case rel => exact ⟨by simp [headB, hk], _, rfl⟩
  case rest =>
    obtain ⟨rfl, n, rfl⟩ := hcut
    cases hh : headB nm x with
    | true =>
      go_wp2
      go_ret
      exact ⟨by rw [HR.out, lineB_eq, hh]; rfl, ⟨_, rfl⟩⟩
    | false =>
      go_upto_region 3 with (fail)
      go_cut [3] (fun v3 wc => v3 = .bool (b1 || b2) ∧ ∃ n, wc = w.drewN n)
      case first =>
        cases b1
        all_goals
          (go_wp2_with (first | (go_at_call 69; refine (one_to _ _ _ Q1).mono ?_; rintro e w' ⟨rfl, n, rfl⟩) | (go_at_call 70; refine (two_to _ _ _ Q2).mono ?_; rintro e w' ⟨rfl, n, rfl⟩) | (go_at_call 88; refine (HN.out _).mono ?_; rintro e w' ⟨rfl, n, rfl⟩)); all_goals repeat (go_quiet (first | (go_at_call 69; refine (one_to _ _ _ Q1).mono ?_; rintro e w' ⟨rfl, n, rfl⟩; (try first | exact ⟨rfl, _, World.drewN_drewN _ _ _⟩ | exact ⟨rfl, _, Eq.trans (World.drewN_drewN _ _ _) (congrArg (World.drewN _) (Nat.add_assoc _ _ _))⟩)) | (go_at_call 70; refine (two_to _ _ _ Q2).mono ?_; rintro e w' ⟨rfl, n, rfl⟩; (try first | exact ⟨rfl, _, World.drewN_drewN _ _ _⟩ | exact ⟨rfl, _, Eq.trans (World.drewN_drewN _ _ _) (congrArg (World.drewN _) (Nat.add_assoc _ _ _))⟩)) | (go_at_call 88; refine (HN.out _).mono ?_; rintro e w' ⟨rfl, n, rfl⟩; (try first | exact ⟨rfl, _, World.drewN_drewN _ _ _⟩ | exact ⟨rfl, _, Eq.trans (World.drewN_drewN _ _ _) (congrArg (World.drewN _) (Nat.add_assoc _ _ _))⟩))); try go_wp2_with (first | (go_at_call 69; refine (one_to _ _ _ Q1).mono ?_; rintro e w' ⟨rfl, n, rfl⟩) | (go_at_call 70; refine (two_to _ _ _ Q2).mono ?_; rintro e w' ⟨rfl, n, rfl⟩) | (go_at_call 88; refine (HN.out _).mono ?_; rintro e w' ⟨rfl, n, rfl⟩))))
          go_meet
          case rel => exact ⟨rfl, _, by first | rfl | exact World.drewN_drewN _ _ _⟩
      case rest =>
        obtain ⟨rfl, n, rfl⟩ := hcut
        go_upto_region 4 with (fail)
        go_cut [55] (fun v55 wc => v55 = .bool (midB x b1 b2) ∧ ∃ n, wc = w.drewN n)
        case first =>
          by_cases hA : x.f2.toList = ([] : List UInt8)
          all_goals
            cases b1 <;> cases b2
            all_goals
              (go_wp2_with (first | (go_at_call 69; refine (one_to _ _ _ Q1).mono ?_; rintro e w' ⟨rfl, n, rfl⟩) | (go_at_call 70; refine (two_to _ _ _ Q2).mono ?_; rintro e w' ⟨rfl, n, rfl⟩) | (go_at_call 88; refine (HN.out _).mono ?_; rintro e w' ⟨rfl, n, rfl⟩)); all_goals repeat (go_quiet (first | (go_at_call 69; refine (one_to _ _ _ Q1).mono ?_; rintro e w' ⟨rfl, n, rfl⟩; (try first | exact ⟨rfl, _, World.drewN_drewN _ _ _⟩ | exact ⟨rfl, _, Eq.trans (World.drewN_drewN _ _ _) (congrArg (World.drewN _) (Nat.add_assoc _ _ _))⟩)) | (go_at_call 70; refine (two_to _ _ _ Q2).mono ?_; rintro e w' ⟨rfl, n, rfl⟩; (try first | exact ⟨rfl, _, World.drewN_drewN _ _ _⟩ | exact ⟨rfl, _, Eq.trans (World.drewN_drewN _ _ _) (congrArg (World.drewN _) (Nat.add_assoc _ _ _))⟩)) | (go_at_call 88; refine (HN.out _).mono ?_; rintro e w' ⟨rfl, n, rfl⟩; (try first | exact ⟨rfl, _, World.drewN_drewN _ _ _⟩ | exact ⟨rfl, _, Eq.trans (World.drewN_drewN _ _ _) (congrArg (World.drewN _) (Nat.add_assoc _ _ _))⟩))); try go_wp2_with (first | (go_at_call 69; refine (one_to _ _ _ Q1).mono ?_; rintro e w' ⟨rfl, n, rfl⟩) | (go_at_call 70; refine (two_to _ _ _ Q2).mono ?_; rintro e w' ⟨rfl, n, rfl⟩) | (go_at_call 88; refine (HN.out _).mono ?_; rintro e w' ⟨rfl, n, rfl⟩))))
              go_meet
              case rel => exact ⟨by by_cases hB : x.f3.toList = ([] : List UInt8) <;> simp [midB, emptyB, hA, hB, List.isEmpty_iff, List.isEmpty_eq_false_iff], _, by first | rfl | exact World.drewN_drewN _ _ _⟩
        case rest =>
          obtain ⟨rfl, n, rfl⟩ := hcut
          cases hm : midB x b1 b2 with
          | true =>
            go_wp2
            go_ret
            exact ⟨by rw [HR.out, lineB_eq, hh, Q1.out, Q2.out, hm]; rfl, ⟨_, rfl⟩⟩
          | false =>
            have HT : Aside0 (r = tailB x) := ⟨by rw [HR.out, lineB_eq, hh, Q1.out, Q2.out, hm]; rfl⟩
            by_cases hk3 : x.f1 = 1
            · cases hq3 : inB x.f4 (-1000000000) 1000000000
              all_goals
                have H3 := Aside0.mk hq3
                obtain ⟨c4, hc4⟩ : ∃ c, inB x.f5 1 1000000000 = c := ⟨_, rfl⟩
                have H4 := Aside0.mk hc4
                clear hc4
                clear hq3
                (go_wp2_with (first | (go_at_call 107; with_reducible refine (in_to x.f4 (-1000000000) 1000000000 _ _ H3).mono ?_; rintro e w' ⟨rfl, n, rfl⟩) | (go_at_call 107; with_reducible refine (in_to x.f5 1 1000000000 _ _ H4).mono ?_; rintro e w' ⟨rfl, n, rfl⟩)); all_goals repeat (go_quiet (first | (go_at_call 107; with_reducible refine (in_to x.f4 (-1000000000) 1000000000 _ _ H3).mono ?_; rintro e w' ⟨rfl, n, rfl⟩; (try first | exact ⟨rfl, _, World.drewN_drewN _ _ _⟩ | exact ⟨rfl, _, Eq.trans (World.drewN_drewN _ _ _) (congrArg (World.drewN _) (Nat.add_assoc _ _ _))⟩)) | (go_at_call 107; with_reducible refine (in_to x.f5 1 1000000000 _ _ H4).mono ?_; rintro e w' ⟨rfl, n, rfl⟩; (try first | exact ⟨rfl, _, World.drewN_drewN _ _ _⟩ | exact ⟨rfl, _, Eq.trans (World.drewN_drewN _ _ _) (congrArg (World.drewN _) (Nat.add_assoc _ _ _))⟩))); try go_wp2_with (first | (go_at_call 107; with_reducible refine (in_to x.f4 (-1000000000) 1000000000 _ _ H3).mono ?_; rintro e w' ⟨rfl, n, rfl⟩) | (go_at_call 107; with_reducible refine (in_to x.f5 1 1000000000 _ _ H4).mono ?_; rintro e w' ⟨rfl, n, rfl⟩))))
                go_ret
                refine ⟨?_, by first | exact ⟨_, rfl⟩ | exact ⟨0, rfl⟩⟩
                rw [HT.out]
                unfold tailB
                rw [H3.out, H4.out]
                simp [hk3]
            · by_cases hk4 : x.f4 = 0
              all_goals
                (go_wp2_with (first | (go_at_call 69; refine (one_to _ _ _ Q1).mono ?_; rintro e w' ⟨rfl, n, rfl⟩) | (go_at_call 70; refine (two_to _ _ _ Q2).mono ?_; rintro e w' ⟨rfl, n, rfl⟩) | (go_at_call 88; refine (HN.out _).mono ?_; rintro e w' ⟨rfl, n, rfl⟩)); all_goals repeat (go_quiet (first | (go_at_call 69; refine (one_to _ _ _ Q1).mono ?_; rintro e w' ⟨rfl, n, rfl⟩; (try first | exact ⟨rfl, _, World.drewN_drewN _ _ _⟩ | exact ⟨rfl, _, Eq.trans (World.drewN_drewN _ _ _) (congrArg (World.drewN _) (Nat.add_assoc _ _ _))⟩)) | (go_at_call 70; refine (two_to _ _ _ Q2).mono ?_; rintro e w' ⟨rfl, n, rfl⟩; (try first | exact ⟨rfl, _, World.drewN_drewN _ _ _⟩ | exact ⟨rfl, _, Eq.trans (World.drewN_drewN _ _ _) (congrArg (World.drewN _) (Nat.add_assoc _ _ _))⟩)) | (go_at_call 88; refine (HN.out _).mono ?_; rintro e w' ⟨rfl, n, rfl⟩; (try first | exact ⟨rfl, _, World.drewN_drewN _ _ _⟩ | exact ⟨rfl, _, Eq.trans (World.drewN_drewN _ _ _) (congrArg (World.drewN _) (Nat.add_assoc _ _ _))⟩))); try go_wp2_with (first | (go_at_call 69; refine (one_to _ _ _ Q1).mono ?_; rintro e w' ⟨rfl, n, rfl⟩) | (go_at_call 70; refine (two_to _ _ _ Q2).mono ?_; rintro e w' ⟨rfl, n, rfl⟩) | (go_at_call 88; refine (HN.out _).mono ?_; rintro e w' ⟨rfl, n, rfl⟩))))
                go_ret
                refine ⟨?_, by first | exact ⟨_, rfl⟩ | exact ⟨0, rfl⟩⟩
                rw [HT.out]
                unfold tailB
                simp [hk3, hk4]

def spec_l07Line.f (k : Nat) (l0 : List S45) : Option Bool := if 0 < (l0.length : Int) then ((spec_l07Name.f k (rd_T45 l0 0).f0).bind fun nm => some (lineB nm (rd_T45 l0 0))) else none
theorem spec_l07Line.mono : ∀ a0 k, LeO (spec_l07Line.f k a0) (spec_l07Line.f (k + 1) a0) := by
  intro a0 k
  unfold spec_l07Line.f
  exact LeO.ite (LeO.bind (spec_l07Name.mono _ _) (fun _ => LeO.refl _)) (LeO.refl _)
theorem spec_l07Line.calls (k : Nat) (A0 : Option Addr) (c0 : Nat) (l0 : List S45) (r : Bool) (w : World) (hr0 : Kd.C k45 w A0 l0.length l0) (hc0 : l0.length ≤ c0) (h : spec_l07Line.f k l0 = some r) :
    Calls Try.prog 103 #[.pointer A0] w fun e w' => e = .returned (.bool r) ∧ Drawn0 w w' := by
  unfold spec_l07Line.f at h
  by_cases c : 0 < (l0.length : Int)
  · rw [if_pos c] at h
    obtain ⟨ad, e, h0, h1, h2, h3, h4, h5⟩ := rp_T45 hr0 c
    subst e
    obtain ⟨nm, hn, h⟩ := Option.bind_eq_some_iff.mp h
    obtain rfl := Option.some.inj h
    exact (line_any (rd_T45 l0 0) ad nm w (fun w => (spec_l07Name.calls k _ nm w hn).mono fun _ _ h => ⟨h.1, h.2.out⟩) h0 h1 h2 h3 h4 h5).mono fun _ _ h => ⟨h.1, ⟨h.2⟩⟩
  · rw [if_neg c] at h
    exact absurd h (by simp)
end Go.Proofs.Ytenhgmddpkiliaa.PB

/- What is kept, the reference's test of its form by hand (it hands on a field's address). -/
import Derived.Test.YtenhgmddpkiliaaPBx3
import Derived.Test.YtenhgmddpkiliaaPBx4
import Derived.Test.YtenhgmddpkiliaaPBx2
import Derived.Test.YtenhgmddpkiliaaPBkept
import Derived.Test.YtenhgmddpkiliaaIDX
import Derived.Shelf.Abstract
import Derived.IntWalk
namespace Go.Proofs.Ytenhgmddpkiliaa.PB
open Go.RowKit Go.Proofs.YtenhgmddpkiliaaW.PrintWords Go.Proofs.YtenhgmddpkiliaaW.PrintLast Go.Proofs.YtenhgmddpkiliaaW.PrintMore Go.Lib Go.Proofs.YtenhgmddpkiliaaRP
set_option linter.unusedVariables false
set_option linter.unusedSimpArgs false

theorem dr_N {w a : World} (h : Drawn0 w a) (n : Nat) : Drawn0 w (a.drewN n) := by obtain ⟨m, rfl⟩ := h; exact ⟨_, World.drewN_drewN _ _ _⟩
theorem dr_1 {w a : World} (h : Drawn0 w a) : Drawn0 w a.drew := (show Drawn0 w (a.drewN 1) from Drawn0.step h 1)
theorem dr_cell {w a : World} (h : Drawn0 w a) (p : Addr) : a.cell? p = w.cell? p := by obtain ⟨m, rfl⟩ := h; rfl
theorem places_eq2 (n : Int) : spec_l02Places.f n = some (placesB n) := by
  unfold spec_l02Places.f spec_l00In.f placesB
  by_cases h : n ≥ 0
  · rw [if_pos h, decide_eq_true (show (0 : Int) ≤ n from h), Bool.true_and]; rfl
  · rw [if_neg h, decide_eq_false (show ¬ (0 : Int) ≤ n from h), Bool.false_and]; rfl
theorem wide_eq2 (x : S122) : spec_l01Ok.f [x] = some (wideB x) := by
  have e : rd_T122 [x] 0 = x := rfl
  unfold spec_l01Ok.f wideB
  rw [if_pos (by simp), e]
  split <;> rfl
theorem C_sub {w : World} {P : Addr} {x : S122} (h2 : w.cell? ⟨P.block, P.off + 2, none⟩ = some (.bool x.f0)) (h3 : w.cell? ⟨P.block, P.off + 3, none⟩ = some (.int .u32 x.f1.f0)) (h4 : w.cell? ⟨P.block, P.off + 4, none⟩ = some (.int .u32 x.f1.f1)) (h5 : w.cell? ⟨P.block, P.off + 5, none⟩ = some (.int .u32 x.f1.f2)) (h6 : w.cell? ⟨P.block, P.off + 6, none⟩ = some (.int .u32 x.f1.f3)) (h7 : w.cell? ⟨P.block, P.off + 7, none⟩ = some (.int .u32 x.f1.f4)) (h8 : w.cell? ⟨P.block, P.off + 8, none⟩ = some (.int .u32 x.f1.f5)) : Kd.C k122 w (some ⟨P.block, P.off + 2, none⟩) [x].length [x] := by
  refine ⟨rfl, by simp, fun _ => ⟨_, rfl, fun j p hj => ?_⟩⟩
  match j with
  | 0 =>
    obtain rfl : x = p := by simpa using hj
    refine ⟨_, rfl, k122_mk w x, fun q u hu => ?_⟩
    match q with
    | 0 => obtain rfl := Option.some.inj hu; simpa [Addr.add] using h2
    | 1 => obtain rfl := Option.some.inj hu; simpa [Addr.add] using h3
    | 2 => obtain rfl := Option.some.inj hu; simpa [Addr.add] using h4
    | 3 => obtain rfl := Option.some.inj hu; simpa [Addr.add] using h5
    | 4 => obtain rfl := Option.some.inj hu; simpa [Addr.add] using h6
    | 5 => obtain rfl := Option.some.inj hu; simpa [Addr.add] using h7
    | 6 => obtain rfl := Option.some.inj hu; simpa [Addr.add] using h8
    | q + 7 => simp at hu
  | j + 1 => simp at hj
def formAt (b : List S45) (l : List S124) (i : Nat) : Bool := !decide (findL b (rd_T124 l (i : Int)).f0 < 0) && (placesB (rd_T124 l (i : Int)).f1 && (wideB (rd_T124 l (i : Int)).f2 && !((l.take i).any (sameK (rd_T124 l (i : Int))))))
def findsB (k : Nat) (b : List S45) (l : List S124) : Bool := l.all fun x => spec_l07Find.f k b x.f0 == some (findL b x.f0)
def spec_l07Form.f (k : Nat) (b : List S45) (l : List S124) : Option Bool := if findsB k b l = true then some (allG (formAt b l) l.length 0 && decide (l.length ≤ 200)) else none
theorem spec_l07Form.mono : ∀ b l k, LeO (spec_l07Form.f k b l) (spec_l07Form.f (k + 1) b l) := by
  intro b l k r h
  unfold spec_l07Form.f at h ⊢
  by_cases c : findsB k b l = true
  · rw [if_pos c] at h
    have c2 : findsB (k + 1) b l = true := by
      unfold findsB at c ⊢
      rw [List.all_eq_true] at c ⊢
      intro x hx
      have := c x hx
      rw [beq_iff_eq] at this ⊢
      exact spec_l07Find.mono _ _ _ _ this
    rw [if_pos c2]; exact h
  · rw [if_neg c] at h; exact absurd h (by simp)
theorem any_take {l : List S124} {p : S124 → Bool} {j i : Nat} (hj : j < i) (hi : i ≤ l.length) (h : p (rd_T124 l (j : Int)) = true) : (l.take i).any p = true := by
  rw [List.any_eq_true]
  have hl : j < l.length := by omega
  refine ⟨l[j], ?_, ?_⟩
  · rw [List.mem_iff_getElem]
    exact ⟨j, by rw [List.length_take]; omega, by rw [List.getElem_take]⟩
  · have : rd_T124 l (j : Int) = l[j] := by simp [rd_T124, List.getD, hl]
    rw [← this]; exact h
theorem any_take_succ {l : List S124} {p : S124 → Bool} {j : Nat} (hi : j < l.length) (h : (l.take j).any p = false) (h2 : p (rd_T124 l (j : Int)) = false) : (l.take (j + 1)).any p = false := by
  have : rd_T124 l (j : Int) = l[j] := by simp [rd_T124, List.getD, hi]
  rw [this] at h2
  rw [List.take_add_one, List.getElem?_eq_getElem hi, List.any_append, h]
  simp [h2]
set_option maxHeartbeats 8000000 in
set_option maxRecDepth 100000 in
theorem spec_l07Form.calls (k : Nat) (A0 : Option Addr) (c0 : Nat) (b : List S45) (A1 : Option Addr) (c1 : Nat) (l : List S124) (r : Bool) (w : World) (hr0 : Kd.C k45 w A0 b.length b) (hc0 : b.length ≤ c0) (hr1 : Kd.C k124 w A1 l.length l) (hc1 : l.length ≤ c1) (h : spec_l07Form.f k b l = some r) :
    Calls Try.prog 97 #[.slice A0 b.length c0, .slice A1 l.length c1] w fun e w' => e = .returned (.bool r) ∧ Drawn0 w w' := by
  unfold spec_l07Form.f at h
  by_cases cf : findsB k b l = true
  case neg => rw [if_neg cf] at h; exact absurd h (by simp)
  rw [if_pos cf] at h
  have hr := Option.some.inj h
  clear h
  have HF := Aside0.mk cf
  have HR0 := Aside0.mk hr0
  have HC0 := Aside0.mk hc0
  have HR1 := Aside0.mk hr1
  have HC1 := Aside0.mk hc1
  have HD := Aside0.mk (Drawn0.refl w)
  have HRr := Aside0.mk hr
  have hll : l.length ≤ 9223372036854775807 := hr1.2.1
  clear hr0 hc0 hr1 hc1 hr cf
  go_enter Try.func97, Try.ntmps97
  go_wp2
  go_loopw [5] (fun v5 wr => ∃ i : Nat, v5 = .int .i64 (i : Int) ∧ Aside0 (i ≤ l.length) ∧ Aside0 (r = (allG (formAt b l) (l.length - i) i && decide (l.length ≤ 200))) ∧ Aside0 (Drawn0 w wr)) (fun v _ => l.length - (intOf v).toNat)
  case atStart => exact ⟨0, rfl, ⟨Nat.zero_le _⟩, ⟨HRr.out.symm⟩, HD⟩
  case round =>
    clear HD
    obtain ⟨i, rfl, HKL, HO, HD⟩ := hrel
    by_cases hlt : i < l.length
    · obtain ⟨ad, e, h0, h1, h2, h3, h4, h5, h6, h7, h8⟩ := at_T124 HR1.out (i : Int) (by omega) (by omega)
      rw [Int.toNat_natCast] at h0 h1 h2 h3 h4 h5 h6 h7 h8
      cases e
      replace h0 : wr.cell? _ = _ := (dr_cell HD.out _).trans h0
      replace h1 : wr.cell? _ = _ := (dr_cell HD.out _).trans h1
      replace h2 : wr.cell? _ = _ := (dr_cell HD.out _).trans h2
      replace h3 : wr.cell? _ = _ := (dr_cell HD.out _).trans h3
      replace h4 : wr.cell? _ = _ := (dr_cell HD.out _).trans h4
      replace h5 : wr.cell? _ = _ := (dr_cell HD.out _).trans h5
      replace h6 : wr.cell? _ = _ := (dr_cell HD.out _).trans h6
      replace h7 : wr.cell? _ = _ := (dr_cell HD.out _).trans h7
      replace h8 : wr.cell? _ = _ := (dr_cell HD.out _).trans h8
      have hS : r = ((formAt b l i && allG (formAt b l) (l.length - (i + 1)) (i + 1)) && decide (l.length ≤ 200)) := by
        rw [HO.out, show l.length - i = l.length - (i + 1) + 1 by omega]; rfl
      have hka : formAt b l i = (!decide (findL b (rd_T124 l (i : Int)).f0 < 0) && (placesB (rd_T124 l (i : Int)).f1 && (wideB (rd_T124 l (i : Int)).f2 && !((l.take i).any (sameK (rd_T124 l (i : Int))))))) := rfl
      have hfx : spec_l07Find.f k b (rd_T124 l (i : Int)).f0 = some (findL b (rd_T124 l (i : Int)).f0) := by
        have hm : rd_T124 l (i : Int) ∈ l := by
          have : rd_T124 l (i : Int) = l[i] := by simp [rd_T124, List.getD, hlt]
          rw [this]; exact List.getElem_mem hlt
        have := List.all_eq_true.1 HF.out _ hm
        exact beq_iff_eq.mp this
      obtain ⟨x, hx⟩ : ∃ x, x = rd_T124 l (i : Int) := ⟨_, rfl⟩
      rw [← hx] at h0 h1 h2 h3 h4 h5 h6 h7 h8 hka hfx
      have HXE := Aside0.mk hx
      clear hx
      obtain ⟨y, hy⟩ : ∃ y, y = findL b x.f0 := ⟨_, rfl⟩
      rw [← hy] at hka hfx
      clear hy
      have A6 := Aside0.mk hfx
      clear hfx
      have HSB := Aside0.mk (C_sub (x := x.f2) h2 h3 h4 h5 h6 h7 h8)
      have HR0d := Aside0.mk (show Kd.C k45 wr A0 b.length b from by obtain ⟨m, rfl⟩ := HD.out; exact Kd.C_drewN HR0.out m)
      have A8' := wide_eq2 x.f2
      have k1 : (i : Int) < (l.length : Int) := by omega
      have k2 : decide ((i : Int) < (l.length : Int)) = true := decide_eq_true k1
      have hp := places_eq2 x.f1
      by_cases c1_ : y < 0
      · have q1 : decide (y < 0) = true := decide_eq_true c1_
        rw [q1] at hka
        have hrf : r = false := by rw [hS, hka]; rfl
        go_wp2_with (first | (go_at_call 89; (with_reducible refine (spec_l07Find.calls k _ _ b x.f0 y _ ?s1 ?s2 A6.out).mono ?_); (case s1 => repeat (first | exact HR0d.out | (with_reducible refine Kd.C_alloc ?_ _) | (with_reducible refine Kd.C_drewN ?_ _) | (with_reducible refine Kd.C_drew ?_))); (case s2 => exact HC0.out); rintro e w11 ⟨rfl, ⟨nd, rfl⟩⟩))
        go_ret
        exact ⟨by first | rfl | (rw [hrf]; rfl), by repeat (first | exact HD.out | apply dr_N | apply dr_1)⟩
      · have q1 : decide (y < 0) = false := decide_eq_false c1_
        rw [q1] at hka
        cases cp : placesB x.f1 with
        | false =>
          rw [cp] at hp hka
          have A7 := Aside0.mk hp
          have hrf : r = false := by rw [hS, hka]; rfl
          go_wp2_with (first | (go_at_call 89; (with_reducible refine (spec_l07Find.calls k _ _ b x.f0 y _ ?s1 ?s2 A6.out).mono ?_); (case s1 => repeat (first | exact HR0d.out | (with_reducible refine Kd.C_alloc ?_ _) | (with_reducible refine Kd.C_drewN ?_ _) | (with_reducible refine Kd.C_drew ?_))); (case s2 => exact HC0.out); rintro e w11 ⟨rfl, ⟨nd, rfl⟩⟩) | (go_at_call 112; (with_reducible refine (spec_l02Places.calls x.f1 false _ A7.out).mono ?_); rintro e w13 ⟨rfl, ⟨nd2, rfl⟩⟩))
          go_ret
          exact ⟨by first | rfl | (rw [hrf]; rfl), by repeat (first | exact HD.out | apply dr_N | apply dr_1)⟩
        | true =>
          rw [cp] at hp hka
          have A7 := Aside0.mk hp
          cases cw : wideB x.f2 with
          | false =>
            rw [cw] at A8' hka
            have A8 := Aside0.mk A8'
            have hrf : r = false := by rw [hS, hka]; rfl
            go_wp2_with (first | (go_at_call 89; (with_reducible refine (spec_l07Find.calls k _ _ b x.f0 y _ ?s1 ?s2 A6.out).mono ?_); (case s1 => repeat (first | exact HR0d.out | (with_reducible refine Kd.C_alloc ?_ _) | (with_reducible refine Kd.C_drewN ?_ _) | (with_reducible refine Kd.C_drew ?_))); (case s2 => exact HC0.out); rintro e w11 ⟨rfl, ⟨nd, rfl⟩⟩) | (go_at_call 112; (with_reducible refine (spec_l02Places.calls x.f1 true _ A7.out).mono ?_); rintro e w13 ⟨rfl, ⟨nd2, rfl⟩⟩) | (go_at_call 122; (with_reducible refine (spec_l01Ok.calls _ [x.f2].length [x.f2] false _ ?t1 ?t2 A8.out).mono ?_); (case t1 => repeat (first | exact HSB.out | (with_reducible refine Kd.C_drewN ?_ _) | (with_reducible refine Kd.C_drew ?_))); (case t2 => exact Nat.le_refl _); rintro e w15 ⟨rfl, ⟨nd3, rfl⟩⟩))
            go_ret
            exact ⟨by first | rfl | (rw [hrf]; rfl), by repeat (first | exact HD.out | apply dr_N | apply dr_1)⟩
          | true =>
            rw [cw] at A8' hka
            have A8 := Aside0.mk A8'
            have HS_ := Aside0.mk hS
            have HKA := Aside0.mk hka
            have H0 := Aside0.mk ((dr_cell HD.out _).symm.trans h0)
            have H1 := Aside0.mk ((dr_cell HD.out _).symm.trans h1)
            clear hS hka A8' hp
            go_wp2_with (first | (go_at_call 89; (with_reducible refine (spec_l07Find.calls k _ _ b x.f0 y _ ?s1 ?s2 A6.out).mono ?_); (case s1 => repeat (first | exact HR0d.out | (with_reducible refine Kd.C_alloc ?_ _) | (with_reducible refine Kd.C_drewN ?_ _) | (with_reducible refine Kd.C_drew ?_))); (case s2 => exact HC0.out); rintro e w11 ⟨rfl, ⟨nd, rfl⟩⟩) | (go_at_call 112; (with_reducible refine (spec_l02Places.calls x.f1 true _ A7.out).mono ?_); rintro e w13 ⟨rfl, ⟨nd2, rfl⟩⟩) | (go_at_call 122; (with_reducible refine (spec_l01Ok.calls _ [x.f2].length [x.f2] true _ ?t1 ?t2 A8.out).mono ?_); (case t1 => repeat (first | exact HSB.out | (with_reducible refine Kd.C_drewN ?_ _) | (with_reducible refine Kd.C_drew ?_))); (case t2 => exact Nat.le_refl _); rintro e w15 ⟨rfl, ⟨nd3, rfl⟩⟩))
            clear h0 h1 h2 h3 h4 h5 h6 h7 h8
            go_loopw [7] (fun v7 wi => ∃ j : Nat, v7 = .int .i64 (j : Int) ∧ Aside0 (j ≤ i) ∧ Aside0 ((l.take j).any (sameK x) = false) ∧ Aside0 (Drawn0 w wi)) (fun v _ => i - (intOf v).toNat)
            case atStart => exact ⟨0, rfl, ⟨Nat.zero_le _⟩, ⟨rfl⟩, ⟨by repeat (first | exact HD.out | apply dr_N | apply dr_1)⟩⟩
            case round =>
              clear HD
              obtain ⟨j, rfl, HJ, HA, HD⟩ := hrel
              have h0 := (dr_cell HD.out _).trans H0.out
              have h1 := (dr_cell HD.out _).trans H1.out
              by_cases hji : j < i
              · obtain ⟨ad2, e2, g0, g1, _⟩ := at_T124 HR1.out (j : Int) (by omega) (by omega)
                obtain rfl : ad = ad2 := by injection e2
                rw [Int.toNat_natCast] at g0 g1
                replace g0 := (dr_cell HD.out _).trans g0
                replace g1 := (dr_cell HD.out _).trans g1
                have j1 : (j : Int) < (i : Int) := by omega
                have j2 : decide ((j : Int) < (i : Int)) = true := decide_eq_true j1
                have j3 : (j : Int) < (l.length : Int) := by omega
                obtain ⟨z, hz⟩ : ∃ z, z = rd_T124 l (j : Int) := ⟨_, rfl⟩
                rw [← hz] at g0 g1
                have HZ := Aside0.mk hz
                clear hz
                cases s1 : (z.f0.toList == x.f0.toList) with
                | false =>
                  have s1n : ¬ z.f0.toList = x.f0.toList := by simpa using s1
                  have hsk : sameK x z = false := by unfold sameK; rw [s1, Bool.false_and]
                  have hnx := any_take_succ (p := sameK x) (by omega) HA.out (by rw [← HZ.out]; exact hsk)
                  go_wp2
                  go_region
                  go_wp2
                  go_roundw
                  case rel => exact ⟨j + 1, by go_num, ⟨by omega⟩, ⟨hnx⟩, ⟨by repeat (first | exact HD.out | apply dr_N | apply dr_1)⟩⟩
                  case measure => simp [intOf]; omega
                | true =>
                  have s1n : z.f0.toList = x.f0.toList := by simpa using s1
                  cases s2 : (z.f1 == x.f1) with
                  | false =>
                    have s2n : ¬ z.f1 = x.f1 := by simpa using s2
                    have hsk : sameK x z = false := by unfold sameK; rw [s2, Bool.and_false]
                    have hnx := any_take_succ (p := sameK x) (by omega) HA.out (by rw [← HZ.out]; exact hsk)
                    go_wp2
                    go_region
                    go_wp2
                    go_roundw
                    case rel => exact ⟨j + 1, by go_num, ⟨by omega⟩, ⟨hnx⟩, ⟨by repeat (first | exact HD.out | apply dr_N | apply dr_1)⟩⟩
                    case measure => simp [intOf]; omega
                  | true =>
                    have s2n : z.f1 = x.f1 := by simpa using s2
                    have hsk : sameK x z = true := by unfold sameK; rw [s1, s2]; rfl
                    have hrf : r = false := by
                      rw [HS_.out, HKA.out, any_take hji (Nat.le_of_lt hlt) (by rw [← HZ.out]; exact hsk)]; rfl
                    go_wp2
                    go_region
                    go_wp2
                    go_ret
                    exact ⟨by first | rfl | (rw [hrf]; rfl), by repeat (first | exact HD.out | apply dr_N | apply dr_1)⟩
              · have hjj : j = i := by have := HJ.out; omega
                subst hjj
                have hrf : r = (allG (formAt b l) (l.length - (j + 1)) (j + 1) && decide (l.length ≤ 200)) := by rw [HS_.out, HKA.out, HA.out]; rfl
                have HRF := Aside0.mk hrf
                clear hrf
                have j2 : decide ((j : Int) < (j : Int)) = false := decide_eq_false (by omega)
                go_wp2
                go_roundw
                case rel => exact ⟨j + 1, by go_num, ⟨by omega⟩, HRF, HD⟩
                case measure => simp [intOf]; omega
    · have hkl : i = l.length := by have := HKL.out; omega
      subst hkl
      have hrt : r = decide (l.length ≤ 200) := by rw [HO.out, Nat.sub_self]; rfl
      have k2 : decide ((l.length : Int) < (l.length : Int)) = false := decide_eq_false (by omega)
      have k3 : decide ((l.length : Int) ≤ 200) = decide (l.length ≤ 200) := by by_cases q : l.length ≤ 200 <;> simp [q] <;> omega
      go_wp2
      go_ret
      exact ⟨by rw [hrt, ← k3]; rfl, HD.out⟩
end Go.Proofs.Ytenhgmddpkiliaa.PB

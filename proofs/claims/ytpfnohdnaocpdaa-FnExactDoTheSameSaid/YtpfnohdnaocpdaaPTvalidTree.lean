/- impl.ValidTree by hand: it hands a closure over the tree to slices.ContainsFunc; and forkOk, which ranges over an array. -/
import Derived.Test.YtpfnohdnaocpdaaPTdigitsOk
namespace Go.Proofs.Ytpfnohdnaocpdaa.PT
open Go.RowKit Go.Proofs.YtpfnohdnaocpdaaW.PrintWords Go.Proofs.YtpfnohdnaocpdaaW.PrintLast Go.Proofs.YtpfnohdnaocpdaaW.PrintMore Go.Lib Go.Proofs.YtpfnohdnaocpdaaRP
set_option linter.unusedVariables false
set_option linter.unusedSimpArgs false

theorem idx87_0 (a b c : Int) (w : World) : (Instr.index 87 (.agg #[.int .i16 a, .int .i16 b, .int .i16 c]) (.int .i64 0)).run Try.prog w = .ok (.int .i16 a) w := by kernel_rfl
theorem idx87_1 (a b c : Int) (w : World) : (Instr.index 87 (.agg #[.int .i16 a, .int .i16 b, .int .i16 c]) (.int .i64 1)).run Try.prog w = .ok (.int .i16 b) w := by kernel_rfl
theorem idx87_2 (a b c : Int) (w : World) : (Instr.index 87 (.agg #[.int .i16 a, .int .i16 b, .int .i16 c]) (.int .i64 2)).run Try.prog w = .ok (.int .i16 c) w := by kernel_rfl
attribute [local go_sem] idx87_0 idx87_1 idx87_2
def wayB (a n : Int) : Bool := !decide (a < 0) && !decide (n ≤ wrap64 a)
def kindB (k d b c : Int) : Bool := if k = 1 then d == 0 else if k = 2 then digB d && b == 0 && c == 0 else false
def forkB (x : S89) (n : Int) : Bool := wayB x.f2.f0 n && wayB x.f2.f1 n && wayB x.f2.f2 n && kindB x.f0 x.f1 x.f2.f1 x.f2.f2
set_option maxHeartbeats 4000000 in
set_option maxRecDepth 100000 in
theorem forkOk_any (k d a b c n : Int) (w : World) : Calls Try.prog 114 #[.agg #[.int .i8 k, .int .i8 d, .int .i16 a, .int .i16 b, .int .i16 c], .int .i64 n] w fun e w' => e = .returned (.bool (wayB a n && wayB b n && wayB c n && kindB k d b c)) ∧ Below w.heap.size w w' := by
  have HB := Aside0.mk (Below.refl w.heap.size w)
  have HD := Aside0.mk (isDigit_any d)
  obtain ⟨g, hg⟩ : ∃ g, digB d = g := ⟨_, rfl⟩
  rw [hg] at HD
  have HG := Aside0.mk hg
  clear hg
  obtain ⟨r, hr⟩ : ∃ r, r = (wayB a n && wayB b n && wayB c n && kindB k d b c) := ⟨_, rfl⟩
  rw [← hr]
  have HR := Aside0.mk hr
  clear hr
  go_enter Try.func114, Try.ntmps114
  go_wp2
  go_loop [9] (fun i => (i = .int .i64 0) ∨ (i = .int .i64 1 ∧ Aside0 (wayB a n = true)) ∨ (i = .int .i64 2 ∧ Aside0 (wayB a n = true ∧ wayB b n = true)) ∨ (i = .int .i64 3 ∧ Aside0 (wayB a n = true ∧ wayB b n = true ∧ wayB c n = true))) (fun i => 3 - (intOf i).toNat)
  case atStart => exact .inl rfl
  case round =>
    rcases hrel with rfl | ⟨rfl, H1⟩ | ⟨rfl, H1⟩ | ⟨rfl, H1⟩
    · by_cases c1 : a < 0
      · have d1 : decide (a < 0) = true := decide_eq_true c1
        have HC := Aside0.mk d1
        go_wp2
        go_ret
        exact ⟨by rw [HR.out, wayB, HC.out]; rfl, by repeat (first | exact HB.out | apply below_alloc)⟩
      · have d1 : decide (a < 0) = false := decide_eq_false c1
        by_cases c2 : n ≤ wrap64 a
        · have d2 : decide (n ≤ wrap64 a) = true := decide_eq_true c2
          have HC := Aside0.mk d2
          go_wp2
          go_ret
          exact ⟨by rw [HR.out]; simp [wayB, HC.out], by repeat (first | exact HB.out | apply below_alloc)⟩
        · have d2 : decide (n ≤ wrap64 a) = false := decide_eq_false c2
          have HC := Aside0.mk (And.intro d1 d2)
          go_wp2
          go_round
          case rel => exact .inr (.inl ⟨by go_num, ⟨by rw [wayB, HC.out.1, HC.out.2]; rfl⟩⟩)
          case measure => simp [intOf]
    · by_cases c1 : b < 0
      · have d1 : decide (b < 0) = true := decide_eq_true c1
        have HC := Aside0.mk d1
        go_wp2
        go_ret
        exact ⟨by rw [HR.out]; simp [wayB, HC.out], by repeat (first | exact HB.out | apply below_alloc)⟩
      · have d1 : decide (b < 0) = false := decide_eq_false c1
        by_cases c2 : n ≤ wrap64 b
        · have d2 : decide (n ≤ wrap64 b) = true := decide_eq_true c2
          have HC := Aside0.mk d2
          go_wp2
          go_ret
          exact ⟨by rw [HR.out]; simp [wayB, HC.out], by repeat (first | exact HB.out | apply below_alloc)⟩
        · have d2 : decide (n ≤ wrap64 b) = false := decide_eq_false c2
          have HC := Aside0.mk (And.intro d1 d2)
          go_wp2
          go_round
          case rel => exact .inr (.inr (.inl ⟨by go_num, ⟨H1.out, by rw [wayB, HC.out.1, HC.out.2]; rfl⟩⟩))
          case measure => simp [intOf]
    · by_cases c1 : c < 0
      · have d1 : decide (c < 0) = true := decide_eq_true c1
        have HC := Aside0.mk d1
        go_wp2
        go_ret
        exact ⟨by rw [HR.out]; simp [wayB, HC.out], by repeat (first | exact HB.out | apply below_alloc)⟩
      · have d1 : decide (c < 0) = false := decide_eq_false c1
        by_cases c2 : n ≤ wrap64 c
        · have d2 : decide (n ≤ wrap64 c) = true := decide_eq_true c2
          have HC := Aside0.mk d2
          go_wp2
          go_ret
          exact ⟨by rw [HR.out]; simp [wayB, HC.out], by repeat (first | exact HB.out | apply below_alloc)⟩
        · have d2 : decide (n ≤ wrap64 c) = false := decide_eq_false c2
          have HC := Aside0.mk (And.intro d1 d2)
          go_wp2
          go_round
          case rel => exact .inr (.inr (.inr ⟨by go_num, ⟨H1.out.1, H1.out.2, by rw [wayB, HC.out.1, HC.out.2]; rfl⟩⟩))
          case measure => simp [intOf]
    · have HK : Aside0 (r = kindB k d b c) := ⟨by rw [HR.out, H1.out.1, H1.out.2.1, H1.out.2.2]; rfl⟩
      by_cases k1 : k = 1
      · subst k1
        go_wp2
        go_ret
        exact ⟨by rw [HK.out]; rfl, by repeat (first | exact HB.out | apply below_alloc)⟩
      · have e1 : (k == 1) = false := beq_eq_false_iff_ne.mpr k1
        by_cases k2 : k = 2
        · subst k2
          have HK2 : Aside0 (r = (g && b == 0 && c == 0)) := ⟨by rw [HK.out, ← HG.out]; rfl⟩
          clear HK HR HG
          cases g with
          | false =>
            go_wp2_with (go_at_call 148; refine (HD.out _).mono ?_; rintro e w' ⟨rfl, hb⟩; have HBr := Aside0.mk (below_step (by repeat (first | exact HB.out | apply below_alloc)) hb); clear hb)
            go_ret
            exact ⟨by rw [HK2.out]; rfl, HBr.out⟩
          | true =>
            by_cases z1 : b = 0
            · subst z1
              go_wp2_with (go_at_call 148; refine (HD.out _).mono ?_; rintro e w' ⟨rfl, hb⟩; have HBr := Aside0.mk (below_step (by repeat (first | exact HB.out | apply below_alloc)) hb); have x0 : w'.cell? ⟨w.heap.size, 3, none⟩ = some (.int .i16 0) := (hb.cell (p := ⟨w.heap.size, 3, none⟩) (by simp)).trans (by simp); have x1 : w'.cell? ⟨w.heap.size, 4, none⟩ = some (.int .i16 c) := (hb.cell (p := ⟨w.heap.size, 4, none⟩) (by simp)).trans (by simp); clear hb)
              go_ret
              exact ⟨by rw [HK2.out]; rfl, HBr.out⟩
            · have z2 : (b == 0) = false := beq_eq_false_iff_ne.mpr z1
              go_wp2_with (go_at_call 148; refine (HD.out _).mono ?_; rintro e w' ⟨rfl, hb⟩; have HBr := Aside0.mk (below_step (by repeat (first | exact HB.out | apply below_alloc)) hb); have x0 : w'.cell? ⟨w.heap.size, 3, none⟩ = some (.int .i16 b) := (hb.cell (p := ⟨w.heap.size, 3, none⟩) (by simp)).trans (by simp); have x1 : w'.cell? ⟨w.heap.size, 4, none⟩ = some (.int .i16 c) := (hb.cell (p := ⟨w.heap.size, 4, none⟩) (by simp)).trans (by simp); clear hb)
              go_ret
              exact ⟨by rw [HK2.out, z2]; rfl, HBr.out⟩
        · have e2 : (k == 2) = false := beq_eq_false_iff_ne.mpr k2
          go_wp2
          go_ret
          exact ⟨by rw [HK.out, kindB, if_neg k1, if_neg k2]; rfl, by repeat (first | exact HB.out | apply below_alloc)⟩
theorem validFork_pred (x : S89) (A : Option Addr) (n c B : Nat) (w : World) (hcell : w.cell? ⟨B, 0, none⟩ = some (.slice A n c)) :
    Calls Try.prog 113 #[.agg #[.int .i8 x.f0, .int .i8 x.f1, .int .i16 x.f2.f0, .int .i16 x.f2.f1, .int .i16 x.f2.f2], .pointer (some ⟨B, 0, none⟩)] w fun e w' => e = .returned (.bool (!forkB x n)) ∧ Below w.heap.size w w' := by
  have hB := World.block_lt_of_cell? w _ hcell
  have hne : ¬ B = w.heap.size := by have : B < w.heap.size := hB; omega
  have HF := Aside0.mk (forkOk_any x.f0 x.f1 x.f2.f0 x.f2.f1 x.f2.f2 n)
  have HB := Aside0.mk (Below.refl w.heap.size w)
  obtain ⟨r, hr⟩ : ∃ r, forkB x n = r := ⟨_, rfl⟩
  unfold forkB at hr
  rw [hr] at HF
  unfold forkB
  rw [hr]
  clear hr
  go_enter Try.func113, Try.ntmps113
  go_wp2_with (go_at_call 114; refine (HF.out _).mono ?_; rintro e w' ⟨rfl, hb⟩; have HBr := Aside0.mk (below_step (by repeat (first | exact HB.out | apply below_alloc)) hb); clear hb)
  go_ret
  exact ⟨rfl, HBr.out⟩
theorem drop_T89 (l : List S89) (k : Nat) (h : k < l.length) : l.drop k = rd_T89 l (k : Int) :: l.drop (k + 1) := by
  rw [List.drop_eq_getElem_cons h]
  simp [rd_T89, List.getD, h]
set_option maxHeartbeats 4000000 in
theorem idx147_113 (p : S89 → Bool) (cap0_ : Value) (A0 : Option Addr) (c0 : Nat) (l0 : List S89) (w : World) (hr0 : Kd.C k89 w A0 l0.length l0) (hc0 : l0.length ≤ c0)
    (hp : ∀ x ∈ l0, ∀ wr, Below w.heap.size w wr → Calls Try.prog 113 #[.agg #[.int .i8 x.f0, .int .i8 x.f1, .int .i16 x.f2.f0, .int .i16 x.f2.f1, .int .i16 x.f2.f2], cap0_] wr fun e w' => e = .returned (.bool (p x)) ∧ Below wr.heap.size wr w') :
    Calls Try.prog 147 #[.slice A0 l0.length c0, .func (.func 113) #[] #[cap0_]] w fun e w' => e = .returned (.int .i64 (idxL p l0)) ∧ Below w.heap.size w w' := by
  have HR := Aside0.mk hr0
  have hm : l0.length ≤ 9223372036854775807 := hr0.2.1
  clear hr0
  have eg : ∀ args w, (callFunc 113 args).run Try.prog w = .ok (.enter 113 args) w := enters_of Try.func113 (by kernel_rfl) rfl
  have HE := Aside0.mk eg
  have HPP := Aside0.mk hp
  clear eg hp
  obtain ⟨r, hr⟩ : ∃ r, r = idxL p l0 := ⟨_, rfl⟩
  rw [← hr]
  have HR1 := Aside0.mk hr
  clear hr
  go_enter Try.func147, Try.ntmps147
  go_wp2
  go_loopw [5, 8] (fun _ i wr => ∃ k : Nat, k ≤ l0.length ∧ i = .int .i64 k ∧ Aside0 (r = idxGo p (l0.drop k) k) ∧ Aside0 (Below w.heap.size w wr)) (fun _ i _ => l0.length - (intOf i).toNat)
  case atStart => exact ⟨0, Nat.zero_le _, rfl, ⟨by rw [HR1.out]; rfl⟩, ⟨Below.refl _ _⟩⟩
  case round =>
    obtain ⟨k, hk, rfl, HO, HB⟩ := hrel
    by_cases hlt : k < l0.length
    · obtain ⟨ad, e, h0, h1, h2, h3, h4⟩ := at_T89 HR.out (k : Int) (by omega) (by omega)
      rw [Int.toNat_natCast] at h0 h1 h2 h3 h4
      cases e
      replace h0 := (HB.out.cell (World.block_lt_of_cell? w _ h0)).trans h0
      replace h1 := (HB.out.cell (World.block_lt_of_cell? w _ h1)).trans h1
      replace h2 := (HB.out.cell (World.block_lt_of_cell? w _ h2)).trans h2
      replace h3 := (HB.out.cell (World.block_lt_of_cell? w _ h3)).trans h3
      replace h4 := (HB.out.cell (World.block_lt_of_cell? w _ h4)).trans h4
      have hlt' : (k : Int) < (l0.length : Int) := by omega
      have hd := drop_T89 l0 k hlt
      have HS := Aside0.mk (HO.out.trans (by rw [hd]; rfl) : r = if p (rd_T89 l0 (k : Int)) = true then (k : Int) else idxGo p (l0.drop (k + 1)) (k + 1))
      have hp := HPP.out (rd_T89 l0 (k : Int)) (List.mem_of_mem_drop (i := k) (by rw [hd]; exact List.mem_cons_self)) wr HB.out
      clear hd
      have HEk := HE.out
      generalize hq : p (rd_T89 l0 (k : Int)) = b at hp HS
      clear hq
      have HP := Aside0.mk hp
      clear hp
      cases b with
      | true =>
        go_wp2_with (go_at_fn 113; refine HP.out.mono ?_; rintro e w' ⟨rfl, hb⟩)
        go_ret
        exact ⟨by rw [HS.out]; first | rfl | simp, below_step HB.out hb⟩
      | false =>
        go_wp2_with (go_at_fn 113; refine HP.out.mono ?_; rintro e w' ⟨rfl, hb⟩)
        go_roundw
        case rel => exact ⟨k + 1, by omega, by go_num, ⟨by rw [HS.out]; first | rfl | simp⟩, ⟨below_step HB.out hb⟩⟩
        case measure => simp [intOf]; omega
    · have : k = l0.length := by omega
      subst this
      go_wp2
      go_ret
      exact ⟨by rw [HO.out, List.drop_length]; rfl, HB.out⟩
set_option maxHeartbeats 2000000 in
theorem con112_113 (p : S89 → Bool) (cap0_ : Value) (A0 : Option Addr) (c0 : Nat) (l0 : List S89) (w : World) (hr0 : Kd.C k89 w A0 l0.length l0) (hc0 : l0.length ≤ c0)
    (hp : ∀ x ∈ l0, ∀ wr, Below w.heap.size w wr → Calls Try.prog 113 #[.agg #[.int .i8 x.f0, .int .i8 x.f1, .int .i16 x.f2.f0, .int .i16 x.f2.f1, .int .i16 x.f2.f2], cap0_] wr fun e w' => e = .returned (.bool (p x)) ∧ Below wr.heap.size wr w') :
    Calls Try.prog 112 #[.slice A0 l0.length c0, .func (.func 113) #[] #[cap0_]] w fun e w' => e = .returned (.bool (l0.any p)) ∧ Below w.heap.size w w' := by
  have hx := idx147_113 p cap0_ A0 c0 l0 w hr0 hc0 hp
  have HX := Aside0.mk hx
  clear hx hr0 hp
  have HA := Aside0.mk (idxL_any p l0)
  generalize idxL p l0 = i at HX HA
  cases hb : l0.any p with
  | true =>
    rw [hb] at HA
    have h0 : 0 ≤ i := by have := HA.out; simpa using this
    go_enter Try.func112, Try.ntmps112
    go_wp2_with (go_at_call 147; refine HX.out.mono ?_; rintro e w' ⟨rfl, hb⟩)
    go_ret
    exact ⟨by first | rfl | simp [h0], by assumption⟩
  | false =>
    rw [hb] at HA
    have h0 : i < 0 := by have := HA.out; simpa using this
    have h1 : decide (0 ≤ i) = false := decide_eq_false (by omega)
    go_enter Try.func112, Try.ntmps112
    go_wp2_with (go_at_call 147; refine HX.out.mono ?_; rintro e w' ⟨rfl, hb⟩)
    go_ret
    exact ⟨by first | rfl | simp [h0, h1], by assumption⟩
def impl_ValidTree.f (l0_0 : List S89) : Option Bool := some (decide (1 ≤ l0_0.length) && decide (l0_0.length ≤ 60) && l0_0.all fun x => forkB x (l0_0.length : Int))
set_option maxHeartbeats 4000000 in
theorem impl_ValidTree.calls (A0_0 : Option Addr) (c0_0 : Nat) (l0_0 : List S89) (r : Bool) (w : World) (hr0_0 : Kd.C k89 w A0_0 l0_0.length l0_0) (hc0_0 : l0_0.length ≤ c0_0) (h : impl_ValidTree.f l0_0 = some r) :
    Calls Try.prog 60 #[.agg #[.slice A0_0 l0_0.length c0_0]] w fun e w' => e = .returned (.bool r) ∧ Below w.heap.size w w' := by
  have HB := Aside0.mk (Below.refl w.heap.size w)
  have HR := Aside0.mk hr0_0
  have HC := Aside0.mk hc0_0
  have H := Aside0.mk (Option.some.inj h)
  clear hr0_0 hc0_0 h
  by_cases c1 : l0_0.length < 1
  · have d1 : decide ((l0_0.length : Int) < 1) = true := decide_eq_true (by omega)
    have d2 : decide (l0_0.length < 1) = true := decide_eq_true c1
    have e1 : decide (1 ≤ l0_0.length) = false := decide_eq_false (by omega)
    have HE := Aside0.mk e1
    clear e1 c1
    go_enter Try.func60, Try.ntmps60
    go_wp2
    go_ret
    exact ⟨by rw [← H.out, HE.out]; rfl, by repeat (first | exact HB.out | apply below_alloc)⟩
  · have d1 : decide ((l0_0.length : Int) < 1) = false := decide_eq_false (by omega)
    have d2 : decide (l0_0.length < 1) = false := decide_eq_false c1
    have e1 : decide (1 ≤ l0_0.length) = true := decide_eq_true (by omega)
    by_cases c2 : 60 < l0_0.length
    · have d3 : decide (60 < (l0_0.length : Int)) = true := decide_eq_true (by omega)
      have d4 : decide (60 < l0_0.length) = true := decide_eq_true c2
      have e2 : decide (l0_0.length ≤ 60) = false := decide_eq_false (by omega)
      have HE := Aside0.mk (And.intro e1 e2)
      clear e1 e2 c1 c2
      go_enter Try.func60, Try.ntmps60
      go_wp2
      go_ret
      exact ⟨by rw [← H.out, HE.out.1, HE.out.2]; rfl, by repeat (first | exact HB.out | apply below_alloc)⟩
    · have d3 : decide (60 < (l0_0.length : Int)) = false := decide_eq_false (by omega)
      have d4 : decide (60 < l0_0.length) = false := decide_eq_false c2
      have e2 : decide (l0_0.length ≤ 60) = true := decide_eq_true (by omega)
      have HX : Aside0 (r = !l0_0.any fun x => !forkB x (l0_0.length : Int)) := ⟨by rw [← H.out, e1, e2]; simp [List.all_eq_not_any_not]⟩
      clear e1 e2 c1 c2 H
      have HW : Aside0 (∀ x ∈ l0_0, ∀ wr, Below (w.alloc (.cells #[.slice A0_0 l0_0.length c0_0] 34)).heap.size (w.alloc (.cells #[.slice A0_0 l0_0.length c0_0] 34)) wr → Calls Try.prog 113 #[.agg #[.int .i8 x.f0, .int .i8 x.f1, .int .i16 x.f2.f0, .int .i16 x.f2.f1, .int .i16 x.f2.f2], .pointer (some ⟨w.heap.size, 0, none⟩)] wr fun e w' => e = .returned (.bool (!forkB x (l0_0.length : Int))) ∧ Below wr.heap.size wr w') :=
        ⟨fun x _ wr hb => validFork_pred x A0_0 l0_0.length c0_0 w.heap.size wr ((hb.cell (p := ⟨w.heap.size, 0, none⟩) (by simp)).trans (by simp))⟩
      generalize hq : (fun x : S89 => !forkB x (l0_0.length : Int)) = p at HX
      have HW2 : Aside0 (∀ x ∈ l0_0, ∀ wr, Below (w.alloc (.cells #[.slice A0_0 l0_0.length c0_0] 34)).heap.size (w.alloc (.cells #[.slice A0_0 l0_0.length c0_0] 34)) wr → Calls Try.prog 113 #[.agg #[.int .i8 x.f0, .int .i8 x.f1, .int .i16 x.f2.f0, .int .i16 x.f2.f1, .int .i16 x.f2.f2], .pointer (some ⟨w.heap.size, 0, none⟩)] wr fun e w' => e = .returned (.bool (p x)) ∧ Below wr.heap.size wr w') := ⟨by rw [← hq]; exact HW.out⟩
      clear hq HW
      go_enter Try.func60, Try.ntmps60
      go_wp2_with (go_at_call 112; refine (con112_113 p (.pointer (some ⟨w.heap.size, 0, none⟩)) A0_0 c0_0 l0_0 _ (Kd.C_alloc HR.out _) HC.out HW2.out).mono ?_; rintro e w' ⟨rfl, hb⟩; have HBr := Aside0.mk (below_step (below_alloc HB.out _) hb); clear hb)
      go_ret
      exact ⟨by rw [HX.out]; rfl, HBr.out⟩
end Go.Proofs.Ytpfnohdnaocpdaa.PT

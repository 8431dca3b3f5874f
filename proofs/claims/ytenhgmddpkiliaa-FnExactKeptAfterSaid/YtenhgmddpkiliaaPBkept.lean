/- What is kept: impl.keptOk and impl.valuesOk by hand (closures over what is kept). -/
import Derived.Test.YtenhgmddpkiliaaPBx5
import Derived.Test.YtenhgmddpkiliaaPBx4
import Derived.Test.YtenhgmddpkiliaaPBlineOf
import Derived.Test.YtenhgmddpkiliaaIDX
import Derived.Shelf.Abstract
import Derived.IntWalk
namespace Go.Proofs.Ytenhgmddpkiliaa.PB
open Go.RowKit Go.Proofs.YtenhgmddpkiliaaW.PrintWords Go.Proofs.YtenhgmddpkiliaaW.PrintLast Go.Proofs.YtenhgmddpkiliaaW.PrintMore Go.Lib Go.Proofs.YtenhgmddpkiliaaRP
set_option linter.unusedVariables false
set_option linter.unusedSimpArgs false

attribute [local go_sem high] eqA116
def wideB (x : S122) : Bool := if x.f0 = true then (!(x.f1.f0 == 0) || (!(x.f1.f1 == 0) || (!(x.f1.f2 == 0) || (!(x.f1.f3 == 0) || (!(x.f1.f4 == 0) || (!(x.f1.f5 == 0))))))) else true
set_option maxHeartbeats 4000000 in
set_option maxRecDepth 100000 in
theorem validWide_any (x : S122) (w : World) : Calls Try.prog 128 #[.agg #[.bool x.f0, .int .u32 x.f1.f0, .int .u32 x.f1.f1, .int .u32 x.f1.f2, .int .u32 x.f1.f3, .int .u32 x.f1.f4, .int .u32 x.f1.f5]] w fun e w' => e = .returned (.bool (wideB x)) ∧ Below w.heap.size w w' := by
  have hu116 := Try.underlying116
  obtain ⟨b, hb⟩ : ∃ b, b = x.f0 := ⟨_, rfl⟩
  unfold wideB
  rw [← hb]
  clear hb
  cases b with
  | true =>
    go_enter Try.func128, Try.ntmps128
    go_wp2
    go_ret
    exact ⟨by first | rfl | (simp; done) | (simp [*]; done), (Below.refl _ _).alloc (Nat.le_refl _) _⟩
  | false =>
    go_enter Try.func128, Try.ntmps128
    go_wp2
    go_ret
    exact ⟨by first | rfl | (simp; done) | (simp [*]; done), (Below.refl _ _).alloc (Nat.le_refl _) _⟩
def sameK (x y : S124) : Bool := y.f0.toList == x.f0.toList && y.f1 == x.f1
set_option maxHeartbeats 4000000 in
set_option maxRecDepth 100000 in
theorem sameK_pred (x y : S124) (B : Nat) (w : World) (hB : B < w.heap.size) (h0 : w.cell? ⟨B, 0, none⟩ = some (.string x.f0)) (h1 : w.cell? ⟨B, 1, none⟩ = some (.int .i64 x.f1)) :
    Calls Try.prog 126 #[.agg #[.string y.f0, .int .i64 y.f1, .bool y.f2.f0, .int .u32 y.f2.f1.f0, .int .u32 y.f2.f1.f1, .int .u32 y.f2.f1.f2, .int .u32 y.f2.f1.f3, .int .u32 y.f2.f1.f4, .int .u32 y.f2.f1.f5], .pointer (some ⟨B, 0, none⟩)] w fun e w' => e = .returned (.bool (sameK x y)) ∧ Below w.heap.size w w' := by
  have hne : B ≠ w.heap.size := by omega
  unfold sameK
  cases c : (y.f0.toList == x.f0.toList) with
  | true =>
    have c2 : y.f0.toList = x.f0.toList := beq_iff_eq.mp c
    go_enter Try.func126, Try.ntmps126
    go_wp2
    all_goals (go_ret; exact ⟨by first | rfl | (simp; done) | (simp [*]; done), (Below.refl _ _).alloc (Nat.le_refl _) _⟩)
  | false =>
    have c2 : ¬ y.f0.toList = x.f0.toList := by simpa using c
    go_enter Try.func126, Try.ntmps126
    go_wp2
    all_goals (go_ret; exact ⟨by first | rfl | (simp; done) | (simp [*]; done), (Below.refl _ _).alloc (Nat.le_refl _) _⟩)
set_option maxHeartbeats 4000000 in
set_option maxRecDepth 100000 in
theorem badV_pred (y : S124) (w : World) : Calls Try.prog 127 #[.agg #[.string y.f0, .int .i64 y.f1, .bool y.f2.f0, .int .u32 y.f2.f1.f0, .int .u32 y.f2.f1.f1, .int .u32 y.f2.f1.f2, .int .u32 y.f2.f1.f3, .int .u32 y.f2.f1.f4, .int .u32 y.f2.f1.f5]] w fun e w' => e = .returned (.bool (!wideB y.f2)) ∧ Below w.heap.size w w' := by
  have HV := Aside0.mk (validWide_any y.f2)
  have HB := Aside0.mk (Below.refl w.heap.size w)
  obtain ⟨b, hb⟩ : ∃ b, b = wideB y.f2 := ⟨_, rfl⟩
  rw [← hb] at HV ⊢
  clear hb
  go_enter Try.func127, Try.ntmps127
  go_wp2_with (go_at_call 128; refine (HV.out _).mono ?_; rintro e w' ⟨rfl, hb⟩; have HBr := Aside0.mk (below_step (by repeat (first | exact HB.out | apply below_alloc)) hb); clear hb)
  go_ret
  exact ⟨rfl, HBr.out⟩
theorem drop_T124 (l : List S124) (k : Nat) (h : k < l.length) : l.drop k = rd_T124 l (k : Int) :: l.drop (k + 1) := by
  rw [List.drop_eq_getElem_cons h]
  simp [rd_T124, List.getD, h]
set_option maxHeartbeats 4000000 in
theorem idx132_126 (p : S124 → Bool) (cap0_ : Value) (A0 : Option Addr) (c0 : Nat) (l0 : List S124) (w : World) (hr0 : Kd.C k124 w A0 l0.length l0) (hc0 : l0.length ≤ c0)
    (hp : ∀ x ∈ l0, ∀ wr, Below w.heap.size w wr → Calls Try.prog 126 #[.agg #[.string x.f0, .int .i64 x.f1, .bool x.f2.f0, .int .u32 x.f2.f1.f0, .int .u32 x.f2.f1.f1, .int .u32 x.f2.f1.f2, .int .u32 x.f2.f1.f3, .int .u32 x.f2.f1.f4, .int .u32 x.f2.f1.f5], cap0_] wr fun e w' => e = .returned (.bool (p x)) ∧ Below wr.heap.size wr w') :
    Calls Try.prog 132 #[.slice A0 l0.length c0, .func (.func 126) #[] #[cap0_]] w fun e w' => e = .returned (.int .i64 (idxL p l0)) ∧ Below w.heap.size w w' := by
  have HR := Aside0.mk hr0
  have hm : l0.length ≤ 9223372036854775807 := hr0.2.1
  clear hr0
  have eg : ∀ args w, (callFunc 126 args).run Try.prog w = .ok (.enter 126 args) w := enters_of Try.func126 (by kernel_rfl) rfl
  have HE := Aside0.mk eg
  have HPP := Aside0.mk hp
  clear eg hp
  obtain ⟨r, hr⟩ : ∃ r, r = idxL p l0 := ⟨_, rfl⟩
  rw [← hr]
  have HR1 := Aside0.mk hr
  clear hr
  go_enter Try.func132, Try.ntmps132
  go_wp2
  go_loopw [5, 8] (fun _ i wr => ∃ k : Nat, k ≤ l0.length ∧ i = .int .i64 k ∧ Aside0 (r = idxGo p (l0.drop k) k) ∧ Aside0 (Below w.heap.size w wr)) (fun _ i _ => l0.length - (intOf i).toNat)
  case atStart => exact ⟨0, Nat.zero_le _, rfl, ⟨by rw [HR1.out]; rfl⟩, ⟨Below.refl _ _⟩⟩
  case round =>
    obtain ⟨k, hk, rfl, HO, HB⟩ := hrel
    by_cases hlt : k < l0.length
    · obtain ⟨ad, e, h0, h1, h2, h3, h4, h5, h6, h7, h8⟩ := at_T124 HR.out (k : Int) (by omega) (by omega)
      rw [Int.toNat_natCast] at h0 h1 h2 h3 h4 h5 h6 h7 h8
      cases e
      replace h0 := (HB.out.cell (World.block_lt_of_cell? w _ h0)).trans h0
      replace h1 := (HB.out.cell (World.block_lt_of_cell? w _ h1)).trans h1
      replace h2 := (HB.out.cell (World.block_lt_of_cell? w _ h2)).trans h2
      replace h3 := (HB.out.cell (World.block_lt_of_cell? w _ h3)).trans h3
      replace h4 := (HB.out.cell (World.block_lt_of_cell? w _ h4)).trans h4
      replace h5 := (HB.out.cell (World.block_lt_of_cell? w _ h5)).trans h5
      replace h6 := (HB.out.cell (World.block_lt_of_cell? w _ h6)).trans h6
      replace h7 := (HB.out.cell (World.block_lt_of_cell? w _ h7)).trans h7
      replace h8 := (HB.out.cell (World.block_lt_of_cell? w _ h8)).trans h8
      have hlt' : (k : Int) < (l0.length : Int) := by omega
      have hd := drop_T124 l0 k hlt
      have HS := Aside0.mk (HO.out.trans (by rw [hd]; rfl) : r = if p (rd_T124 l0 (k : Int)) = true then (k : Int) else idxGo p (l0.drop (k + 1)) (k + 1))
      have hp := HPP.out (rd_T124 l0 (k : Int)) (List.mem_of_mem_drop (i := k) (by rw [hd]; exact List.mem_cons_self)) wr HB.out
      clear hd
      have HEk := HE.out
      generalize hq : p (rd_T124 l0 (k : Int)) = b at hp HS
      clear hq
      have HP := Aside0.mk hp
      clear hp
      cases b with
      | true =>
        go_wp2_with (go_at_fn 126; refine HP.out.mono ?_; rintro e w' ⟨rfl, hb⟩)
        go_ret
        exact ⟨by rw [HS.out]; first | rfl | simp, below_step HB.out hb⟩
      | false =>
        go_wp2_with (go_at_fn 126; refine HP.out.mono ?_; rintro e w' ⟨rfl, hb⟩)
        go_roundw
        case rel => exact ⟨k + 1, by omega, by go_num, ⟨by rw [HS.out]; first | rfl | simp⟩, ⟨below_step HB.out hb⟩⟩
        case measure => simp [intOf]; omega
    · have : k = l0.length := by omega
      subst this
      go_wp2
      go_ret
      exact ⟨by rw [HO.out, List.drop_length]; rfl, HB.out⟩
set_option maxHeartbeats 2000000 in
theorem con125_126 (p : S124 → Bool) (cap0_ : Value) (A0 : Option Addr) (c0 : Nat) (l0 : List S124) (w : World) (hr0 : Kd.C k124 w A0 l0.length l0) (hc0 : l0.length ≤ c0)
    (hp : ∀ x ∈ l0, ∀ wr, Below w.heap.size w wr → Calls Try.prog 126 #[.agg #[.string x.f0, .int .i64 x.f1, .bool x.f2.f0, .int .u32 x.f2.f1.f0, .int .u32 x.f2.f1.f1, .int .u32 x.f2.f1.f2, .int .u32 x.f2.f1.f3, .int .u32 x.f2.f1.f4, .int .u32 x.f2.f1.f5], cap0_] wr fun e w' => e = .returned (.bool (p x)) ∧ Below wr.heap.size wr w') :
    Calls Try.prog 125 #[.slice A0 l0.length c0, .func (.func 126) #[] #[cap0_]] w fun e w' => e = .returned (.bool (l0.any p)) ∧ Below w.heap.size w w' := by
  have hx := idx132_126 p cap0_ A0 c0 l0 w hr0 hc0 hp
  have HX := Aside0.mk hx
  clear hx hr0 hp
  have HA := Aside0.mk (idxL_any p l0)
  generalize idxL p l0 = i at HX HA
  cases hb : l0.any p with
  | true =>
    rw [hb] at HA
    have h0 : 0 ≤ i := by have := HA.out; simpa using this
    go_enter Try.func125, Try.ntmps125
    go_wp2_with (go_at_call 132; refine HX.out.mono ?_; rintro e w' ⟨rfl, hb⟩)
    go_ret
    exact ⟨by first | rfl | simp [h0], by assumption⟩
  | false =>
    rw [hb] at HA
    have h0 : i < 0 := by have := HA.out; simpa using this
    have h1 : decide (0 ≤ i) = false := decide_eq_false (by omega)
    go_enter Try.func125, Try.ntmps125
    go_wp2_with (go_at_call 132; refine HX.out.mono ?_; rintro e w' ⟨rfl, hb⟩)
    go_ret
    exact ⟨by first | rfl | simp [h0, h1], by assumption⟩
set_option maxHeartbeats 4000000 in
theorem idx132_127 (p : S124 → Bool) (A0 : Option Addr) (c0 : Nat) (l0 : List S124) (w : World) (hr0 : Kd.C k124 w A0 l0.length l0) (hc0 : l0.length ≤ c0)
    (hp : ∀ x ∈ l0, ∀ wr, Below w.heap.size w wr → Calls Try.prog 127 #[.agg #[.string x.f0, .int .i64 x.f1, .bool x.f2.f0, .int .u32 x.f2.f1.f0, .int .u32 x.f2.f1.f1, .int .u32 x.f2.f1.f2, .int .u32 x.f2.f1.f3, .int .u32 x.f2.f1.f4, .int .u32 x.f2.f1.f5]] wr fun e w' => e = .returned (.bool (p x)) ∧ Below wr.heap.size wr w') :
    Calls Try.prog 132 #[.slice A0 l0.length c0, .func (.func 127) #[] #[]] w fun e w' => e = .returned (.int .i64 (idxL p l0)) ∧ Below w.heap.size w w' := by
  have HR := Aside0.mk hr0
  have hm : l0.length ≤ 9223372036854775807 := hr0.2.1
  clear hr0
  have eg : ∀ args w, (callFunc 127 args).run Try.prog w = .ok (.enter 127 args) w := enters_of Try.func127 (by kernel_rfl) rfl
  have HE := Aside0.mk eg
  have HPP := Aside0.mk hp
  clear eg hp
  obtain ⟨r, hr⟩ : ∃ r, r = idxL p l0 := ⟨_, rfl⟩
  rw [← hr]
  have HR1 := Aside0.mk hr
  clear hr
  go_enter Try.func132, Try.ntmps132
  go_wp2
  go_loopw [5, 8] (fun _ i wr => ∃ k : Nat, k ≤ l0.length ∧ i = .int .i64 k ∧ Aside0 (r = idxGo p (l0.drop k) k) ∧ Aside0 (Below w.heap.size w wr)) (fun _ i _ => l0.length - (intOf i).toNat)
  case atStart => exact ⟨0, Nat.zero_le _, rfl, ⟨by rw [HR1.out]; rfl⟩, ⟨Below.refl _ _⟩⟩
  case round =>
    obtain ⟨k, hk, rfl, HO, HB⟩ := hrel
    by_cases hlt : k < l0.length
    · obtain ⟨ad, e, h0, h1, h2, h3, h4, h5, h6, h7, h8⟩ := at_T124 HR.out (k : Int) (by omega) (by omega)
      rw [Int.toNat_natCast] at h0 h1 h2 h3 h4 h5 h6 h7 h8
      cases e
      replace h0 := (HB.out.cell (World.block_lt_of_cell? w _ h0)).trans h0
      replace h1 := (HB.out.cell (World.block_lt_of_cell? w _ h1)).trans h1
      replace h2 := (HB.out.cell (World.block_lt_of_cell? w _ h2)).trans h2
      replace h3 := (HB.out.cell (World.block_lt_of_cell? w _ h3)).trans h3
      replace h4 := (HB.out.cell (World.block_lt_of_cell? w _ h4)).trans h4
      replace h5 := (HB.out.cell (World.block_lt_of_cell? w _ h5)).trans h5
      replace h6 := (HB.out.cell (World.block_lt_of_cell? w _ h6)).trans h6
      replace h7 := (HB.out.cell (World.block_lt_of_cell? w _ h7)).trans h7
      replace h8 := (HB.out.cell (World.block_lt_of_cell? w _ h8)).trans h8
      have hlt' : (k : Int) < (l0.length : Int) := by omega
      have hd := drop_T124 l0 k hlt
      have HS := Aside0.mk (HO.out.trans (by rw [hd]; rfl) : r = if p (rd_T124 l0 (k : Int)) = true then (k : Int) else idxGo p (l0.drop (k + 1)) (k + 1))
      have hp := HPP.out (rd_T124 l0 (k : Int)) (List.mem_of_mem_drop (i := k) (by rw [hd]; exact List.mem_cons_self)) wr HB.out
      clear hd
      have HEk := HE.out
      generalize hq : p (rd_T124 l0 (k : Int)) = b at hp HS
      clear hq
      have HP := Aside0.mk hp
      clear hp
      cases b with
      | true =>
        go_wp2_with (go_at_fn 127; refine HP.out.mono ?_; rintro e w' ⟨rfl, hb⟩)
        go_ret
        exact ⟨by rw [HS.out]; first | rfl | simp, below_step HB.out hb⟩
      | false =>
        go_wp2_with (go_at_fn 127; refine HP.out.mono ?_; rintro e w' ⟨rfl, hb⟩)
        go_roundw
        case rel => exact ⟨k + 1, by omega, by go_num, ⟨by rw [HS.out]; first | rfl | simp⟩, ⟨below_step HB.out hb⟩⟩
        case measure => simp [intOf]; omega
    · have : k = l0.length := by omega
      subst this
      go_wp2
      go_ret
      exact ⟨by rw [HO.out, List.drop_length]; rfl, HB.out⟩
set_option maxHeartbeats 2000000 in
theorem con125_127 (p : S124 → Bool) (A0 : Option Addr) (c0 : Nat) (l0 : List S124) (w : World) (hr0 : Kd.C k124 w A0 l0.length l0) (hc0 : l0.length ≤ c0)
    (hp : ∀ x ∈ l0, ∀ wr, Below w.heap.size w wr → Calls Try.prog 127 #[.agg #[.string x.f0, .int .i64 x.f1, .bool x.f2.f0, .int .u32 x.f2.f1.f0, .int .u32 x.f2.f1.f1, .int .u32 x.f2.f1.f2, .int .u32 x.f2.f1.f3, .int .u32 x.f2.f1.f4, .int .u32 x.f2.f1.f5]] wr fun e w' => e = .returned (.bool (p x)) ∧ Below wr.heap.size wr w') :
    Calls Try.prog 125 #[.slice A0 l0.length c0, .func (.func 127) #[] #[]] w fun e w' => e = .returned (.bool (l0.any p)) ∧ Below w.heap.size w w' := by
  have hx := idx132_127 p A0 c0 l0 w hr0 hc0 hp
  have HX := Aside0.mk hx
  clear hx hr0 hp
  have HA := Aside0.mk (idxL_any p l0)
  generalize idxL p l0 = i at HX HA
  cases hb : l0.any p with
  | true =>
    rw [hb] at HA
    have h0 : 0 ≤ i := by have := HA.out; simpa using this
    go_enter Try.func125, Try.ntmps125
    go_wp2_with (go_at_call 132; refine HX.out.mono ?_; rintro e w' ⟨rfl, hb⟩)
    go_ret
    exact ⟨by first | rfl | simp [h0], by assumption⟩
  | false =>
    rw [hb] at HA
    have h0 : i < 0 := by have := HA.out; simpa using this
    have h1 : decide (0 ≤ i) = false := decide_eq_false (by omega)
    go_enter Try.func125, Try.ntmps125
    go_wp2_with (go_at_call 132; refine HX.out.mono ?_; rintro e w' ⟨rfl, hb⟩)
    go_ret
    exact ⟨by first | rfl | simp [h0, h1], by assumption⟩

def impl_valuesOk.f (l : List S124) : Option Bool := some (!(l.any fun x => !wideB x.f2))
set_option maxHeartbeats 4000000 in
theorem impl_valuesOk.calls (A0 : Option Addr) (c0 : Nat) (l : List S124) (r : Bool) (w : World) (hr0 : Kd.C k124 w A0 l.length l) (hc0 : l.length ≤ c0) (h : impl_valuesOk.f l = some r) :
    Calls Try.prog 100 #[.slice A0 l.length c0] w fun e w' => e = .returned (.bool r) ∧ Below w.heap.size w w' := by
  obtain rfl := Option.some.inj h
  clear h
  have HX := Aside0.mk (con125_127 (fun x => !wideB x.f2) A0 c0 l w hr0 hc0 (fun x _ wr _ => badV_pred x wr))
  clear hr0 hc0
  obtain ⟨b, hb⟩ : ∃ b, b = (l.any fun x => !wideB x.f2) := ⟨_, rfl⟩
  rw [← hb] at HX ⊢
  clear hb
  go_enter Try.func100, Try.ntmps100
  go_wp2_with (go_at_call 125; refine HX.out.mono ?_; rintro e w' ⟨rfl, hb⟩)
  go_ret
  exact ⟨rfl, hb⟩
def placesB (n : Int) : Bool := decide (0 ≤ n) && decide (n ≤ 64)
theorem placesOk_eq (n : Int) : impl_placesOk.f n = some (placesB n) := by
  unfold impl_placesOk.f impl_within.f placesB
  by_cases h : n ≥ 0
  · rw [if_pos h, decide_eq_true (show (0 : Int) ≤ n from h), Bool.true_and]; rfl
  · rw [if_neg h, decide_eq_false (show ¬ (0 : Int) ≤ n from h), Bool.false_and]; rfl
def allG (p : Nat → Bool) : Nat → Nat → Bool
  | 0, _ => true
  | d + 1, i => p i && allG p d (i + 1)
def keptAt (b : List S45) (l : List S124) (i : Nat) : Bool := !decide (findL b (rd_T124 l (i : Int)).f0 < 0) && (placesB (rd_T124 l (i : Int)).f1 && !((l.take i).any (sameK (rd_T124 l (i : Int)))))
theorem C_take {w : World} {A : Option Addr} {l : List S124} (h : Kd.C k124 w A l.length l) (k : Nat) (hk : k ≤ l.length) : Kd.C k124 w A (l.take k).length (l.take k) := by
  have hb := h.2.1
  refine ⟨rfl, by rw [List.length_take]; omega, fun h0 => ?_⟩
  obtain ⟨ad, e, hc⟩ := h.2.2 (by rw [List.length_take] at h0; omega)
  refine ⟨ad, e, fun j p hj => hc j p ?_⟩
  rw [List.getElem?_take] at hj
  split at hj
  · exact hj
  · cases hj
theorem con_same (x : S124) (A0 : Option Addr) (c0 : Nat) (l : List S124) (k : Nat) (hk : k ≤ l.length) (hc : l.length ≤ c0) (B : Nat) (w : World) (hr : Kd.C k124 w A0 (l.take k).length (l.take k)) (hB : B < w.heap.size) (h0 : w.cell? ⟨B, 0, none⟩ = some (.string x.f0)) (h1 : w.cell? ⟨B, 1, none⟩ = some (.int .i64 x.f1)) :
    Calls Try.prog 125 #[.slice A0 k c0, .func (.func 126) #[] #[.pointer (some ⟨B, 0, none⟩)]] w fun e w' => e = .returned (.bool ((l.take k).any (sameK x))) ∧ Below w.heap.size w w' := by
  have hl : (l.take k).length = k := by rw [List.length_take]; omega
  have := con125_126 (sameK x) (.pointer (some ⟨B, 0, none⟩)) A0 c0 (l.take k) w hr (by omega) (fun y _ wr hb => sameK_pred x y B wr (Nat.lt_of_lt_of_le hB hb.size) ((hb.cell (p := ⟨B, 0, none⟩) hB).trans h0) ((hb.cell (p := ⟨B, 1, none⟩) hB).trans h1))
  rw [hl] at this
  exact this
def impl_keptOk.f (b : List S45) (l : List S124) : Option Bool := some (decide (l.length ≤ 200) && allG (keptAt b l) l.length 0)
set_option maxHeartbeats 8000000 in
set_option maxRecDepth 100000 in
theorem impl_keptOk.calls (A0 : Option Addr) (c0 : Nat) (b : List S45) (A1 : Option Addr) (c1 : Nat) (l : List S124) (r : Bool) (w : World) (hr0 : Kd.C k45 w A0 b.length b) (hc0 : b.length ≤ c0) (hr1 : Kd.C k124 w A1 l.length l) (hc1 : l.length ≤ c1) (h : impl_keptOk.f b l = some r) :
    Calls Try.prog 99 #[.slice A0 b.length c0, .slice A1 l.length c1] w fun e w' => e = .returned (.bool r) ∧ Below w.heap.size w w' := by
  have hr := Option.some.inj h
  clear h
  have HR0 := Aside0.mk hr0
  have HC0 := Aside0.mk hc0
  have HR1 := Aside0.mk hr1
  have HC1 := Aside0.mk hc1
  have HB := Aside0.mk (Below.refl w.heap.size w)
  clear hr0 hc0 hr1 hc1
  by_cases c : l.length ≤ 200
  case neg =>
    rw [decide_eq_false c, Bool.false_and] at hr
    subst hr
    have d1 : decide (200 < (l.length : Int)) = true := decide_eq_true (by omega)
    have d2 : 200 < l.length := by omega
    go_enter Try.func99, Try.ntmps99
    go_wp2
    go_ret
    exact ⟨rfl, HB.out⟩
  rw [decide_eq_true c, Bool.true_and] at hr
  have d1 : decide (200 < (l.length : Int)) = false := decide_eq_false (by omega)
  have d2 : ¬ 200 < l.length := by omega
  have HRr := Aside0.mk hr
  clear hr
  obtain ⟨i0, hi0, _, hsz, _⟩ := info_parts info124
  go_enter Try.func99, Try.ntmps99
  go_wp2
  go_loopw [12] (fun v12 wr => ∃ k : Nat, v12 = .int .i64 (k : Int) ∧ Aside0 (k ≤ l.length) ∧ Aside0 (r = allG (keptAt b l) (l.length - k) k) ∧ Aside0 (Below w.heap.size w wr)) (fun v _ => l.length - (intOf v).toNat)
  case atStart => exact ⟨0, rfl, ⟨Nat.zero_le _⟩, ⟨HRr.out.symm⟩, HB⟩
  case round =>
    clear HB
    obtain ⟨k, rfl, HKL, HO, HB⟩ := hrel
    by_cases hlt : k < l.length
    · obtain ⟨ad, e, h0, h1, h2, h3, h4, h5, h6, h7, h8⟩ := at_T124 HR1.out (k : Int) (by omega) (by omega)
      rw [Int.toNat_natCast] at h0 h1 h2 h3 h4 h5 h6 h7 h8
      cases e
      replace h0 := (HB.out.cell (World.block_lt_of_cell? w _ h0)).trans h0
      replace h1 := (HB.out.cell (World.block_lt_of_cell? w _ h1)).trans h1
      replace h2 := (HB.out.cell (World.block_lt_of_cell? w _ h2)).trans h2
      replace h3 := (HB.out.cell (World.block_lt_of_cell? w _ h3)).trans h3
      replace h4 := (HB.out.cell (World.block_lt_of_cell? w _ h4)).trans h4
      replace h5 := (HB.out.cell (World.block_lt_of_cell? w _ h5)).trans h5
      replace h6 := (HB.out.cell (World.block_lt_of_cell? w _ h6)).trans h6
      replace h7 := (HB.out.cell (World.block_lt_of_cell? w _ h7)).trans h7
      replace h8 := (HB.out.cell (World.block_lt_of_cell? w _ h8)).trans h8
      have HRT := Aside0.mk (C_take HR1.out k (Nat.le_of_lt hlt))
      have hS : r = (keptAt b l k && allG (keptAt b l) (l.length - (k + 1)) (k + 1)) := by
        rw [HO.out, show l.length - k = l.length - (k + 1) + 1 by omega]; rfl
      have hka : keptAt b l k = (!decide (findL b (rd_T124 l (k : Int)).f0 < 0) && (placesB (rd_T124 l (k : Int)).f1 && !((l.take k).any (sameK (rd_T124 l (k : Int)))))) := rfl
      obtain ⟨x, hx⟩ : ∃ x, x = rd_T124 l (k : Int) := ⟨_, rfl⟩
      rw [← hx] at h0 h1 h2 h3 h4 h5 h6 h7 h8 hka
      clear hx
      obtain ⟨y, hy⟩ : ∃ y, y = findL b x.f0 := ⟨_, rfl⟩
      have hline : impl_lineOf.f b x.f0 = some y := by rw [hy]; rfl
      have A6 := Aside0.mk hline
      rw [← hy] at hka
      clear hline hy
      have k1 : (k : Int) < (l.length : Int) := by omega
      have k2 : decide ((k : Int) < (l.length : Int)) = true := decide_eq_true k1
      have hcut1 := cut_to (P := Try.prog) 69 124 .i64 Try.underlying69 hi0 (some ad) l.length c1 (k : Int) (by omega) (by omega) HC1.out
      rw [Int.toNat_natCast] at hcut1
      have HX := Aside0.mk (fun B => con_same x (some ad) c1 l k (Nat.le_of_lt hlt) HC1.out B)
      by_cases c1_ : y < 0
      · have q1 : decide (y < 0) = true := decide_eq_true c1_
        rw [q1] at hka
        have hrf : r = false := by rw [hS, hka]; rfl
        go_wp2_with (first | (go_at_call 79; (with_reducible refine (impl_lineOf.calls _ _ b x.f0 y _ ?side1 ?side2 A6.out).mono ?_); (case side1 => repeat (first | exact (Kd.C_below HR0.out HB.out) | (with_reducible refine Kd.C_alloc ?_ _) | (with_reducible refine Kd.C_drewN ?_ _) | (with_reducible refine Kd.C_drew ?_))); (case side2 => exact HC0.out); rintro e w11 ⟨rfl, hb⟩; have z0 : w11.cell? ⟨wr.heap.size, 0, none⟩ = some (.string x.f0) := (hb.cell (p := ⟨wr.heap.size, 0, none⟩) (by simp)).trans (by simp); have z1 : w11.cell? ⟨wr.heap.size, 1, none⟩ = some (.int .i64 x.f1) := (hb.cell (p := ⟨wr.heap.size, 1, none⟩) (by simp)).trans (by simp); have n1_ := Aside0.mk (below_step (by repeat (first | exact HB.out | apply below_alloc | apply pw_below_drewN | apply below_drew1)) hb); have HLT := Aside0.mk (show wr.heap.size < w11.heap.size from Nat.lt_of_lt_of_le (by simp) hb.size); clear HB; have HB := n1_; clear n1_ hb))
        go_ret
        exact ⟨by first | rfl | (rw [hrf]; rfl), HB.out⟩
      · have q1 : decide (y < 0) = false := decide_eq_false c1_
        rw [q1] at hka
        have hp := placesOk_eq x.f1
        cases cp : placesB x.f1 with
        | false =>
          rw [cp] at hp hka
          have A7 := Aside0.mk hp
          have hrf : r = false := by rw [hS, hka]; rfl
          go_wp2_with (first | (go_at_call 79; (with_reducible refine (impl_lineOf.calls _ _ b x.f0 y _ ?side1 ?side2 A6.out).mono ?_); (case side1 => repeat (first | exact (Kd.C_below HR0.out HB.out) | (with_reducible refine Kd.C_alloc ?_ _) | (with_reducible refine Kd.C_drewN ?_ _) | (with_reducible refine Kd.C_drew ?_))); (case side2 => exact HC0.out); rintro e w11 ⟨rfl, hb⟩; have z0 : w11.cell? ⟨wr.heap.size, 0, none⟩ = some (.string x.f0) := (hb.cell (p := ⟨wr.heap.size, 0, none⟩) (by simp)).trans (by simp); have z1 : w11.cell? ⟨wr.heap.size, 1, none⟩ = some (.int .i64 x.f1) := (hb.cell (p := ⟨wr.heap.size, 1, none⟩) (by simp)).trans (by simp); have n1_ := Aside0.mk (below_step (by repeat (first | exact HB.out | apply below_alloc | apply pw_below_drewN | apply below_drew1)) hb); have HLT := Aside0.mk (show wr.heap.size < w11.heap.size from Nat.lt_of_lt_of_le (by simp) hb.size); clear HB; have HB := n1_; clear n1_ hb) | (go_at_call 124; (with_reducible refine (impl_placesOk.calls x.f1 false _ A7.out).mono ?_); rintro e w13 ⟨rfl, ⟨nd, rfl⟩⟩))
          go_ret
          exact ⟨by first | rfl | (rw [hrf]; rfl), by repeat (first | exact HB.out | apply below_alloc | apply pw_below_drewN | apply below_drew1)⟩
        | true =>
          rw [cp] at hp hka
          have A7 := Aside0.mk hp
          cases ca : (l.take k).any (sameK x) with
          | true =>
            rw [ca] at hka HX
            have hrf : r = false := by rw [hS, hka]; rfl
            go_wp2_with (first | (go_at_call 79; (with_reducible refine (impl_lineOf.calls _ _ b x.f0 y _ ?side1 ?side2 A6.out).mono ?_); (case side1 => repeat (first | exact (Kd.C_below HR0.out HB.out) | (with_reducible refine Kd.C_alloc ?_ _) | (with_reducible refine Kd.C_drewN ?_ _) | (with_reducible refine Kd.C_drew ?_))); (case side2 => exact HC0.out); rintro e w11 ⟨rfl, hb⟩; have z0 : w11.cell? ⟨wr.heap.size, 0, none⟩ = some (.string x.f0) := (hb.cell (p := ⟨wr.heap.size, 0, none⟩) (by simp)).trans (by simp); have z1 : w11.cell? ⟨wr.heap.size, 1, none⟩ = some (.int .i64 x.f1) := (hb.cell (p := ⟨wr.heap.size, 1, none⟩) (by simp)).trans (by simp); have n1_ := Aside0.mk (below_step (by repeat (first | exact HB.out | apply below_alloc | apply pw_below_drewN | apply below_drew1)) hb); have HLT := Aside0.mk (show wr.heap.size < w11.heap.size from Nat.lt_of_lt_of_le (by simp) hb.size); clear HB; have HB := n1_; clear n1_ hb) | (go_at_call 124; (with_reducible refine (impl_placesOk.calls x.f1 true _ A7.out).mono ?_); rintro e w13 ⟨rfl, ⟨nd, rfl⟩⟩) | (go_at_call 125; (with_reducible refine (HX.out wr.heap.size _ ?q1 ?q2 ?q3 ?q4).mono ?_); (case q1 => repeat (first | exact (Kd.C_below HRT.out HB.out) | (with_reducible refine Kd.C_alloc ?_ _) | (with_reducible refine Kd.C_drewN ?_ _) | (with_reducible refine Kd.C_drew ?_))); (case q2 => exact HLT.out); (case q3 => exact z0); (case q4 => exact z1); rintro e w14 ⟨rfl, hb⟩; have HB2 := Aside0.mk (below_step (by repeat (first | exact HB.out | apply below_alloc | apply pw_below_drewN | apply below_drew1)) hb); clear hb))
            go_ret
            exact ⟨by first | rfl | (rw [hrf]; rfl), HB2.out⟩
          | false =>
            rw [ca] at hka HX
            have hrf : r = allG (keptAt b l) (l.length - (k + 1)) (k + 1) := by rw [hS, hka]; rfl
            have HRF := Aside0.mk hrf
            clear hrf hS
            go_wp2_with (first | (go_at_call 79; (with_reducible refine (impl_lineOf.calls _ _ b x.f0 y _ ?side1 ?side2 A6.out).mono ?_); (case side1 => repeat (first | exact (Kd.C_below HR0.out HB.out) | (with_reducible refine Kd.C_alloc ?_ _) | (with_reducible refine Kd.C_drewN ?_ _) | (with_reducible refine Kd.C_drew ?_))); (case side2 => exact HC0.out); rintro e w11 ⟨rfl, hb⟩; have z0 : w11.cell? ⟨wr.heap.size, 0, none⟩ = some (.string x.f0) := (hb.cell (p := ⟨wr.heap.size, 0, none⟩) (by simp)).trans (by simp); have z1 : w11.cell? ⟨wr.heap.size, 1, none⟩ = some (.int .i64 x.f1) := (hb.cell (p := ⟨wr.heap.size, 1, none⟩) (by simp)).trans (by simp); have n1_ := Aside0.mk (below_step (by repeat (first | exact HB.out | apply below_alloc | apply pw_below_drewN | apply below_drew1)) hb); have HLT := Aside0.mk (show wr.heap.size < w11.heap.size from Nat.lt_of_lt_of_le (by simp) hb.size); clear HB; have HB := n1_; clear n1_ hb) | (go_at_call 124; (with_reducible refine (impl_placesOk.calls x.f1 true _ A7.out).mono ?_); rintro e w13 ⟨rfl, ⟨nd, rfl⟩⟩) | (go_at_call 125; (with_reducible refine (HX.out wr.heap.size _ ?q1 ?q2 ?q3 ?q4).mono ?_); (case q1 => repeat (first | exact (Kd.C_below HRT.out HB.out) | (with_reducible refine Kd.C_alloc ?_ _) | (with_reducible refine Kd.C_drewN ?_ _) | (with_reducible refine Kd.C_drew ?_))); (case q2 => exact HLT.out); (case q3 => exact z0); (case q4 => exact z1); rintro e w14 ⟨rfl, hb⟩; have HB2 := Aside0.mk (below_step (by repeat (first | exact HB.out | apply below_alloc | apply pw_below_drewN | apply below_drew1)) hb); clear hb))
            go_roundw
            case rel => exact ⟨k + 1, by go_num, ⟨by omega⟩, HRF, HB2⟩
            case measure => simp [intOf]; omega
    · have hkl : k = l.length := by have := HKL.out; omega
      subst hkl
      have hrt : r = true := by rw [HO.out, Nat.sub_self]; rfl
      have k2 : decide ((l.length : Int) < (l.length : Int)) = false := decide_eq_false (by omega)
      go_wp2
      go_ret
      exact ⟨by first | rfl | (rw [hrt]; rfl), HB.out⟩
end Go.Proofs.Ytenhgmddpkiliaa.PB

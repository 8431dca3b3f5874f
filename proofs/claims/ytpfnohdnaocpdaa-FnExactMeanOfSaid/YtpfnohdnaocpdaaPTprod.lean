/- Tree.productive by hand: closures over a row of marks. -/
import Derived.Test.YtpfnohdnaocpdaaPTx3
import Derived.Test.YtpfnohdnaocpdaaPTx2
import Derived.Test.YtpfnohdnaocpdaaPTfound
import Derived.Test.YtpfnohdnaocpdaaIDX
import Derived.Shelf.Abstract
import Derived.Test.YtpfnohdnaocpdaaPTx0
namespace Go.Proofs.Ytpfnohdnaocpdaa.PT
open Go.RowKit Go.Proofs.YtpfnohdnaocpdaaW.PrintWords Go.Proofs.YtpfnohdnaocpdaaW.PrintLast Go.Proofs.YtpfnohdnaocpdaaW.PrintMore Go.Lib Go.Proofs.YtpfnohdnaocpdaaRP
set_option linter.unusedVariables false
set_option linter.unusedSimpArgs false

theorem not_141 (gd go co : Nat) (s : List Bool) (m : Int) (w : World) (h0 : w.cell? ⟨gd, 0, none⟩ = some (.slice (some ⟨go, 0, none⟩) s.length co)) (hs : Kd.C Kd.bool w (some ⟨go, 0, none⟩) s.length s) (m0 : 0 ≤ m) (m1 : m < s.length) :
    Calls Try.prog 141 #[.int .i16 m, .pointer (some ⟨gd, 0, none⟩)] w fun e w' => e = .returned (.bool (!rdOf false s m)) ∧ w' = w := by
  obtain ⟨ad, e, hb⟩ := Kd.at_bool hs m m0 m1
  cases e
  simp only [add_plain] at hb
  have t0 := eq_true m0
  have t1 := eq_true m1
  have d0 : decide (0 ≤ m) = true := decide_eq_true m0
  have d1 : decide (m < (s.length : Int)) = true := decide_eq_true m1
  go_enter Try.func141, Try.ntmps141
  go_wp2
  go_ret
  exact ⟨rfl, rfl⟩
theorem not_142 (gd go co : Nat) (s : List Bool) (m : Int) (w : World) (h0 : w.cell? ⟨gd, 0, none⟩ = some (.slice (some ⟨go, 0, none⟩) s.length co)) (hs : Kd.C Kd.bool w (some ⟨go, 0, none⟩) s.length s) (m0 : 0 ≤ m) (m1 : m < s.length) :
    Calls Try.prog 142 #[.int .i16 m, .pointer (some ⟨gd, 0, none⟩)] w fun e w' => e = .returned (.bool (!rdOf false s m)) ∧ w' = w := by
  obtain ⟨ad, e, hb⟩ := Kd.at_bool hs m m0 m1
  cases e
  simp only [add_plain] at hb
  have t0 := eq_true m0
  have t1 := eq_true m1
  have d0 : decide (0 ≤ m) = true := decide_eq_true m0
  have d1 : decide (m < (s.length : Int)) = true := decide_eq_true m1
  go_enter Try.func142, Try.ntmps142
  go_wp2
  go_ret
  exact ⟨rfl, rfl⟩
set_option maxHeartbeats 4000000 in
theorem idx156_141 (p : Int → Bool) (cap0_ : Value) (A0 : Option Addr) (c0 : Nat) (l0 : List Int) (w : World) (hr0 : Kd.C (Kd.int .i16) w A0 l0.length l0) (hc0 : l0.length ≤ c0)
    (hp : ∀ x ∈ l0, Calls Try.prog 141 #[.int .i16 x, cap0_] w fun e w' => e = .returned (.bool (p x)) ∧ w' = w) :
    Calls Try.prog 156 #[.slice A0 l0.length c0, .func (.func 141) #[] #[cap0_]] w fun e w' => e = .returned (.int .i64 (idxL p l0)) ∧ w' = w := by
  have HR := Aside0.mk hr0
  have hm : l0.length ≤ 9223372036854775807 := hr0.2.1
  clear hr0
  have eg : ∀ args w, (callFunc 141 args).run Try.prog w = .ok (.enter 141 args) w := enters_of Try.func141 (by kernel_rfl) rfl
  have HE := Aside0.mk eg
  have HPP := Aside0.mk hp
  clear eg hp
  obtain ⟨r, hr⟩ : ∃ r, r = idxL p l0 := ⟨_, rfl⟩
  rw [← hr]
  have HR1 := Aside0.mk hr
  clear hr
  go_enter Try.func156, Try.ntmps156
  go_wp2
  go_loopw [5, 8] (fun _ i wr => ∃ k : Nat, k ≤ l0.length ∧ i = .int .i64 k ∧ Aside0 (r = idxGo p (l0.drop k) k) ∧ Aside0 (wr = w)) (fun _ i _ => l0.length - (intOf i).toNat)
  case atStart => exact ⟨0, Nat.zero_le _, rfl, ⟨by rw [HR1.out]; rfl⟩, (by first | exact ⟨rfl⟩ | exact ⟨trivial⟩)⟩
  case round =>
    obtain ⟨k, hk, rfl, HO, HW⟩ := hrel
    have HW := HW.out
    subst HW
    by_cases hlt : k < l0.length
    · obtain ⟨ad, e, h0⟩ := Kd.at_int HR.out (k : Int) (by omega) (by omega)
      rw [Int.toNat_natCast] at h0
      cases e
      have hlt' : (k : Int) < (l0.length : Int) := by omega
      have hd := drop_int l0 k hlt
      have HS := Aside0.mk (HO.out.trans (by rw [hd]; rfl) : r = if p (rd l0 (k : Int)) = true then (k : Int) else idxGo p (l0.drop (k + 1)) (k + 1))
      have hp := HPP.out (rd l0 (k : Int)) (List.mem_of_mem_drop (i := k) (by rw [hd]; exact List.mem_cons_self))
      clear hd
      have HEk := HE.out
      generalize hq : p (rd l0 (k : Int)) = b at hp HS
      clear hq
      have HP := Aside0.mk hp
      clear hp
      cases b with
      | true =>
        go_wp2_with (go_at_fn 141; refine HP.out.mono ?_; rintro e w' ⟨rfl, rfl⟩)
        go_ret
        exact ⟨by rw [HS.out]; first | rfl | simp, rfl⟩
      | false =>
        go_wp2_with (go_at_fn 141; refine HP.out.mono ?_; rintro e w' ⟨rfl, rfl⟩)
        go_roundw
        case rel => exact ⟨k + 1, by omega, by go_num, ⟨by rw [HS.out]; first | rfl | simp⟩, (by first | exact ⟨rfl⟩ | exact ⟨trivial⟩)⟩
        case measure => simp [intOf]; omega
    · have : k = l0.length := by omega
      subst this
      go_wp2
      go_ret
      exact ⟨by rw [HO.out, List.drop_length]; rfl, rfl⟩
set_option maxHeartbeats 2000000 in
theorem con140_141 (p : Int → Bool) (cap0_ : Value) (A0 : Option Addr) (c0 : Nat) (l0 : List Int) (w : World) (hr0 : Kd.C (Kd.int .i16) w A0 l0.length l0) (hc0 : l0.length ≤ c0)
    (hp : ∀ x ∈ l0, Calls Try.prog 141 #[.int .i16 x, cap0_] w fun e w' => e = .returned (.bool (p x)) ∧ w' = w) :
    Calls Try.prog 140 #[.slice A0 l0.length c0, .func (.func 141) #[] #[cap0_]] w fun e w' => e = .returned (.bool (l0.any p)) ∧ w' = w := by
  have hx := idx156_141 p cap0_ A0 c0 l0 w hr0 hc0 hp
  have HX := Aside0.mk hx
  clear hx hr0 hp
  have HA := Aside0.mk (idxL_any p l0)
  generalize idxL p l0 = i at HX HA
  cases hb : l0.any p with
  | true =>
    rw [hb] at HA
    have h0 : 0 ≤ i := by have := HA.out; simpa using this
    go_enter Try.func140, Try.ntmps140
    go_wp2_with (go_at_call 156; refine HX.out.mono ?_; rintro e w' ⟨rfl, rfl⟩)
    go_ret
    exact ⟨by first | rfl | simp [h0], rfl⟩
  | false =>
    rw [hb] at HA
    have h0 : i < 0 := by have := HA.out; simpa using this
    have h1 : decide (0 ≤ i) = false := decide_eq_false (by omega)
    go_enter Try.func140, Try.ntmps140
    go_wp2_with (go_at_call 156; refine HX.out.mono ?_; rintro e w' ⟨rfl, rfl⟩)
    go_ret
    exact ⟨by first | rfl | simp [h0, h1], rfl⟩
set_option maxHeartbeats 4000000 in
theorem idx156_142 (p : Int → Bool) (cap0_ : Value) (A0 : Option Addr) (c0 : Nat) (l0 : List Int) (w : World) (hr0 : Kd.C (Kd.int .i16) w A0 l0.length l0) (hc0 : l0.length ≤ c0)
    (hp : ∀ x ∈ l0, Calls Try.prog 142 #[.int .i16 x, cap0_] w fun e w' => e = .returned (.bool (p x)) ∧ w' = w) :
    Calls Try.prog 156 #[.slice A0 l0.length c0, .func (.func 142) #[] #[cap0_]] w fun e w' => e = .returned (.int .i64 (idxL p l0)) ∧ w' = w := by
  have HR := Aside0.mk hr0
  have hm : l0.length ≤ 9223372036854775807 := hr0.2.1
  clear hr0
  have eg : ∀ args w, (callFunc 142 args).run Try.prog w = .ok (.enter 142 args) w := enters_of Try.func142 (by kernel_rfl) rfl
  have HE := Aside0.mk eg
  have HPP := Aside0.mk hp
  clear eg hp
  obtain ⟨r, hr⟩ : ∃ r, r = idxL p l0 := ⟨_, rfl⟩
  rw [← hr]
  have HR1 := Aside0.mk hr
  clear hr
  go_enter Try.func156, Try.ntmps156
  go_wp2
  go_loopw [5, 8] (fun _ i wr => ∃ k : Nat, k ≤ l0.length ∧ i = .int .i64 k ∧ Aside0 (r = idxGo p (l0.drop k) k) ∧ Aside0 (wr = w)) (fun _ i _ => l0.length - (intOf i).toNat)
  case atStart => exact ⟨0, Nat.zero_le _, rfl, ⟨by rw [HR1.out]; rfl⟩, (by first | exact ⟨rfl⟩ | exact ⟨trivial⟩)⟩
  case round =>
    obtain ⟨k, hk, rfl, HO, HW⟩ := hrel
    have HW := HW.out
    subst HW
    by_cases hlt : k < l0.length
    · obtain ⟨ad, e, h0⟩ := Kd.at_int HR.out (k : Int) (by omega) (by omega)
      rw [Int.toNat_natCast] at h0
      cases e
      have hlt' : (k : Int) < (l0.length : Int) := by omega
      have hd := drop_int l0 k hlt
      have HS := Aside0.mk (HO.out.trans (by rw [hd]; rfl) : r = if p (rd l0 (k : Int)) = true then (k : Int) else idxGo p (l0.drop (k + 1)) (k + 1))
      have hp := HPP.out (rd l0 (k : Int)) (List.mem_of_mem_drop (i := k) (by rw [hd]; exact List.mem_cons_self))
      clear hd
      have HEk := HE.out
      generalize hq : p (rd l0 (k : Int)) = b at hp HS
      clear hq
      have HP := Aside0.mk hp
      clear hp
      cases b with
      | true =>
        go_wp2_with (go_at_fn 142; refine HP.out.mono ?_; rintro e w' ⟨rfl, rfl⟩)
        go_ret
        exact ⟨by rw [HS.out]; first | rfl | simp, rfl⟩
      | false =>
        go_wp2_with (go_at_fn 142; refine HP.out.mono ?_; rintro e w' ⟨rfl, rfl⟩)
        go_roundw
        case rel => exact ⟨k + 1, by omega, by go_num, ⟨by rw [HS.out]; first | rfl | simp⟩, (by first | exact ⟨rfl⟩ | exact ⟨trivial⟩)⟩
        case measure => simp [intOf]; omega
    · have : k = l0.length := by omega
      subst this
      go_wp2
      go_ret
      exact ⟨by rw [HO.out, List.drop_length]; rfl, rfl⟩
set_option maxHeartbeats 2000000 in
theorem con140_142 (p : Int → Bool) (cap0_ : Value) (A0 : Option Addr) (c0 : Nat) (l0 : List Int) (w : World) (hr0 : Kd.C (Kd.int .i16) w A0 l0.length l0) (hc0 : l0.length ≤ c0)
    (hp : ∀ x ∈ l0, Calls Try.prog 142 #[.int .i16 x, cap0_] w fun e w' => e = .returned (.bool (p x)) ∧ w' = w) :
    Calls Try.prog 140 #[.slice A0 l0.length c0, .func (.func 142) #[] #[cap0_]] w fun e w' => e = .returned (.bool (l0.any p)) ∧ w' = w := by
  have hx := idx156_142 p cap0_ A0 c0 l0 w hr0 hc0 hp
  have HX := Aside0.mk hx
  clear hx hr0 hp
  have HA := Aside0.mk (idxL_any p l0)
  generalize idxL p l0 = i at HX HA
  cases hb : l0.any p with
  | true =>
    rw [hb] at HA
    have h0 : 0 ≤ i := by have := HA.out; simpa using this
    go_enter Try.func140, Try.ntmps140
    go_wp2_with (go_at_call 156; refine HX.out.mono ?_; rintro e w' ⟨rfl, rfl⟩)
    go_ret
    exact ⟨by first | rfl | simp [h0], rfl⟩
  | false =>
    rw [hb] at HA
    have h0 : i < 0 := by have := HA.out; simpa using this
    have h1 : decide (0 ≤ i) = false := decide_eq_false (by omega)
    go_enter Try.func140, Try.ntmps140
    go_wp2_with (go_at_call 156; refine HX.out.mono ?_; rintro e w' ⟨rfl, rfl⟩)
    go_ret
    exact ⟨by first | rfl | simp [h0, h1], rfl⟩
/-! ### facts of the reference's loops -/
def Rn (l : List S89) (a : Int) : Prop := 0 ≤ a ∧ a < (l.length : Int)
theorem okT_ways {l : List S89} (h : okT l = true) (i : Int) (hi : Rn l i) : ∀ a ∈ waysL (rd_T89 l i), Rn l a := by
  obtain ⟨_, h0, h1, h2⟩ := okT_rd h i hi.1 hi.2
  intro a ha
  unfold waysL at ha
  split at ha
  · simp only [List.mem_singleton] at ha; subst ha; exact h0
  · simp only [List.mem_cons, List.not_mem_nil, or_false] at ha
    rcases ha with rfl | rfl | rfl
    · exact h0
    · exact h1
    · exact h2
theorem rdI_mem {l : List Int} {j : Nat} (h : j < l.length) : rd l (j : Int) ∈ l := by
  have : rd l (j : Int) = l[j] := by simp [rd, List.getD, h]
  rw [this]; exact List.getElem_mem h
theorem reached_inv (l : List S89) (hk : okT l = true) (R : List Int) : ∀ k, (∀ o s i, (∀ a ∈ o, Rn l a) → spec_l06Reached.l0 k [⟨l⟩] o s i = some R → (∀ a ∈ R, Rn l a) ∧ o <+: R) ∧ (∀ o s i x (j : Nat), (∀ a ∈ o, Rn l a) → (x.f0 = 1 ∨ x.f0 = 2) → (∀ a ∈ waysL x, Rn l a) → spec_l06Reached.l1 k [⟨l⟩] o s i [x] (j : Int) = some R → (∀ a ∈ R, Rn l a) ∧ o <+: R) := by
  intro k
  induction k with
  | zero => exact ⟨fun o s i _ h => absurd h (by simp [spec_l06Reached.l0]), fun o s i x j _ _ _ h => absurd h (by simp [spec_l06Reached.l1])⟩
  | succ k ih =>
    constructor
    · intro o s i ho h
      rw [reached_l0] at h
      by_cases c1 : i < (o.length : Int)
      · rw [if_pos c1] at h
        by_cases c2 : 0 ≤ i
        case neg => rw [if_neg c2] at h; exact absurd h (by simp)
        rw [if_pos c2] at h
        by_cases c3 : 0 ≤ rd o i
        case neg => rw [if_neg c3] at h; exact absurd h (by simp)
        rw [if_pos c3] at h
        by_cases c4 : rd o i < l.length
        case neg => rw [if_neg c4] at h; exact absurd h (by simp)
        rw [if_pos c4] at h
        exact ih.2 o s i _ 0 ho (okT_rd hk _ c3 c4).1 (okT_ways hk _ ⟨c3, c4⟩) h
      · rw [if_neg c1] at h
        obtain rfl := Option.some.inj h
        exact ⟨ho, List.prefix_refl _⟩
    · intro o s i x j ho hx hw h
      rw [reached_l1 _ _ _ _ _ _ _ hx] at h
      by_cases c1 : (j : Int) < (waysL x).length
      · rw [if_pos c1] at h
        have hm := hw _ (rdI_mem (l := waysL x) (j := j) (by omega))
        generalize rd (waysL x) (j : Int) = m at h hm
        rw [if_pos hm.1] at h
        by_cases c3 : m < s.length
        case neg => rw [if_neg c3] at h; exact absurd h (by simp)
        rw [if_pos c3] at h
        by_cases c5 : rdOf false s m = true
        · rw [if_pos c5] at h
          exact ih.2 o s i x (j + 1) ho hx hw h
        · rw [if_neg c5] at h
          by_cases c6 : o.length < 70368744177664
          case neg => rw [if_neg c6] at h; exact absurd h (by simp)
          rw [if_pos c6] at h
          have h2 := ih.2 (o ++ [m]) _ i x (j + 1) (fun a ha => by
            rcases List.mem_append.1 ha with h | h
            · exact ho a h
            · rw [List.mem_singleton.1 h]; exact hm) hx hw h
          exact ⟨h2.1, List.IsPrefix.trans (List.prefix_append _ _) h2.2⟩
      · rw [if_neg c1] at h
        exact ih.1 o s _ ho h
theorem reached_R {l : List S89} (hk : okT l = true) {k : Nat} {R : List Int} (h : spec_l06Reached.f k [⟨l⟩] = some R) : (∀ a ∈ R, Rn l a) ∧ ∃ t, R = 0 :: t := by
  rw [reached_f] at h
  by_cases c1 : l.length ≤ 281474976710656
  case neg => rw [if_neg c1] at h; exact absurd h (by simp)
  rw [if_pos c1] at h
  by_cases c2 : 0 < l.length
  case neg => rw [if_neg c2] at h; exact absurd h (by simp)
  rw [if_pos c2] at h
  obtain ⟨h1, t, h2⟩ := (reached_inv l hk R k).1 [0] _ 0 (fun a ha => by rw [List.mem_singleton.1 ha]; exact ⟨Int.le_refl _, by omega⟩) h
  exact ⟨h1, t, h2.symm⟩
def nodeB (x : S89) (g : List Bool) : Bool := x.f0 == 2 || !((waysL x).any fun n => !rdOf false g n)
theorem prod_f (k : Nat) (l : List S89) : spec_l06Productive.f k [⟨l⟩] = (spec_l06Reached.f k [⟨l⟩]).bind fun R => if l.length ≤ 281474976710656 then spec_l06Productive.l0 k [⟨l⟩] R (List.replicate l.length false) 0 else none := by
  have e : rd_T34 [⟨l⟩] 0 = (⟨l⟩ : S34) := rfl
  unfold spec_l06Productive.f
  have h1 : (0 : Int) < (([⟨l⟩] : List S34).length : Int) := by simp
  have h2 : (0 : Int) ≤ (l.length : Int) := by omega
  simp only [e, if_pos h1, if_pos h2, Int.toNat_natCast]
theorem prod_l0 (k : Nat) (l : List S89) (R : List Int) (g : List Bool) (t : Int) : spec_l06Productive.l0 (k + 1) [⟨l⟩] R g t = if t < R.length then spec_l06Productive.l1 k [⟨l⟩] R g t 0 else spec_l06Productive.l3 k R g 0 := by simp only [spec_l06Productive.l0]
theorem prod_l2_3 (k : Nat) (l : List S89) (R : List Int) (g : List Bool) (t i : Int) (x : S89) (b : Bool) : spec_l06Productive.l2 (k + 1) [⟨l⟩] R g t i [x] b 3 = if 0 ≤ i then (if i < R.length then (if 0 ≤ rd R i then (if rd R i < g.length then spec_l06Productive.l1 k [⟨l⟩] R (g.set (rd R i).toNat b) t (wrap64 (i + 1)) else none) else none) else none) else none := by
  simp only [spec_l06Productive.l2]
  rw [if_neg (by omega)]
theorem prod_l2_2 (k : Nat) (l : List S89) (R : List Int) (g : List Bool) (t i : Int) (x : S89) (b : Bool) (hx : ¬ x.f0 = 1) : spec_l06Productive.l2 (k + 1) [⟨l⟩] R g t i [x] b 0 = if 0 ≤ i then (if i < R.length then (if 0 ≤ rd R i then (if rd R i < g.length then spec_l06Productive.l1 k [⟨l⟩] R (g.set (rd R i).toNat b) t (wrap64 (i + 1)) else none) else none) else none) else none := by
  have e : rd_T89 [x] 0 = x := rfl
  simp only [spec_l06Productive.l2, e]
  rw [if_pos (by omega), if_pos (by simp), if_neg hx]
theorem prod_l2_s (k : Nat) (l : List S89) (R : List Int) (g : List Bool) (t i : Int) (x : S89) (b : Bool) (hx : x.f0 = 1) (j m : Int) (j0 : 0 ≤ j) (j1 : j < 3) (hm : rd [x.f2.f0, x.f2.f1, x.f2.f2] j = m) (m0 : 0 ≤ m) (m1 : m < g.length) : spec_l06Productive.l2 (k + 1) [⟨l⟩] R g t i [x] b j = spec_l06Productive.l2 k [⟨l⟩] R g t i [x] (b && rdOf false g m) (wrap64 (j + 1)) := by
  have e : rd_T89 [x] 0 = x := rfl
  simp only [spec_l06Productive.l2, e]
  rw [if_pos j1, if_pos (by simp), if_pos hx, hm]
  cases b
  · rw [if_neg (by simp)]; rfl
  · rw [if_pos rfl, if_pos j0, if_pos m0, if_pos m1]; rfl
theorem nodeB_1 (x : S89) (g : List Bool) (hx : x.f0 = 1) : nodeB x g = (((true && rdOf false g x.f2.f0) && rdOf false g x.f2.f1) && rdOf false g x.f2.f2) := by
  unfold nodeB
  rw [ways_1 x hx]
  have : (x.f0 == 2) = false := by rw [hx]; rfl
  rw [this]
  simp only [List.any_cons, List.any_nil]
  cases rdOf false g x.f2.f0 <;> cases rdOf false g x.f2.f1 <;> cases rdOf false g x.f2.f2 <;> rfl
theorem nodeB_2 (x : S89) (g : List Bool) (hx : x.f0 = 2) : nodeB x g = true := by
  unfold nodeB
  rw [hx]; rfl
theorem prod_l1 (l : List S89) (hk : okT l = true) (R : List Int) (g : List Bool) (hg : l.length = g.length) (t : Int) (i : Nat) (hi : i < R.length) (hR : R.length ≤ 9223372036854775807) {r : Bool} {k : Nat} (hr : Rn l (rd R (i : Int))) (h : spec_l06Productive.l1 k [⟨l⟩] R g t (i : Int) = some r) :
    ∃ k', k' < k ∧ spec_l06Productive.l1 k' [⟨l⟩] R (g.set (rd R (i : Int)).toNat (nodeB (rd_T89 l (rd R (i : Int))) g)) t ((i + 1 : Nat) : Int) = some r := by
  have e : rd_T34 [⟨l⟩] 0 = (⟨l⟩ : S34) := rfl
  have hw : wrap64 ((i : Int) + 1) = ((i + 1 : Nat) : Int) := by unfold wrap64; omega
  cases k with
  | zero => exact absurd h (by simp [spec_l06Productive.l1])
  | succ k =>
    simp only [spec_l06Productive.l1, e] at h
    rw [if_pos (by omega), if_pos (by simp), if_pos (by omega), if_pos hr.1, if_pos hr.2] at h
    obtain ⟨hkd, h0, h1, h2⟩ := okT_rd hk _ hr.1 hr.2
    generalize rd_T89 l (rd R (i : Int)) = x at h hkd h0 h1 h2 ⊢
    cases k with
    | zero => exact absurd h (by simp [spec_l06Productive.l2])
    | succ k =>
      rcases hkd with hx | hx
      · rw [prod_l2_s k l R g t i x true hx 0 x.f2.f0 (by omega) (by omega) rfl h0.1 (by omega), show wrap64 (0 + 1) = 1 by unfold wrap64; omega] at h
        cases k with
        | zero => exact absurd h (by simp [spec_l06Productive.l2])
        | succ k =>
          rw [prod_l2_s k l R g t i x _ hx 1 x.f2.f1 (by omega) (by omega) rfl h1.1 (by omega), show wrap64 (1 + 1) = 2 by unfold wrap64; omega] at h
          cases k with
          | zero => exact absurd h (by simp [spec_l06Productive.l2])
          | succ k =>
            rw [prod_l2_s k l R g t i x _ hx 2 x.f2.f2 (by omega) (by omega) rfl h2.1 (by omega), show wrap64 (2 + 1) = 3 by unfold wrap64; omega] at h
            cases k with
            | zero => exact absurd h (by simp [spec_l06Productive.l2])
            | succ k =>
              rw [prod_l2_3, if_pos (by omega), if_pos (by omega), if_pos hr.1, if_pos (by have := hr.2; omega), hw, ← nodeB_1 x g hx] at h
              exact ⟨k, by omega, h⟩
      · rw [prod_l2_2 k l R g t i x true (by omega), if_pos (by omega), if_pos (by omega), if_pos hr.1, if_pos (by have := hr.2; omega), hw, ← nodeB_2 x g hx] at h
        exact ⟨k, by omega, h⟩
theorem prod_l1_end (l : List S89) (R : List Int) (g : List Bool) (t i : Int) (hi : ¬ i < R.length) {r : Bool} {k : Nat} (h : spec_l06Productive.l1 k [⟨l⟩] R g t i = some r) : ∃ k', k' < k ∧ spec_l06Productive.l0 k' [⟨l⟩] R g (wrap64 (t + 1)) = some r := by
  cases k with
  | zero => exact absurd h (by simp [spec_l06Productive.l1])
  | succ k =>
    simp only [spec_l06Productive.l1] at h
    rw [if_neg hi] at h
    exact ⟨k, by omega, h⟩
theorem prod_l3 (R : List Int) (hR : R.length ≤ 9223372036854775807) (g : List Bool) (r : Bool) : ∀ (k i : Nat), i ≤ R.length → spec_l06Productive.l3 k R g (i : Int) = some r → r = (R.drop i).all fun n => rdOf false g n := by
  intro k
  induction k with
  | zero => intro i _ h; exact absurd h (by simp [spec_l06Productive.l3])
  | succ k ih =>
    intro i hi h
    simp only [spec_l06Productive.l3] at h
    by_cases c1 : (i : Int) < R.length
    · rw [if_pos c1, if_pos (by omega)] at h
      by_cases c2 : 0 ≤ rd R (i : Int)
      case neg => rw [if_neg c2] at h; exact absurd h (by simp)
      rw [if_pos c2] at h
      by_cases c3 : rd R (i : Int) < g.length
      case neg => rw [if_neg c3] at h; exact absurd h (by simp)
      rw [if_pos c3] at h
      have hd := drop_int R i (by omega)
      rw [hd, List.all_cons]
      by_cases c4 : rdOf false g (rd R (i : Int)) = true
      · rw [if_pos c4, show wrap64 ((i : Int) + 1) = ((i + 1 : Nat) : Int) by unfold wrap64; omega] at h
        rw [c4, Bool.true_and]
        exact ih (i + 1) (by omega) h
      · rw [if_neg c4] at h
        rw [Bool.eq_false_iff.mpr c4, Bool.false_and]
        exact (Option.some.inj h).symm
    · rw [if_neg c1] at h
      rw [List.drop_of_length_le (by omega)]
      exact (Option.some.inj h).symm
theorem all_not (R : List Int) (g : List Bool) : (R.all fun n => rdOf false g n) = !(R.any fun n => !rdOf false g n) := by
  induction R with
  | nil => rfl
  | cons x R ih => rw [List.all_cons, List.any_cons, ih]; cases rdOf false g x <;> rfl
theorem con_141_d (gd go co c : Nat) (s : List Bool) (A : Option Addr) (ws : List Int) (W : World) (hw : Kd.C (Kd.int .i16) W A ws.length ws) (hc : ws.length ≤ c) (h0 : W.cell? ⟨gd, 0, none⟩ = some (.slice (some ⟨go, 0, none⟩) s.length co)) (hs : Kd.C Kd.bool W (some ⟨go, 0, none⟩) s.length s) (hr : ∀ n ∈ ws, 0 ≤ n ∧ n < (s.length : Int)) :
    Calls Try.prog 140 #[.slice A ws.length c, .func (.func 141) #[] #[.pointer (some ⟨gd, 0, none⟩)]] W fun e w' => e = .returned (.bool (ws.any fun n => !rdOf false s n)) ∧ Drawn0 W w' := by
  refine (con140_141 (fun n => !rdOf false s n) (.pointer (some ⟨gd, 0, none⟩)) A c ws W hw hc (fun n hn => not_141 gd go co s n W h0 hs (hr n hn).1 (hr n hn).2)).mono ?_
  rintro e w' ⟨rfl, rfl⟩
  exact ⟨rfl, Drawn0.refl _⟩
theorem con_142_d (gd go co c : Nat) (s : List Bool) (A : Option Addr) (ws : List Int) (W : World) (hw : Kd.C (Kd.int .i16) W A ws.length ws) (hc : ws.length ≤ c) (h0 : W.cell? ⟨gd, 0, none⟩ = some (.slice (some ⟨go, 0, none⟩) s.length co)) (hs : Kd.C Kd.bool W (some ⟨go, 0, none⟩) s.length s) (hr : ∀ n ∈ ws, 0 ≤ n ∧ n < (s.length : Int)) :
    Calls Try.prog 140 #[.slice A ws.length c, .func (.func 142) #[] #[.pointer (some ⟨gd, 0, none⟩)]] W fun e w' => e = .returned (.bool (ws.any fun n => !rdOf false s n)) ∧ w' = W :=
  con140_142 (fun n => !rdOf false s n) (.pointer (some ⟨gd, 0, none⟩)) A c ws W hw hc (fun n hn => not_142 gd go co s n W h0 hs (hr n hn).1 (hr n hn).2)
theorem con_141_s (gd go co c : Nat) (s : List Bool) (A : Option Addr) (ws : List Int) (W : World) (hw : Kd.C (Kd.int .i16) W A ws.length ws) (hc : ws.length ≤ c) (h0 : W.cell? ⟨gd, 0, none⟩ = some (.slice (some ⟨go, 0, none⟩) s.length co)) (hs : Kd.C Kd.bool W (some ⟨go, 0, none⟩) s.length s) (hr : ∀ n ∈ ws, 0 ≤ n ∧ n < (s.length : Int)) :
    Calls Try.prog 140 #[.slice A ws.length c, .func (.func 141) #[] #[.pointer (some ⟨gd, 0, none⟩)]] W fun e w' => e = .returned (.bool (ws.any fun n => !rdOf false s n)) ∧ w' = W :=
  con140_141 (fun n => !rdOf false s n) (.pointer (some ⟨gd, 0, none⟩)) A c ws W hw hc (fun n hn => not_141 gd go co s n W h0 hs (hr n hn).1 (hr n hn).2)
def impl_productive.f (k : Nat) (l : List S89) : Option Bool := if okT l = true then spec_l06Productive.f k [⟨l⟩] else none
theorem impl_productive.mono : ∀ a k, LeO (impl_productive.f k a) (impl_productive.f (k + 1) a) := fun a k => by
  unfold impl_productive.f
  exact LeO.ite (spec_l06Productive.mono _ _) (LeO.refl _)
set_option maxHeartbeats 8000000 in
set_option maxRecDepth 100000 in
theorem impl_productive.calls (k : Nat) (A0 : Option Addr) (c0 : Nat) (l : List S89) (r : Bool) (w : World) (hr0 : Kd.C k89 w A0 l.length l) (hc0 : l.length ≤ c0) (h : impl_productive.f k l = some r) :
    Calls Try.prog 102 #[.agg #[.slice A0 l.length c0]] w fun e w' => e = .returned (.bool r) ∧ Below w.heap.size w w' := by
  unfold impl_productive.f at h
  by_cases hk : okT l = true
  case neg => rw [if_neg hk] at h; exact absurd h (by simp)
  rw [if_pos hk, prod_f] at h
  obtain ⟨R, hR, h⟩ := Option.bind_eq_some_iff.mp h
  have hf : impl_found.f k l = some R := by unfold impl_found.f; rw [if_pos hk]; exact hR
  obtain ⟨hrn, tl, hcons⟩ := reached_R hk hR
  by_cases h1 : l.length ≤ 281474976710656
  case neg => rw [if_neg h1] at h; exact absurd h (by simp)
  rw [if_pos h1] at h
  obtain ⟨y, hy⟩ : ∃ y, y = List.replicate l.length false := ⟨_, rfl⟩
  rw [← hy] at h
  have hyl : y.length = l.length := by rw [hy, List.length_replicate]
  have h2 : 0 < l.length := by have := hrn 0 (by rw [hcons]; simp); have := this.2; omega
  have H' := Aside0.mk h
  have HK := Aside0.mk hk
  have AF := Aside0.mk hf
  have HRN := Aside0.mk hrn
  have HCN : Aside0 (∃ t, R = 0 :: t) := ⟨⟨tl, hcons⟩⟩
  have LM := Aside0.mk h1
  have LP := Aside0.mk h2
  have Ny := Aside0.mk hy
  have YL := Aside0.mk hyl
  clear h hk h1 h2 hy hyl hf hrn hcons hR
  have HR0 := Aside0.mk hr0
  have HC0 := Aside0.mk hc0
  clear hr0 hc0
  go_enter Try.func102, Try.ntmps102
  go_upto_region 1 with (fail)
  generalize hw1 : World.alloc w _ = w1
  have hbx1 : w1.cell? ⟨w.heap.size, 0, none⟩ = some (.slice A0 l.length c0) := by rw [← hw1]; simp
  have hgx : w.heap.size < w1.heap.size := by rw [← hw1]; simp
  have hbw : Below w.heap.size w w1 := by rw [← hw1]; exact below_alloc (Below.refl _ _) _
  have n0_ := Aside0.mk (show Kd.C k89 w1 A0 l.length l from by rw [← hw1]; exact Kd.C_alloc HR0.out _)
  clear HR0 hw1
  have HR0 := n0_
  clear n0_
  have HBX := Aside0.mk hbx1
  have HGX := Aside0.mk hgx
  have HBW := Aside0.mk hbw
  clear hbx1 hgx hbw
  have HB := Aside0.mk (Below.refl w1.heap.size w1)
  have hbx := HBX.out
  have q78 : (0 : Int) ≤ (l.length : Int) := by omega
  go_upto_region 3 with (first | (go_at_call 139; (with_reducible refine (impl_found.calls k A0 c0 l R _ ?s1 ?s2 AF.out).mono ?_); (case s1 => repeat (first | exact (Kd.C_below HR0.out HB.out) | (with_reducible refine Kd.C_alloc ?_ _) | (with_reducible refine Kd.C_drewN ?_ _) | (with_reducible refine Kd.C_drew ?_))); (case s2 => exact HC0.out); rintro e w7 ⟨v, rfl, ho, hb⟩; have n0_ := Aside0.mk (Kd.R_lower ho (below_size (by repeat (first | exact HB.out | apply below_alloc | apply pw_below_drewN | apply below_drew1)))); have n1_ := Aside0.mk (below_step (by repeat (first | exact HB.out | apply below_alloc | apply pw_below_drewN | apply below_drew1)) hb); clear HB; have HO_3 := n0_; have HB := n1_; clear n0_ n1_ hb ho; obtain ⟨AR, cR, eR⟩ := Kd.R_slice HO_3.out; subst eR; have hbx := (HB.out.cell (p := ⟨w.heap.size, 0, none⟩) HGX.out).trans HBX.out) | ((with_reducible refine gate_dst (N := 13) rfl ?_); refine Kd.R_make Kd.bool _ 4 rfl (N := 13) rfl 190 _ _ rfl (l.length : Int) rfl rfl Try.underlying190 (.bool false) 1 info4 rfl (by decide) (by omega) false (ok := fun _ => True) (okp := fun _ => True) rfl (fun _ hk => hk) trivial (by omega) (by have := LM.out; omega) (Below.refl _ _) (Nat.le_refl _) ?_; intro v177 w9 ho10 hb hg_ hnew_; clear hg_ hnew_; rw [Int.toNat_natCast, ← Ny.out] at ho10; have n0_ := Aside0.mk (Kd.R_lower ho10 (below_size (by repeat (first | exact HB.out | apply below_alloc | apply pw_below_drewN | apply below_drew1)))); have n1_ := Aside0.mk (Kd.R_below (by (with_reducible repeat (first | apply Kd.R_alloc | apply Kd.R_drewN | apply Kd.R_drew)); exact HO_3.out) hb); have n2_ := Aside0.mk (below_step (by repeat (first | exact HB.out | apply below_alloc | apply pw_below_drewN | apply below_drew1)) hb); clear HB HO_3; have HO_4 := n0_; have HO_3 := n1_; have HB := n2_; clear n0_ n1_ n2_; clear hb ho10 hbx; obtain ⟨go6, co6, eo6, gb6, gl6, cl6, HG6⟩ := Kd.R_form HO_4.out (by have := LP.out; have := YL.out; omega); (first | cases eo6 | (injection eo6 with ea_ en_ ec_; (first | subst ea_ | (injection ea_ with ea_; subst ea_)); subst ec_; clear en_)); have GB6 := Aside0.mk gb6; have GL6 := Aside0.mk gl6; clear gb6 gl6 HG6))
  have hne : w9.heap.size ≠ go6 := by have := GL6.out; omega
  generalize hw2 : World.alloc w9 _ = w2
  have hcd : w2.cell? ⟨w9.heap.size, 0, none⟩ = some (.slice (some ⟨go6, 0, none⟩) y.length co6) := by rw [← hw2]; simp
  have n0_ := Aside0.mk (show Kd.R (Kd.int .i16) 85 w2 w1.heap.size (fun _ => True) (.slice AR R.length cR) R from by rw [← hw2]; (with_reducible apply Kd.R_alloc); exact HO_3.out)
  have n1_ := Aside0.mk (show Kd.R Kd.bool 4 w2 w1.heap.size (fun _ => True) (.slice (some ⟨go6, 0, none⟩) y.length co6) y from by rw [← hw2]; (with_reducible apply Kd.R_alloc); exact HO_4.out)
  have n2_ := Aside0.mk (show Below w1.heap.size w1 w2 from by rw [← hw2]; exact below_alloc HB.out _)
  clear HO_3 HO_4 HB hw2 hbx GL6
  have HO_3 := n0_
  have HO_4 := n1_
  have HB := n2_
  clear n0_ n1_ n2_
  rw [YL.out] at hcd HO_4
  obtain ⟨adL, eL, _⟩ := at_T89 HR0.out 0 (by omega) (by have := LP.out; omega)
  cases eL
  generalize w9.heap.size = gd at hcd hne ⊢
  go_wp2
  go_loopg [16] k (fun kq v16 w' => ∃ (t : Nat) (g : List Bool), v16 = .int .i64 (t : Int) ∧ Aside0 (spec_l06Productive.l0 kq [⟨l⟩] R g (t : Int) = some r) ∧ Aside0 (kq ≤ k) ∧ Aside0 (Kd.R (Kd.int .i16) 85 w' w1.heap.size (fun _ => True) (.slice AR R.length cR) R) ∧ Aside0 (Kd.R Kd.bool 4 w' w1.heap.size (fun _ => True) (.slice (some ⟨go6, 0, none⟩) l.length co6) g) ∧ Aside0 (w'.cell? ⟨gd, 0, none⟩ = some (.slice (some ⟨go6, 0, none⟩) l.length co6)) ∧ Aside0 (Below w1.heap.size w1 w'))
  case atStart => exact ⟨0, y, rfl, H', ⟨Nat.le_refl _⟩, HO_3, HO_4, ⟨hcd⟩, HB⟩
  case round =>
    clear H' HB HO_3 HO_4 hcd
    obtain ⟨t, g, rfl, HA, HK1, HO_3, HO_4, HCD, HB⟩ := hrel
    have HRL := Aside0.mk (show R.length ≤ 9223372036854775807 from (Kd.R_reads' HO_3.out).2.2.2.1)
    cases gk with
    | zero => exact absurd HA.out (by simp [spec_l06Productive.l0])
    | succ k1 =>
      have H := HA.out
      clear HA
      rw [prod_l0] at H
      by_cases c1 : (t : Int) < (R.length : Int)
      · rw [if_pos c1] at H
        have H' := Aside0.mk H
        clear H
        have d1 : decide ((t : Int) < (R.length : Int)) = true := decide_eq_true c1
        have c1n : t < R.length := by omega
        have LT := Aside0.mk c1
        go_wp2
        clear c1 c1n
        go_loopg [20] k1 (fun kq v20 w' => ∃ (i : Nat) (g' : List Bool), v20 = .int .i64 (i : Int) ∧ Aside0 (i ≤ R.length) ∧ Aside0 (spec_l06Productive.l1 kq [⟨l⟩] R g' (t : Int) (i : Int) = some r) ∧ Aside0 (kq ≤ k1) ∧ Aside0 (Kd.R (Kd.int .i16) 85 w' w1.heap.size (fun _ => True) (.slice AR R.length cR) R) ∧ Aside0 (Kd.R Kd.bool 4 w' w1.heap.size (fun _ => True) (.slice (some ⟨go6, 0, none⟩) l.length co6) g') ∧ Aside0 (w'.cell? ⟨gd, 0, none⟩ = some (.slice (some ⟨go6, 0, none⟩) l.length co6)) ∧ Aside0 (Below w1.heap.size w1 w'))
        case atStart => exact ⟨0, g, rfl, ⟨Nat.zero_le _⟩, H', ⟨Nat.le_refl _⟩, HO_3, HO_4, HCD, HB⟩
        case round =>
          clear H' HB HO_3 HO_4 HCD
          (try clear d1)
          obtain ⟨i, g', rfl, HI, HA, HK2, HO_3, HO_4, HCD, HB⟩ := hrel
          have HL := Aside0.mk (Kd.R_reads' HO_4.out).1
          have hRL := HRL.out
          by_cases c2 : (i : Int) < (R.length : Int)
          · obtain ⟨m, hm⟩ : ∃ m, m = rd R (i : Int) := ⟨_, rfl⟩
            have hmn : Rn l m := by rw [hm]; exact HRN.out _ (rdI_mem (by omega))
            obtain ⟨k', hk', H⟩ := prod_l1 l HK.out R g' HL.out (t : Int) i (by omega) HRL.out (by rw [← hm]; exact hmn) HA.out
            rw [← hm] at H
            have H' := Aside0.mk H
            clear H HA
            obtain ⟨adw, ew, hxw⟩ := Kd.at_int (Kd.R_reads' HO_3.out).2.2 (i : Int) (by omega) c2
            cases ew
            rw [← hm, Int.toNat_natCast] at hxw
            clear hm
            have c3 := hmn.1
            have c4 := hmn.2
            have HRX := Aside0.mk (show Kd.C k89 w1 (some (Addr.add adL (m.toNat * 5))) [rd_T89 l m].length [rd_T89 l m] from Kd.C_el k89 z89 HR0.out m c3 c4)
            have hko := okT_rd HK.out m c3 c4
            have HRG := Aside0.mk (okT_ways HK.out m hmn)
            obtain ⟨x, hx⟩ : ∃ x, x = rd_T89 l m := ⟨_, rfl⟩
            rw [← hx] at H' HRX HRG hko
            clear hx
            obtain ⟨adx, ex, hx0, _⟩ := rp_T89 HRX.out (by simp)
            cases ex
            rw [rd1_T89] at hx0
            replace hx0 := (HB.out.cell (World.block_lt_of_cell? w1 _ hx0)).trans hx0
            have HRW := Aside0.mk (waysR w1 (Addr.add adL (m.toNat * 5)) x HRX.out)
            have hbx := (HB.out.cell (p := ⟨w.heap.size, 0, none⟩) HGX.out).trans HBX.out
            have hcd := HCD.out
            have d1 : decide ((i : Int) < (R.length : Int)) = true := decide_eq_true c2
            have c2n : i < R.length := by omega
            have t3 := eq_true c3
            have t4 := eq_true c4
            have d3 : decide (0 ≤ m) = true := decide_eq_true c3
            have d4 : decide (m < (l.length : Int)) = true := decide_eq_true c4
            by_cases hx2 : x.f0 = 2
            · rw [nodeB_2 x g' hx2] at H'
              rw [hx2] at hx0
              go_wp2
              have hcl := Kd.R_celln false HO_4.out m hmn.1 (by have := hmn.2; have := HL.out; omega)
              obtain ⟨hy30_, hz30_⟩ := hcl
              have HP := Aside0.mk (Kd.R_putg (Kd.R_drew HO_4.out) m true)
              go_region
              (try simp only [Act.put, List.getElem_toArray, List.getElem_cons_succ, List.getElem_cons_zero, List.setIfInBounds_toArray, List.set_cons_zero, List.set_cons_succ]); go_wp2; go_roundg k'; (case measure => have := HK1.out; have := HK2.out; omega); (case rel => exact ⟨i + 1, _, by go_num, ⟨by omega⟩, H', ⟨by have := HK1.out; have := HK2.out; omega⟩, ⟨Kd.R_over' (v := (.slice (some ⟨go6, 0, none⟩) l.length co6)) (Kd.R_drew HO_3.out) (Kd.R_typed (Kd.R_drew HO_4.out)) (by decide) HP.out.2⟩, ⟨HP.out.1⟩, ⟨(World.cell?_setCell_far _ _ _ _ (Ne.symm hne)).trans HCD.out⟩, ⟨below_set (below_drew1 HB.out) GB6.out⟩⟩)
            · have e2 : (x.f0 == 2) = false := beq_eq_false_iff_ne.mpr hx2
              have hnb : nodeB x g' = !((waysL x).any fun n => !rdOf false g' n) := by unfold nodeB; rw [e2]; rfl
              rw [hnb] at H'
              clear hnb
              have hcl := Kd.R_celln false HO_4.out m hmn.1 (by have := hmn.2; have := HL.out; omega)
              obtain ⟨hy30_, hz30_⟩ := hcl
              go_wp2
              have HP := Aside0.mk (Kd.R_putg (Kd.R_drew HO_4.out) m (!((waysL x).any fun n => !rdOf false g' n)))
              go_region_with (first | (go_at_call 124; refine (ways_x (Addr.add adL (m.toNat * 5)) x _ (by first | exact hx0 | simpa using hx0)).mono ?_; rintro e w' ⟨rfl, rfl⟩) | (go_at_call 140; (with_reducible refine (con_141_s gd go6 co6 3 g' _ (waysL x) _ ?c1 ?c2 ?c3 ?c4 ?c5).mono ?_); (case c1 => repeat (first | exact (Kd.C_below HRW.out HB.out) | (with_reducible refine Kd.C_alloc ?_ _) | (with_reducible refine Kd.C_drewN ?_ _) | (with_reducible refine Kd.C_drew ?_))); (case c2 => rw [waysL_len]; split <;> omega); (case c3 => have h_ := HCD.out; rw [HL.out] at h_; exact h_); (case c4 => have h_ := (Kd.R_reads' HO_4.out).2.2; repeat (first | exact h_ | (with_reducible refine Kd.C_drewN ?_ _) | (with_reducible refine Kd.C_drew ?_))); (case c5 => have h_ := HRG.out; intro n hn; have h2_ := h_ n hn; have h3_ := HL.out; exact ⟨h2_.1, by have := h2_.2; omega⟩); rintro e w' ⟨rfl, rfl⟩))
              all_goals ((try simp only [Act.put, List.getElem_toArray, List.getElem_cons_succ, List.getElem_cons_zero, List.setIfInBounds_toArray, List.set_cons_zero, List.set_cons_succ]); go_wp2; go_roundg k'; (case measure => have := HK1.out; have := HK2.out; omega); (case rel => exact ⟨i + 1, _, by go_num, ⟨by omega⟩, H', ⟨by have := HK1.out; have := HK2.out; omega⟩, ⟨Kd.R_over' (v := (.slice (some ⟨go6, 0, none⟩) l.length co6)) (Kd.R_drew HO_3.out) (Kd.R_typed (Kd.R_drew HO_4.out)) (by decide) HP.out.2⟩, ⟨HP.out.1⟩, ⟨(World.cell?_setCell_far _ _ _ _ (Ne.symm hne)).trans HCD.out⟩, ⟨below_set (below_drew1 HB.out) GB6.out⟩⟩))
          · have HX := prod_l1_end l R g' (t : Int) (i : Int) c2 HA.out
            obtain ⟨k', hk', H⟩ := HX
            have H' := Aside0.mk H
            clear H HA
            have hwt : wrap64 ((t : Int) + 1) = ((t + 1 : Nat) : Int) := by have := LT.out; have := HRL.out; unfold wrap64; omega
            rw [hwt] at H'
            have d2 : decide ((i : Int) < (R.length : Int)) = false := decide_eq_false c2
            have c2n : ¬ i < R.length := by omega
            go_wp2
            go_roundg k'
            case measure => have := HK1.out; have := HK2.out; omega
            case rel => exact ⟨t + 1, g', by go_num, H', ⟨by have := HK1.out; have := HK2.out; omega⟩, HO_3, HO_4, HCD, HB⟩
      · rw [if_neg c1] at H
        have hr3 := prod_l3 R HRL.out g r k1 0 (Nat.zero_le _) H
        rw [List.drop_zero] at hr3
        have HR3 := Aside0.mk hr3
        clear hr3 H
        have HL := Aside0.mk (Kd.R_reads' HO_4.out).1
        have d1 : decide ((t : Int) < (R.length : Int)) = false := decide_eq_false c1
        have c1n : ¬ t < R.length := by omega
        have hcd := HCD.out
        obtain ⟨hxb, _⟩ := Kd.R_celln false HO_4.out (0 : Int) (Int.le_refl 0) (show (0 : Int) < (l.length : Int) by have := LP.out; omega)
        rw [show ((0 : Int)).toNat = 0 from rfl] at hxb
        have q77 : decide (0 < l.length) = true := decide_eq_true LP.out
        have qi6 : (0 < l.length) = True := eq_true LP.out
        have hgc := Kd.C_below HR0.out HB.out
        by_cases c5 : rdOf false g 0 = true
        · rw [c5] at hxb
          have e5 : r = !(R.any fun n => !rdOf false g n) := by rw [HR3.out, all_not]
          go_wp2_with (first | (go_at_call 140; (with_reducible refine (con_142_d gd go6 co6 cR g _ R _ ?c1 ?c2 ?c3 ?c4 ?c5).mono ?_); (case c1 => exact (Kd.R_reads' HO_3.out).2.2); (case c2 => exact (Kd.R_reads' HO_3.out).2.1); (case c3 => have h_ := HCD.out; rw [HL.out] at h_; exact h_); (case c4 => exact (Kd.R_reads' HO_4.out).2.2); (case c5 => intro n hn; have h2_ := HRN.out n hn; have h3_ := HL.out; exact ⟨h2_.1, by have := h2_.2; omega⟩); rintro e w' ⟨rfl, rfl⟩))
          go_ret
          exact ⟨by first | rfl | (rw [e5]; rfl), below_step HBW.out HB.out⟩
        · replace c5 := Bool.eq_false_iff.mpr c5
          rw [c5] at hxb
          have e5 : r = false := by
            obtain ⟨tl, ht⟩ := HCN.out
            rw [HR3.out, ht, List.all_cons, c5, Bool.false_and]
          go_wp2
          go_ret
          exact ⟨by first | rfl | (rw [e5]; rfl), below_step HBW.out HB.out⟩
end Go.Proofs.Ytpfnohdnaocpdaa.PT

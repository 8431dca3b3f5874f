/- Machines: what the program and the reference answer of a machine's turns, both as one plain function. Plain Lean over the printed functions. -/
import Derived.Test.YtififhihgkbafaaPMx8
import Derived.Test.YtififhihgkbafaaPMx3
import Derived.Test.YtififhihgkbafaaPMx4
import Derived.Test.YtififhihgkbafaaPMx0
import Derived.Test.YtififhihgkbafaaRP
namespace Go.Proofs.Ytififhihgkbafaa.Pure
open Go.RowKit Go.Proofs.Ytififhihgkbafaa.PM Go.Proofs.YtififhihgkbafaaW.PrintWords Go.Proofs.YtififhihgkbafaaW.PrintLast Go.Proofs.YtififhihgkbafaaW.PrintMore
set_option linter.unusedVariables false
set_option linter.unusedSimpArgs false

theorem Ev.pos {α : Type} {c : Prop} [Decidable c] {g h : Nat → Option α} {r : α} (hc : c) (k : Ev g r) : Ev (fun n => if c then g n else h n) r := by
  simp only [if_pos hc]; exact k
theorem Ev.neg {α : Type} {c : Prop} [Decidable c] {g h : Nat → Option α} {r : α} (hc : ¬ c) (k : Ev h r) : Ev (fun n => if c then g n else h n) r := by
  simp only [if_neg hc]; exact k
theorem wrap_id {i : Int} (h0 : -9223372036854775808 ≤ i) (h : i ≤ 9223372036854775807) : wrap64 i = i := by
  unfold wrap64
  omega

/-! ### the greatest common divisor -/
theorem tmod_nn {x y : Int} (h0 : 0 ≤ x) : Int.tmod x y = x % y := Int.tmod_eq_emod_of_nonneg h0
theorem gcd_step (x y : Nat) (h : 0 < y) : Nat.gcd x y = Nat.gcd y (x % y) := by
  rw [Nat.gcd_comm x y, Nat.gcd_rec y x, Nat.gcd_comm]
theorem common_l0 (y : Nat) : ∀ x : Nat, Ev (fun k => spec_l03Common.l0 k (x : Int) (y : Int)) ((Nat.gcd x y : Nat) : Int) := by
  induction y using Nat.strongRecOn with
  | _ y ih =>
    intro x
    refine Ev.step (fun k => rfl) ?_
    rcases Nat.eq_zero_or_pos y with h | h
    · subst h
      refine Ev.pos (by omega) ?_
      rw [Nat.gcd_zero_right]
      exact Ev.now _
    · refine Ev.neg (by omega) ?_
      rw [tmod_nn (by omega), gcd_step x y h]
      have := ih (x % y) (Nat.mod_lt _ h) y
      rw [Int.natCast_emod] at this
      exact this
theorem size_eq {a : Int} (h : -9223372036854775807 ≤ a) (h1 : a ≤ 9223372036854775807) : spec_l03Size.f a = some (a.natAbs : Int) := by
  unfold spec_l03Size.f
  by_cases c : a < 0
  · rw [if_pos c, wrap_id (by omega) (by omega)]
    congr 1
    omega
  · rw [if_neg c]
    congr 1
    omega
theorem common_ev {a b : Int} (h : -9223372036854775807 ≤ a) (h1 : a ≤ 9223372036854775807) (h2 : -9223372036854775807 ≤ b) (h3 : b ≤ 9223372036854775807) :
    Ev (fun k => spec_l03Common.f k a b) ((Nat.gcd a.natAbs b.natAbs : Nat) : Int) := by
  unfold spec_l03Common.f
  rw [size_eq h h1, size_eq h2 h3]
  simp only [Option.bind_some]
  exact common_l0 _ _

theorem icommon_l1 (xs : List Int) (m i : Int) (r : Int) (y : Nat) : ∀ x : Nat, Ev (fun k => impl_common.l0 k ((Nat.gcd x y : Nat) : Int) xs m (wrap64 (i + 1))) r → Ev (fun k => impl_common.l1 k (x : Int) (y : Int) xs m i) r := by
  induction y using Nat.strongRecOn with
  | _ y ih =>
    intro x h
    refine Ev.step (fun k => rfl) ?_
    simp only [impl_common.l1]
    rcases Nat.eq_zero_or_pos y with hy | hy
    · subst hy
      refine Ev.pos (by omega) ?_
      rw [Nat.gcd_zero_right] at h
      exact h
    · refine Ev.neg (by omega) ?_
      rw [tmod_nn (by omega), ← Int.natCast_emod]
      refine ih (x % y) (Nat.mod_lt _ hy) y ?_
      rw [← gcd_step x y hy]
      exact h
theorem mx_abs {a : Int} (h : -9223372036854775807 ≤ a) (h1 : a ≤ 9223372036854775807) : mx a (wrap64 (-a)) = (a.natAbs : Int) := by
  rw [wrap_id (by omega) (by omega)]
  unfold mx
  by_cases c : a < -a
  · rw [if_pos c]; omega
  · rw [if_neg c]; omega
def Sm (a : Int) : Prop := -9223372036854775807 ≤ a ∧ a ≤ 9223372036854775807
def g4 (a b c d : Int) : Nat := Nat.gcd (Nat.gcd a.natAbs b.natAbs) (Nat.gcd c.natAbs d.natAbs)
theorem icommon_ev {a b c d : Int} (ha : Sm a) (hb : Sm b) (hc : Sm c) (hd : Sm d) : Ev (fun k => impl_common.f k [a, b, c, d]) ((g4 a b c d : Nat) : Int) := by
  unfold impl_common.f
  have e1 : wrap64 (0 + 1) = 1 := by unfold wrap64; omega
  have e2 : wrap64 (1 + 1) = 2 := by unfold wrap64; omega
  have e3 : wrap64 (2 + 1) = 3 := by unfold wrap64; omega
  have e4 : wrap64 (3 + 1) = 4 := by unfold wrap64; omega
  have r0 : rd [a, b, c, d] 0 = a := rfl
  have r1 : rd [a, b, c, d] 1 = b := rfl
  have r2 : rd [a, b, c, d] 2 = c := rfl
  have r3 : rd [a, b, c, d] 3 = d := rfl
  simp only [List.length_cons, List.length_nil]
  refine Ev.step (fun k => rfl) ?_
  simp only [impl_common.l0]
  refine Ev.pos (by decide) (Ev.pos (by decide) (Ev.pos (by simp) ?_))
  rw [r0, mx_abs ha.1 ha.2]
  refine icommon_l1 _ _ _ _ a.natAbs 0 ?_
  rw [e1, Nat.gcd_zero_left]
  refine Ev.step (fun k => rfl) ?_
  simp only [impl_common.l0]
  refine Ev.pos (by decide) (Ev.pos (by decide) (Ev.pos (by simp) ?_))
  rw [r1, mx_abs hb.1 hb.2]
  refine icommon_l1 _ _ _ _ b.natAbs _ ?_
  rw [e2]
  refine Ev.step (fun k => rfl) ?_
  simp only [impl_common.l0]
  refine Ev.pos (by decide) (Ev.pos (by decide) (Ev.pos (by simp) ?_))
  rw [r2, mx_abs hc.1 hc.2]
  refine icommon_l1 _ _ _ _ c.natAbs _ ?_
  rw [e3]
  refine Ev.step (fun k => rfl) ?_
  simp only [impl_common.l0]
  refine Ev.pos (by decide) (Ev.pos (by decide) (Ev.pos (by simp) ?_))
  rw [r3, mx_abs hd.1 hd.2]
  refine icommon_l1 _ _ _ _ d.natAbs _ ?_
  rw [e4]
  refine Ev.step (fun k => rfl) ?_
  simp only [impl_common.l0]
  refine Ev.neg (by decide) ?_
  rw [Nat.gcd_assoc]
  exact Ev.now _
theorem four_ev {a b c d : Int} (ha : Sm a) (hb : Sm b) (hc : Sm c) (hd : Sm d) : Ev (fun k => spec_l03Four.f k [(⟨a, b, c, d⟩ : S31)]) ((g4 a b c d : Nat) : Int) := by
  unfold spec_l03Four.f
  have r : rd_T31 [(⟨a, b, c, d⟩ : S31)] 0 = ⟨a, b, c, d⟩ := rfl
  simp only [r]
  refine Ev.pos (by simp) ?_
  have l1 : Nat.gcd a.natAbs b.natAbs ≤ 9223372036854775807 := by
    rcases Nat.eq_zero_or_pos a.natAbs with h | h
    · rw [h, Nat.gcd_zero_left]; have := hb.1; have := hb.2; omega
    · exact Nat.le_trans (Nat.gcd_le_left _ h) (by have := ha.1; have := ha.2; omega)
  have l2 : Nat.gcd c.natAbs d.natAbs ≤ 9223372036854775807 := by
    rcases Nat.eq_zero_or_pos c.natAbs with h | h
    · rw [h, Nat.gcd_zero_left]; have := hd.1; have := hd.2; omega
    · exact Nat.le_trans (Nat.gcd_le_left _ h) (by have := hc.1; have := hc.2; omega)
  refine Ev.bind (common_ev ha.1 ha.2 hb.1 hb.2) (Ev.bind (common_ev hc.1 hc.2 hd.1 hd.2) (Ev.bind (common_ev (by omega) (by omega) (by omega) (by omega)) ?_))
  simp only [Int.natAbs_natCast]
  exact Ev.now _

/-! ### machines divided by their greatest common divisor -/
def qt (a : Int) (g : Nat) : Int := Int.tdiv a g
theorem g4_dvd (a b c d : Int) : ((g4 a b c d : Nat) : Int) ∣ a ∧ ((g4 a b c d : Nat) : Int) ∣ b ∧ ((g4 a b c d : Nat) : Int) ∣ c ∧ ((g4 a b c d : Nat) : Int) ∣ d := by
  have h1 := Nat.gcd_dvd_left (Nat.gcd a.natAbs b.natAbs) (Nat.gcd c.natAbs d.natAbs)
  have h2 := Nat.gcd_dvd_right (Nat.gcd a.natAbs b.natAbs) (Nat.gcd c.natAbs d.natAbs)
  refine ⟨Int.ofNat_dvd_left.2 (Nat.dvd_trans h1 (Nat.gcd_dvd_left _ _)), Int.ofNat_dvd_left.2 (Nat.dvd_trans h1 (Nat.gcd_dvd_right _ _)), Int.ofNat_dvd_left.2 (Nat.dvd_trans h2 (Nat.gcd_dvd_left _ _)), Int.ofNat_dvd_left.2 (Nat.dvd_trans h2 (Nat.gcd_dvd_right _ _))⟩
theorem g4_pos {a b c d : Int} (h : d ≠ 0) : 0 < g4 a b c d := Nat.gcd_pos_of_pos_right _ (Nat.gcd_pos_of_pos_right _ (by omega))
theorem qt_mul {a : Int} {g : Nat} (h : (g : Int) ∣ a) : a = (g : Int) * qt a g := by
  obtain ⟨q, rfl⟩ := h
  unfold qt
  rcases Nat.eq_zero_or_pos g with h0 | h0
  · subst h0; simp
  · rw [Int.mul_tdiv_cancel_left q (by omega)]
theorem qt_abs {a : Int} {g : Nat} (h0 : 0 < g) (h : (g : Int) ∣ a) : (qt a g).natAbs ≤ a.natAbs := by
  have e := qt_mul h
  have : a.natAbs = g * (qt a g).natAbs := by conv => lhs; rw [e, Int.natAbs_mul, Int.natAbs_natCast]
  rw [this]
  exact Nat.le_mul_of_pos_left _ h0
theorem qt_sm {a : Int} {g : Nat} (h0 : 0 < g) (h : (g : Int) ∣ a) (ha : Sm a) : Sm (qt a g) := by
  have := qt_abs h0 h
  have := ha.1; have := ha.2
  exact ⟨by omega, by omega⟩
structure M4 where
  a : Int
  b : Int
  c : Int
  d : Int
def M4.sm (m : M4) : Prop := Sm m.a ∧ Sm m.b ∧ Sm m.c ∧ Sm m.d
def M4.up (m : M4) : Prop := m.c < m.d ∧ -m.c < m.d
def red (m : M4) : M4 := ⟨qt m.a (g4 m.a m.b m.c m.d), qt m.b (g4 m.a m.b m.c m.d), qt m.c (g4 m.a m.b m.c m.d), qt m.d (g4 m.a m.b m.c m.d)⟩
theorem red_up {m : M4} (h : m.up) : (red m).up := by
  obtain ⟨h1, h2⟩ := h
  have hp : 0 < g4 m.a m.b m.c m.d := g4_pos (by omega)
  obtain ⟨_, _, dc, dd⟩ := g4_dvd m.a m.b m.c m.d
  have ec := qt_mul dc
  have ed := qt_mul dd
  refine ⟨?_, ?_⟩
  · refine Int.lt_of_mul_lt_mul_left (a := ((g4 m.a m.b m.c m.d : Nat) : Int)) ?_ (by omega)
    show ((g4 m.a m.b m.c m.d : Nat) : Int) * qt m.c _ < ((g4 m.a m.b m.c m.d : Nat) : Int) * qt m.d _
    rw [← ec, ← ed]; exact h1
  · refine Int.lt_of_mul_lt_mul_left (a := ((g4 m.a m.b m.c m.d : Nat) : Int)) ?_ (by omega)
    show ((g4 m.a m.b m.c m.d : Nat) : Int) * -qt m.c _ < ((g4 m.a m.b m.c m.d : Nat) : Int) * qt m.d _
    rw [Int.mul_neg, ← ec, ← ed]; exact h2
theorem wrap_sm {a : Int} (h : Sm a) : wrap64 a = a := wrap_id (by have := h.1; omega) h.2
theorem ired_ev {m : M4} (h : m.sm) (hu : m.up) : Ev (fun k => impl_Moebius_reduced.f k m.a m.b m.c m.d) ((red m).a, (red m).b, (red m).c, (red m).d) := by
  obtain ⟨ha, hb, hc, hd⟩ := h
  have hp : 0 < g4 m.a m.b m.c m.d := g4_pos (by have := hu.1; have := hu.2; omega)
  obtain ⟨da, db, dc, dd⟩ := g4_dvd m.a m.b m.c m.d
  unfold impl_Moebius_reduced.f
  refine Ev.bind (icommon_ev ha hb hc hd) (Ev.neg (by omega) ?_)
  have e := Ev.now (wrap64 (Int.tdiv m.a (g4 m.a m.b m.c m.d)), wrap64 (Int.tdiv m.b (g4 m.a m.b m.c m.d)), wrap64 (Int.tdiv m.c (g4 m.a m.b m.c m.d)), wrap64 (Int.tdiv m.d (g4 m.a m.b m.c m.d)))
  have ea := wrap_sm (qt_sm hp da ha)
  have eb := wrap_sm (qt_sm hp db hb)
  have ec := wrap_sm (qt_sm hp dc hc)
  have ed := wrap_sm (qt_sm hp dd hd)
  unfold qt at ea eb ec ed
  rw [ea, eb, ec, ed] at e ⊢
  exact e
theorem sred_ev {m : M4} (h : m.sm) (hu : m.up) : Ev (fun k => spec_l03Less.f k m.a m.b m.c m.d) ((red m).a, (red m).b, (red m).c, (red m).d) := by
  obtain ⟨ha, hb, hc, hd⟩ := h
  have hp : 0 < g4 m.a m.b m.c m.d := g4_pos (by have := hu.1; have := hu.2; omega)
  obtain ⟨da, db, dc, dd⟩ := g4_dvd m.a m.b m.c m.d
  unfold spec_l03Less.f
  refine Ev.bind (four_ev ha hb hc hd) (Ev.neg (by omega) ?_)
  have e := Ev.now (wrap64 (Int.tdiv m.a (g4 m.a m.b m.c m.d)), wrap64 (Int.tdiv m.b (g4 m.a m.b m.c m.d)), wrap64 (Int.tdiv m.c (g4 m.a m.b m.c m.d)), wrap64 (Int.tdiv m.d (g4 m.a m.b m.c m.d)))
  have ea := wrap_sm (qt_sm hp da ha)
  have eb := wrap_sm (qt_sm hp db hb)
  have ec := wrap_sm (qt_sm hp dc hc)
  have ed := wrap_sm (qt_sm hp dd hd)
  unfold qt at ea eb ec ed
  rw [ea, eb, ec, ed] at e ⊢
  exact e
def Bd (B a : Int) : Prop := -B ≤ a ∧ a ≤ B
def M4.bd (B : Int) (m : M4) : Prop := Bd B m.a ∧ Bd B m.b ∧ Bd B m.c ∧ Bd B m.d
theorem qt_bd {B a : Int} {g : Nat} (h0 : 0 < g) (h : (g : Int) ∣ a) (ha : Bd B a) : Bd B (qt a g) := by
  have := qt_abs h0 h
  have := ha.1; have := ha.2
  exact ⟨by omega, by omega⟩
theorem red_bd {B : Int} {m : M4} (h : m.bd B) (hu : m.up) : (red m).bd B := by
  have hp : 0 < g4 m.a m.b m.c m.d := g4_pos (by have := hu.1; have := hu.2; omega)
  obtain ⟨da, db, dc, dd⟩ := g4_dvd m.a m.b m.c m.d
  exact ⟨qt_bd hp da h.1, qt_bd hp db h.2.1, qt_bd hp dc h.2.2.1, qt_bd hp dd h.2.2.2⟩
theorem bd_sm {B a : Int} (h : Bd B a) (hB : B ≤ 9223372036854775807) : Sm a := ⟨by have := h.1; omega, by have := h.2; omega⟩
theorem M4.bd_sm {B : Int} {m : M4} (h : m.bd B) (hB : B ≤ 9223372036854775807) : m.sm := ⟨Pure.bd_sm h.1 hB, Pure.bd_sm h.2.1 hB, Pure.bd_sm h.2.2.1 hB, Pure.bd_sm h.2.2.2 hB⟩

/-! ### what may be asked -/
theorem within_eq (n a b : Int) : impl_within.f n a b = some (decide (a ≤ n) && decide (n ≤ b)) := by
  unfold impl_within.f
  by_cases h : n ≥ a
  · rw [if_pos h, decide_eq_true (show a ≤ n from h), Bool.true_and]
  · rw [if_neg h, decide_eq_false (show ¬ a ≤ n from h), Bool.false_and]
theorem in_eq (n a b : Int) : spec_l00In.f n a b = some (decide (a ≤ n) && decide (n ≤ b)) := by
  unfold spec_l00In.f
  by_cases h : n ≥ a
  · rw [if_pos h, decide_eq_true (show a ≤ n from h), Bool.true_and]
  · rw [if_neg h, decide_eq_false (show ¬ a ≤ n from h), Bool.false_and]
def inI (n a b : Int) : Bool := decide (a ≤ n) && decide (n ≤ b)
theorem within_eq' (n a b : Int) : impl_within.f n a b = some (inI n a b) := within_eq n a b
theorem in_eq' (n a b : Int) : spec_l00In.f n a b = some (inI n a b) := in_eq n a b
theorem inI_iff {n a b : Int} : inI n a b = true ↔ a ≤ n ∧ n ≤ b := by simp [inI]
def fits (B : Int) (m : M4) : Bool := inI m.a (-B) B && (inI m.b (-B) B && (inI m.c (-B) B && inI m.d (-B) B))
theorem fits_iff {B : Int} {m : M4} : fits B m = true ↔ m.bd B := by
  unfold fits
  simp only [Bool.and_eq_true, inI_iff]
  exact Iff.rfl
def okM (m : M4) : Bool := fits 1000000 m && (decide (m.c < m.d) && decide (-m.c < m.d))
theorem okM_iff {m : M4} : okM m = true ↔ m.bd 1000000 ∧ m.up := by
  unfold okM
  rw [Bool.and_eq_true, fits_iff, Bool.and_eq_true, decide_eq_true_iff, decide_eq_true_iff]
  exact Iff.rfl
theorem sfits_eq (B : Int) (hB : 0 ≤ B) (hB1 : B ≤ 9223372036854775807) (m : M4) : spec_l03Fits.f [(⟨m.a, m.b, m.c, m.d⟩ : S31)] B = some (fits B m) := by
  have r : rd_T31 [(⟨m.a, m.b, m.c, m.d⟩ : S31)] 0 = ⟨m.a, m.b, m.c, m.d⟩ := rfl
  unfold spec_l03Fits.f fits
  rw [if_pos (by simp)]
  simp only [r, in_eq', Option.bind_some, wrap_id (i := -B) (by omega) (by omega)]
  cases inI m.a (-B) B <;> cases inI m.b (-B) B <;> cases inI m.c (-B) B <;> cases inI m.d (-B) B <;> rfl
theorem smach_eq (m : M4) : spec_l03Machine.f [(⟨m.a, m.b, m.c, m.d⟩ : S31)] = some (okM m) := by
  have r : rd_T31 [(⟨m.a, m.b, m.c, m.d⟩ : S31)] 0 = ⟨m.a, m.b, m.c, m.d⟩ := rfl
  unfold spec_l03Machine.f okM
  rw [sfits_eq 1000000 (by decide) (by decide)]
  simp only [Option.bind_some, r]
  cases h : fits 1000000 m with
  | false => rfl
  | true =>
    have hb := (fits_iff.1 h).2.2.1
    rw [if_pos rfl, if_pos (by simp), size_eq (by have := hb.1; omega) (by have := hb.2; omega)]
    simp only [Option.bind_some, Bool.true_and]
    congr 1
    rw [← Bool.decide_and]
    exact decide_eq_decide.2 (by omega)
theorem wnext (n : Nat) (h : n < 9223372036854775807) : wrap64 ((n : Int) + 1) = ((n + 1 : Nat) : Int) := by unfold wrap64; omega
theorem ivalid_ev (m : M4) : Ev (fun k => impl_ValidMoebius.f k m.a m.b m.c m.d) (okM m) := by
  unfold impl_ValidMoebius.f
  have e1 : wrap64 (0 + 1) = 1 := by unfold wrap64; omega
  have e2 : wrap64 (1 + 1) = 2 := by unfold wrap64; omega
  have e3 : wrap64 (2 + 1) = 3 := by unfold wrap64; omega
  have e4 : wrap64 (3 + 1) = 4 := by unfold wrap64; omega
  have r0 : rd [m.a, m.b, m.c, m.d] 0 = m.a := rfl
  have r1 : rd [m.a, m.b, m.c, m.d] 1 = m.b := rfl
  have r2 : rd [m.a, m.b, m.c, m.d] 2 = m.c := rfl
  have r3 : rd [m.a, m.b, m.c, m.d] 3 = m.d := rfl
  simp only [Option.bind_some, List.length_cons, List.length_nil]
  refine Ev.step (fun k => rfl) ?_
  simp only [impl_ValidMoebius.l0]
  refine Ev.pos (by decide) (Ev.pos (by decide) (Ev.pos (by simp) ?_))
  simp only [r0, within_eq', Option.bind_some, e1]
  cases h0 : inI m.a (-1000000) 1000000 with
  | false => refine Ev.neg (by decide) ?_; rw [show okM m = false from by simp [okM, fits, h0]]; exact Ev.now _
  | true =>
  refine Ev.pos rfl ?_
  refine Ev.step (fun k => rfl) ?_
  simp only [impl_ValidMoebius.l0]
  refine Ev.pos (by decide) (Ev.pos (by decide) (Ev.pos (by simp) ?_))
  simp only [r1, within_eq', Option.bind_some, e2]
  cases h1 : inI m.b (-1000000) 1000000 with
  | false => refine Ev.neg (by decide) ?_; rw [show okM m = false from by simp [okM, fits, h1]]; exact Ev.now _
  | true =>
  refine Ev.pos rfl ?_
  refine Ev.step (fun k => rfl) ?_
  simp only [impl_ValidMoebius.l0]
  refine Ev.pos (by decide) (Ev.pos (by decide) (Ev.pos (by simp) ?_))
  simp only [r2, within_eq', Option.bind_some, e3]
  cases h2 : inI m.c (-1000000) 1000000 with
  | false => refine Ev.neg (by decide) ?_; rw [show okM m = false from by simp [okM, fits, h2]]; exact Ev.now _
  | true =>
  refine Ev.pos rfl ?_
  refine Ev.step (fun k => rfl) ?_
  simp only [impl_ValidMoebius.l0]
  refine Ev.pos (by decide) (Ev.pos (by decide) (Ev.pos (by simp) ?_))
  simp only [r3, within_eq', Option.bind_some, e4]
  cases h3 : inI m.d (-1000000) 1000000 with
  | false => refine Ev.neg (by decide) ?_; rw [show okM m = false from by simp [okM, fits, h3]]; exact Ev.now _
  | true =>
  refine Ev.pos rfl ?_
  refine Ev.step (fun k => rfl) ?_
  simp only [impl_ValidMoebius.l0]
  refine Ev.neg (by decide) ?_
  have hc := inI_iff.1 h2
  rw [mx_abs (by omega) (by omega)]
  rw [show okM m = decide (m.d > (m.c.natAbs : Int)) from by
    unfold okM fits
    rw [h0, h1, h2, h3, ← Bool.decide_and]
    simp only [Bool.and_self, Bool.true_and]
    exact decide_eq_decide.2 (by omega)]
  exact Ev.now _
theorem sdigits_l0 (l : List Int) (hl : l.length ≤ 140737488355327) (d : Nat) : ∀ i : Nat, i + d = l.length → Ev (fun k => spec_l03Digits.l0 k l (i : Int)) ((l.drop i).all digB) := by
  induction d with
  | zero =>
    intro i hi
    refine Ev.step (fun k => rfl) ?_
    refine Ev.neg (by omega) ?_
    rw [show l.drop i = [] from List.drop_of_length_le (by omega)]
    exact Ev.now _
  | succ d ih =>
    intro i hi
    refine Ev.step (fun k => rfl) ?_
    refine Ev.pos (by omega) (Ev.pos (by omega) ?_)
    have hd : l.drop i = rd l (i : Int) :: l.drop (i + 1) := by
      rw [List.drop_eq_getElem_cons (by omega)]
      simp [rd, List.getD, show i < l.length by omega]
    rw [hd, List.all_cons]
    generalize rd l (i : Int) = x
    by_cases h1 : x < -1
    · refine Ev.pos h1 ?_
      rw [show digB x = false from by simp [digB]; omega]
      exact Ev.now _
    · refine Ev.neg h1 ?_
      by_cases h2 : x > 1
      · refine Ev.pos h2 ?_
        rw [show digB x = false from by simp [digB]; omega]
        exact Ev.now _
      · refine Ev.neg h2 ?_
        rw [show digB x = true from by simp [digB]; omega, Bool.true_and, wnext i (by omega)]
        exact ih (i + 1) (by omega)
theorem sdigits_ev (l : List Int) (hl : l.length ≤ 140737488355327) : Ev (fun k => spec_l03Digits.f k l) (l.all digB) := sdigits_l0 l hl l.length 0 (by omega)
def okS (h l : List Int) : Bool := decide (h.length ≤ 16) && (decide (1 ≤ l.length) && (decide (l.length ≤ 14) && (h.all digB && l.all digB)))
theorem okS_iff {h l : List Int} : okS h l = true ↔ h.length ≤ 16 ∧ 1 ≤ l.length ∧ l.length ≤ 14 ∧ h.all digB = true ∧ l.all digB = true := by
  simp [okS]
theorem ivalidS_eq (h l : List Int) : impl_ValidStream.f h l = some (okS h l) := by
  unfold impl_ValidStream.f okS impl_digitsOk.f
  by_cases c1 : h.length ≤ 16
  · rw [if_pos (by omega), decide_eq_true c1]
    by_cases c2 : 1 ≤ l.length
    · rw [if_pos (by omega), decide_eq_true c2]
      by_cases c3 : l.length ≤ 14
      · rw [if_pos (by omega), decide_eq_true c3]
        simp only [Option.bind_some, Bool.true_and]
        cases h.all digB <;> rfl
      · rw [if_neg (by omega), decide_eq_false c3]; rfl
    · rw [if_neg (by omega), decide_eq_false c2]; rfl
  · rw [if_neg (by omega), decide_eq_false c1]; rfl
theorem sok_ev (h l : List Int) (hh : h.length ≤ 140737488355327) (hl : l.length ≤ 140737488355327) : Ev (fun k => spec_l03Ok.f k [(⟨h, l⟩ : S33)]) (okS h l) := by
  have r : rd_T33 [(⟨h, l⟩ : S33)] 0 = ⟨h, l⟩ := rfl
  unfold spec_l03Ok.f okS
  simp only [r, in_eq', Option.bind_some]
  refine Ev.pos (by simp) ?_
  by_cases c1 : h.length ≤ 16
  · refine Ev.pos (by omega) ?_
    rw [decide_eq_true c1, Bool.true_and]
    cases hi : inI (l.length : Int) 1 14 with
    | false =>
      refine Ev.neg (by decide) ?_
      have : ¬ (1 ≤ l.length ∧ l.length ≤ 14) := fun ⟨p, q⟩ => by rw [inI_iff.2 ⟨by omega, by omega⟩] at hi; cases hi
      rw [show (decide (1 ≤ l.length) && (decide (l.length ≤ 14) && (h.all digB && l.all digB))) = false from by
        rw [← Bool.and_assoc, ← Bool.decide_and, decide_eq_false this, Bool.false_and]]
      exact Ev.now _
    | true =>
      refine Ev.pos rfl ?_
      have hi := inI_iff.1 hi
      rw [decide_eq_true (show 1 ≤ l.length by omega), decide_eq_true (show l.length ≤ 14 by omega), Bool.true_and, Bool.true_and]
      refine Ev.bind (sdigits_ev h hh) ?_
      cases h.all digB with
      | false => exact Ev.neg (by decide) (Ev.now _)
      | true => exact Ev.pos rfl (Ev.bind (sdigits_ev l hl) (by rw [Bool.true_and]; exact Ev.now _))
  · refine Ev.neg (by omega) ?_
    rw [decide_eq_false c1, Bool.false_and]
    exact Ev.now _

/-! ### what a state tells -/
def lieB (m : M4) (lo hi : Int) : Bool := decide (lo * (m.d - m.c) ≤ 2 * (m.b - m.a)) && (decide (2 * (m.b - m.a) ≤ hi * (m.d - m.c)) && (decide (lo * (m.d + m.c) ≤ 2 * (m.b + m.a)) && decide (2 * (m.b + m.a) ≤ hi * (m.d + m.c))))
theorem ilies_ev {m : M4} (h : m.bd 288230376151711744) (lo hi : Int) (hlo : lo = -2 ∨ lo = -1 ∨ lo = 0) (hhi : hi = lo + 2 ∨ lo = -2 ∧ hi = 2) : Ev (fun k => impl_Moebius_lies.f k m.a m.b m.c m.d lo hi) (lieB m lo hi) := by
  obtain ⟨⟨a0, a1⟩, ⟨b0, b1⟩, ⟨c0, c1⟩, ⟨d0, d1⟩⟩ := h
  have e1 : wrap64 (0 + 1) = 1 := by unfold wrap64; omega
  have e2 : wrap64 (1 + 1) = 2 := by unfold wrap64; omega
  have r0 : rd [(-1 : Int), 1] 0 = -1 := rfl
  have r1 : rd [(-1 : Int), 1] 1 = 1 := rfl
  have w1 : wrap64 (2 * wrap64 (wrap64 (-1 * m.a) + m.b)) = 2 * (m.b - m.a) := by unfold wrap64; omega
  have w2 : wrap64 (2 * wrap64 (wrap64 (1 * m.a) + m.b)) = 2 * (m.b + m.a) := by unfold wrap64; omega
  have w3 : wrap64 (wrap64 (-1 * m.c) + m.d) = m.d - m.c := by unfold wrap64; omega
  have w4 : wrap64 (wrap64 (1 * m.c) + m.d) = m.d + m.c := by unfold wrap64; omega
  have v : ∀ x : Int, (x = m.d - m.c ∨ x = m.d + m.c) → wrap64 (lo * x) = lo * x ∧ wrap64 (hi * x) = hi * x := by
    intro x hx
    rcases hlo with rfl | rfl | rfl <;> rcases hhi with rfl | ⟨h, rfl⟩ <;> first | (unfold wrap64; omega) | cases h
  unfold impl_Moebius_lies.f lieB
  simp only [Option.bind_some, List.length_cons, List.length_nil]
  refine Ev.step (fun k => rfl) ?_
  simp only [impl_Moebius_lies.l0]
  refine Ev.pos (by decide) (Ev.pos (by decide) (Ev.pos (by simp) ?_))
  simp only [r0, w1, w3, (v (m.d - m.c) (.inl rfl)).1, (v (m.d - m.c) (.inl rfl)).2, e1]
  by_cases p1 : 2 * (m.b - m.a) < lo * (m.d - m.c)
  · refine Ev.pos p1 ?_
    rw [decide_eq_false (show ¬ lo * (m.d - m.c) ≤ 2 * (m.b - m.a) from Int.not_le.2 p1), Bool.false_and]; exact Ev.now _
  refine Ev.neg p1 ?_
  rw [decide_eq_true (show lo * (m.d - m.c) ≤ 2 * (m.b - m.a) from Int.not_lt.1 p1), Bool.true_and]
  by_cases p2 : 2 * (m.b - m.a) > hi * (m.d - m.c)
  · refine Ev.pos p2 ?_
    rw [decide_eq_false (show ¬ 2 * (m.b - m.a) ≤ hi * (m.d - m.c) from Int.not_le.2 p2), Bool.false_and]; exact Ev.now _
  refine Ev.neg p2 ?_
  rw [decide_eq_true (show 2 * (m.b - m.a) ≤ hi * (m.d - m.c) from Int.not_lt.1 p2), Bool.true_and]
  refine Ev.step (fun k => rfl) ?_
  simp only [impl_Moebius_lies.l0]
  refine Ev.pos (by decide) (Ev.pos (by decide) (Ev.pos (by simp) ?_))
  simp only [r1, w2, w4, (v (m.d + m.c) (.inr rfl)).1, (v (m.d + m.c) (.inr rfl)).2, e2]
  by_cases p3 : 2 * (m.b + m.a) < lo * (m.d + m.c)
  · refine Ev.pos p3 ?_
    rw [decide_eq_false (show ¬ lo * (m.d + m.c) ≤ 2 * (m.b + m.a) from Int.not_le.2 p3), Bool.false_and]; exact Ev.now _
  refine Ev.neg p3 ?_
  rw [decide_eq_true (show lo * (m.d + m.c) ≤ 2 * (m.b + m.a) from Int.not_lt.1 p3), Bool.true_and]
  by_cases p4 : 2 * (m.b + m.a) > hi * (m.d + m.c)
  · refine Ev.pos p4 ?_
    rw [decide_eq_false (show ¬ 2 * (m.b + m.a) ≤ hi * (m.d + m.c) from Int.not_le.2 p4)]; exact Ev.now _
  refine Ev.neg p4 ?_
  rw [decide_eq_true (show 2 * (m.b + m.a) ≤ hi * (m.d + m.c) from Int.not_lt.1 p4)]
  refine Ev.step (fun k => rfl) ?_
  simp only [impl_Moebius_lies.l0]
  exact Ev.neg (by decide) (Ev.now _)
theorem slies_eq {m : M4} (h : m.bd 288230376151711744) (e : Int) (he : e = 0 ∨ e = 1 ∨ e = -1) : spec_l03Lies.f [(⟨m.a, m.b, m.c, m.d⟩ : S31)] e = some (lieB m (e - 1) (e + 1)) := by
  obtain ⟨⟨a0, a1⟩, ⟨b0, b1⟩, ⟨c0, c1⟩, ⟨d0, d1⟩⟩ := h
  have r : rd_T31 [(⟨m.a, m.b, m.c, m.d⟩ : S31)] 0 = ⟨m.a, m.b, m.c, m.d⟩ := rfl
  have en : ∀ p q : Int, -576460752303423488 ≤ p → p ≤ 576460752303423488 → -576460752303423488 ≤ q → q ≤ 576460752303423488 → spec_l03End.f p q e = some (decide ((e - 1) * q ≤ 2 * p) && decide (2 * p ≤ (e + 1) * q)) := by
    intro p q hp hp1 hq hq1
    unfold spec_l03End.f
    have x1 : wrap64 (2 * p) = 2 * p := by unfold wrap64; omega
    have x2 : wrap64 (wrap64 (e - 1) * q) = (e - 1) * q := by rcases he with rfl | rfl | rfl <;> (unfold wrap64; omega)
    have x3 : wrap64 (wrap64 (e + 1) * q) = (e + 1) * q := by rcases he with rfl | rfl | rfl <;> (unfold wrap64; omega)
    rw [x1, x2, x3]
    by_cases c : 2 * p ≥ (e - 1) * q
    · rw [if_pos c, decide_eq_true (show (e - 1) * q ≤ 2 * p from c), Bool.true_and]
    · rw [if_neg c, decide_eq_false (show ¬ (e - 1) * q ≤ 2 * p from c), Bool.false_and]
  unfold spec_l03Lies.f lieB
  rw [if_pos (by simp)]
  simp only [r]
  rw [wrap_id (i := m.b - m.a) (by omega) (by omega), wrap_id (i := m.d - m.c) (by omega) (by omega), wrap_id (i := m.b + m.a) (by omega) (by omega), wrap_id (i := m.d + m.c) (by omega) (by omega)]
  rw [en _ _ (by omega) (by omega) (by omega) (by omega)]
  simp only [Option.bind_some]
  cases h1 : decide ((e - 1) * (m.d - m.c) ≤ 2 * (m.b - m.a)) with
  | false => rfl
  | true =>
    cases h2 : decide (2 * (m.b - m.a) ≤ (e + 1) * (m.d - m.c)) with
    | false => rfl
    | true =>
      simp only [Bool.and_self, if_true, Bool.true_and]
      rw [en _ _ (by omega) (by omega) (by omega) (by omega)]
      rfl
def tell (m : M4) : Option Int := if lieB m (-1) 1 = true then some 0 else if lieB m 0 2 = true then some 1 else if lieB m (-2) 0 = true then some (-1) else none
theorem tell_dig {m : M4} {e : Int} (h : tell m = some e) : e = 0 ∨ e = 1 ∨ e = -1 := by
  unfold tell at h
  split at h
  · injection h with h; omega
  split at h
  · injection h with h; omega
  split at h
  · injection h with h; omega
  · cases h
theorem stold_eq {m : M4} (h : m.bd 288230376151711744) : spec_l03Told.f [(⟨m.a, m.b, m.c, m.d⟩ : S31)] = some ((tell m).getD (-1), (tell m).isSome) := by
  unfold spec_l03Told.f
  rw [slies_eq h 0 (by omega), slies_eq h 1 (by omega), slies_eq h (-1) (by omega)]
  simp only [Option.bind_some, tell, Int.zero_sub, Int.zero_add, Int.reduceSub, Int.reduceAdd, Int.reduceNeg]
  cases lieB m (-1) 1 <;> cases lieB m 0 2 <;> cases lieB m (-2) 0 <;> rfl
theorem itells_ev {m : M4} (h : m.bd 288230376151711744) : Ev (fun k => impl_Moebius_tells.f k m.a m.b m.c m.d) ((tell m).getD 0, (tell m).isSome) := by
  unfold impl_Moebius_tells.f
  have e1 : wrap64 (0 + 1) = 1 := by unfold wrap64; omega
  have e2 : wrap64 (1 + 1) = 2 := by unfold wrap64; omega
  have e3 : wrap64 (2 + 1) = 3 := by unfold wrap64; omega
  have r0 : rd [(0 : Int), 1, -1] 0 = 0 := rfl
  have r1 : rd [(0 : Int), 1, -1] 1 = 1 := rfl
  have r2 : rd [(0 : Int), 1, -1] 2 = -1 := rfl
  have v0 : wrap64 (wrap64 0 - 1) = -1 ∧ wrap64 (wrap64 0 + 1) = 1 := by unfold wrap64; omega
  have v1 : wrap64 (wrap64 1 - 1) = 0 ∧ wrap64 (wrap64 1 + 1) = 2 := by unfold wrap64; omega
  have v2 : wrap64 (wrap64 (-1) - 1) = -2 ∧ wrap64 (wrap64 (-1) + 1) = 0 := by unfold wrap64; omega
  simp only [Option.bind_some, List.length_cons, List.length_nil]
  unfold tell
  refine Ev.step (fun k => rfl) ?_
  simp only [impl_Moebius_tells.l0]
  refine Ev.pos (by decide) (Ev.pos (by decide) (Ev.pos (by simp) ?_))
  simp only [r0, v0.1, v0.2, e1]
  refine Ev.bind (ilies_ev h (-1) 1 (by omega) (by omega)) ?_
  cases lieB m (-1) 1 with
  | true => exact Ev.pos rfl (Ev.now _)
  | false =>
  refine Ev.neg (by decide) ?_
  refine Ev.step (fun k => rfl) ?_
  simp only [impl_Moebius_tells.l0]
  refine Ev.pos (by decide) (Ev.pos (by decide) (Ev.pos (by simp) ?_))
  simp only [r1, v1.1, v1.2, e2]
  refine Ev.bind (ilies_ev h 0 2 (by omega) (by omega)) ?_
  cases lieB m 0 2 with
  | true => exact Ev.pos rfl (Ev.now _)
  | false =>
  refine Ev.neg (by decide) ?_
  refine Ev.step (fun k => rfl) ?_
  simp only [impl_Moebius_tells.l0]
  refine Ev.pos (by decide) (Ev.pos (by decide) (Ev.pos (by simp) ?_))
  simp only [r2, v2.1, v2.2, e3]
  refine Ev.bind (ilies_ev h (-2) 0 (by omega) (by omega)) ?_
  cases lieB m (-2) 0 with
  | true => exact Ev.pos rfl (Ev.now _)
  | false =>
  refine Ev.neg (by decide) ?_
  refine Ev.step (fun k => rfl) ?_
  simp only [impl_Moebius_tells.l0]
  exact Ev.neg (by decide) (Ev.now _)
theorem largest_eq {m : M4} (h : m.sm) : ∃ t, impl_Moebius_largest.f m.a m.b m.c m.d = some t ∧ (t > 288230376151711744 ↔ fits 288230376151711744 m = false) := by
  obtain ⟨⟨a0, a1⟩, ⟨b0, b1⟩, ⟨c0, c1⟩, ⟨d0, d1⟩⟩ := h
  refine ⟨_, rfl, ?_⟩
  rw [← Bool.not_eq_true, fits_iff]
  unfold M4.bd Bd
  rw [wrap_id (i := -m.a) (by omega) (by omega), wrap_id (i := -m.b) (by omega) (by omega), wrap_id (i := -m.c) (by omega) (by omega), wrap_id (i := -m.d) (by omega) (by omega)]
  have hm : ∀ x y : Int, (mx x y > 288230376151711744 ↔ x > 288230376151711744 ∨ y > 288230376151711744) := by
    intro x y; unfold mx; split <;> omega
  simp only [hm]
  omega

/-! ### the image of a machine -/
theorem make_ev {p q : Int} (hp : Bd 4000000 p) (hq : 0 < q) (hq1 : q ≤ 4000000) : ∃ P Q g : Int, Ev (fun k => spec_l03Make.f k p q) (P, Q, 0) ∧ 0 < g ∧ 0 < Q ∧ p = g * P ∧ q = g * Q ∧ Bd 4000000 P ∧ Q ≤ 4000000 := by
  obtain ⟨hp0, hp1⟩ := hp
  have hg : 0 < Nat.gcd p.natAbs q.natAbs := Nat.gcd_pos_of_pos_right _ (by omega)
  have d1 : ((Nat.gcd p.natAbs q.natAbs : Nat) : Int) ∣ p := Int.ofNat_dvd_left.2 (Nat.gcd_dvd_left _ _)
  have d2 : ((Nat.gcd p.natAbs q.natAbs : Nat) : Int) ∣ q := Int.ofNat_dvd_left.2 (Nat.gcd_dvd_right _ _)
  have e1 := qt_mul d1
  have e2 := qt_mul d2
  have a1 := qt_abs hg d1
  have a2 := qt_abs hg d2
  have hQ : 0 < qt q (Nat.gcd p.natAbs q.natAbs) := by
    refine Int.lt_of_mul_lt_mul_left (a := ((Nat.gcd p.natAbs q.natAbs : Nat) : Int)) ?_ (by omega)
    rw [Int.mul_zero, ← e2]; exact hq
  have hc : Nat.gcd (qt p (Nat.gcd p.natAbs q.natAbs)).natAbs (qt q (Nat.gcd p.natAbs q.natAbs)).natAbs = 1 := by
    have h1 : p.natAbs = Nat.gcd p.natAbs q.natAbs * (qt p (Nat.gcd p.natAbs q.natAbs)).natAbs := by conv => lhs; rw [e1, Int.natAbs_mul, Int.natAbs_natCast]
    have h2 : q.natAbs = Nat.gcd p.natAbs q.natAbs * (qt q (Nat.gcd p.natAbs q.natAbs)).natAbs := by conv => lhs; rw [e2, Int.natAbs_mul, Int.natAbs_natCast]
    have h3 : Nat.gcd p.natAbs q.natAbs * Nat.gcd (qt p (Nat.gcd p.natAbs q.natAbs)).natAbs (qt q (Nat.gcd p.natAbs q.natAbs)).natAbs = Nat.gcd p.natAbs q.natAbs * 1 := by
      rw [← Nat.gcd_mul_left, ← h1, ← h2, Nat.mul_one]
    exact Nat.eq_of_mul_eq_mul_left hg h3
  refine ⟨_, _, _, ?_, (by omega : (0 : Int) < ((Nat.gcd p.natAbs q.natAbs : Nat) : Int)), hQ, e1, e2, ⟨by omega, by omega⟩, by omega⟩
  unfold spec_l03Make.f
  refine Ev.bind (common_ev (by omega) (by omega) (by omega) (by omega)) (Ev.neg (by omega) (Ev.neg (by omega) ?_))
  have w1 : wrap64 (Int.tdiv p ((Nat.gcd p.natAbs q.natAbs : Nat) : Int)) = qt p (Nat.gcd p.natAbs q.natAbs) := wrap_id (i := qt p _) (by omega) (by omega)
  have w2 : wrap64 (Int.tdiv q ((Nat.gcd p.natAbs q.natAbs : Nat) : Int)) = qt q (Nat.gcd p.natAbs q.natAbs) := wrap_id (i := qt q _) (by omega) (by omega)
  rw [w1, w2]
  have hr : Ev (fun k => spec_l03Ratio.f k [(⟨qt p (Nat.gcd p.natAbs q.natAbs), qt q (Nat.gcd p.natAbs q.natAbs)⟩ : S55)]) true := by
    have r : ∀ x y : Int, rd_T55 [(⟨x, y⟩ : S55)] 0 = ⟨x, y⟩ := fun _ _ => rfl
    unfold spec_l03Ratio.f
    simp only [r, in_eq', Option.bind_some]
    rw [inI_iff.2 (show 1 ≤ qt q (Nat.gcd p.natAbs q.natAbs) ∧ qt q (Nat.gcd p.natAbs q.natAbs) ≤ 2147483648 from ⟨by omega, by omega⟩), inI_iff.2 (show -2147483648 ≤ qt p (Nat.gcd p.natAbs q.natAbs) ∧ qt p (Nat.gcd p.natAbs q.natAbs) ≤ 2147483648 from ⟨by omega, by omega⟩)]
    refine Ev.pos (by simp) (Ev.pos rfl (Ev.pos rfl (Ev.bind (common_ev (by omega) (by omega) (by omega) (by omega)) ?_)))
    rw [hc]
    exact Ev.now _
  exact Ev.bind hr (Ev.pos rfl (Ev.now _))
/-- Both ends of the values lie from -1 to 1. -/
def inOne (m : M4) : Bool := decide (-(m.d - m.c) ≤ m.b - m.a) && (decide (m.b - m.a ≤ m.d - m.c) && (decide (-(m.d + m.c) ≤ m.b + m.a) && decide (m.b + m.a ≤ m.d + m.c)))
theorem lie_inOne (m : M4) : lieB m (-2) 2 = inOne m := by
  unfold lieB inOne
  congr 1
  · exact decide_eq_decide.2 (by omega)
  congr 1
  · exact decide_eq_decide.2 (by omega)
  congr 1
  · exact decide_eq_decide.2 (by omega)
  · exact decide_eq_decide.2 (by omega)
theorem ratio_cmp {g P Q p q : Int} (hg : 0 < g) (hp : p = g * P) (hq : q = g * Q) : (P < -Q ↔ p < -q) ∧ (P > Q ↔ p > q) := by
  subst hp hq
  refine ⟨⟨fun h => ?_, fun h => ?_⟩, ⟨fun h => ?_, fun h => ?_⟩⟩
  · rw [← Int.mul_neg]; exact Int.mul_lt_mul_of_pos_left h hg
  · rw [← Int.mul_neg] at h; exact Int.lt_of_mul_lt_mul_left h (by omega)
  · exact Int.mul_lt_mul_of_pos_left h hg
  · exact Int.lt_of_mul_lt_mul_left h (by omega)
theorem image_ev {m : M4} (h : m.bd 1000000) (hu : m.up) : ∃ a b c d : Int, Ev (fun k => spec_l03Image.f k [(⟨m.a, m.b, m.c, m.d⟩ : S31)]) (a, b, c, d) ∧ Bd 4000000 b ∧ ((a < -b ∨ c > d) ↔ inOne m = false) := by
  obtain ⟨⟨a0, a1⟩, ⟨b0, b1⟩, ⟨c0, c1⟩, ⟨d0, d1⟩⟩ := h
  obtain ⟨u0, u1⟩ := hu
  have r : rd_T31 [(⟨m.a, m.b, m.c, m.d⟩ : S31)] 0 = ⟨m.a, m.b, m.c, m.d⟩ := rfl
  obtain ⟨P, Q, g, e1, hg, hQ, hp, hq, hP, hQ1⟩ := make_ev (p := m.b - m.a) (q := m.d - m.c) ⟨by omega, by omega⟩ (by omega) (by omega)
  obtain ⟨P', Q', g', e2, hg', hQ', hp', hq', hP', hQ1'⟩ := make_ev (p := m.b + m.a) (q := m.d + m.c) ⟨by omega, by omega⟩ (by omega) (by omega)
  have c1' := ratio_cmp hg hp hq
  have c2' := ratio_cmp hg' hp' hq'
  have hin : inOne m = false ↔ (P < -Q ∨ P > Q ∨ P' < -Q' ∨ P' > Q') := by
    rw [c1'.1, c1'.2, c2'.1, c2'.2]
    unfold inOne
    simp only [Bool.and_eq_false_iff, decide_eq_false_iff_not]
    omega
  have o : ∀ p1 q1 p2 q2 : Int, Bd 4000000 p1 → Bd 4000000 p2 → 0 < q1 → q1 ≤ 4000000 → 0 < q2 → q2 ≤ 4000000 → ∃ t, spec_l03Order.f [(⟨p1, q1⟩ : S55)] [(⟨p2, q2⟩ : S55)] = some t ∧ (t < 0 ↔ p1 * q2 < p2 * q1) := by
    intro p1 q1 p2 q2 h1 h2 k1 l1 k2 l2
    have r : ∀ x y : Int, rd_T55 [(⟨x, y⟩ : S55)] 0 = ⟨x, y⟩ := fun _ _ => rfl
    have bb : ∀ x y : Int, Bd 4000000 x → 0 < y → y ≤ 4000000 → wrap64 (x * y) = x * y := by
      intro x y hx hy hy1
      obtain ⟨x0, x1⟩ := hx
      have b1 : x * y ≤ 4000000 * y := Int.mul_le_mul_of_nonneg_right x1 (by omega)
      have b2 : (-4000000) * y ≤ x * y := Int.mul_le_mul_of_nonneg_right x0 (by omega)
      exact wrap_id (by omega) (by omega)
    unfold spec_l03Order.f
    simp only [r]
    rw [if_pos (by simp), if_pos (by simp), bb p1 q2 h1 k2 l2, bb p2 q1 h2 k1 l1]
    by_cases hc : p1 * q2 < p2 * q1
    · rw [if_pos hc]; exact ⟨_, rfl, by simp [hc]⟩
    · rw [if_neg hc]
      by_cases hd : p1 * q2 > p2 * q1
      · rw [if_pos hd]; exact ⟨_, rfl, by simp [hc]⟩
      · rw [if_neg hd]; exact ⟨_, rfl, by simp [hc]⟩
  obtain ⟨t, ht, htl⟩ := o P' Q' P Q hP' hP hQ' hQ1' hQ hQ1
  have hev : ∀ {x : Int × Int × Int × Int}, (if t < 0 then some (P', Q', P, Q) else some (P, Q, P', Q')) = some x → Ev (fun k => spec_l03Image.f k [(⟨m.a, m.b, m.c, m.d⟩ : S31)]) x := by
    intro x hx
    unfold spec_l03Image.f
    simp only [r]
    rw [wrap_id (i := m.b - m.a) (by omega) (by omega), wrap_id (i := m.d - m.c) (by omega) (by omega), wrap_id (i := m.b + m.a) (by omega) (by omega), wrap_id (i := m.d + m.c) (by omega) (by omega)]
    refine Ev.pos (by simp) (Ev.bind e1 (Ev.bind e2 ?_))
    simp only [ht, Option.bind_some]
    exact ⟨0, fun _ _ => hx⟩
  have key : ∀ x y z w : Int, 0 < y → 0 < w → x * w < z * y → (z < -w → x < -y) ∧ (x > y → z > w) := by
    intro x y z w hy hw hlt
    refine ⟨fun hz => ?_, fun hx => ?_⟩
    · refine Int.not_le.1 fun hx => ?_
      have q1 : (-y) * w ≤ x * w := Int.mul_le_mul_of_nonneg_right hx (by omega)
      have q2 : z * y ≤ (-w) * y := Int.mul_le_mul_of_nonneg_right (by omega) (by omega)
      have q3 : (-y) * w = (-w) * y := by rw [Int.neg_mul, Int.neg_mul, Int.mul_comm]
      omega
    · refine Int.not_le.1 fun hz => ?_
      have q1 : y * w ≤ x * w := Int.mul_le_mul_of_nonneg_right (by omega) (by omega)
      have q2 : z * y ≤ w * y := Int.mul_le_mul_of_nonneg_right (by omega) (by omega)
      have q3 : y * w = w * y := Int.mul_comm _ _
      omega
  by_cases hc : t < 0
  · refine ⟨P', Q', P, Q, hev (by rw [if_pos hc]), ⟨by omega, by omega⟩, ?_⟩
    have k := key P' Q' P Q hQ' hQ (htl.1 hc)
    rw [hin]
    omega
  · refine ⟨P, Q, P', Q', hev (by rw [if_neg hc]), ⟨by omega, by omega⟩, ?_⟩
    have hle : P * Q' ≤ P' * Q := Int.not_lt.1 fun h => hc (htl.2 (by omega))
    rw [hin]
    have k1 : P' < -Q' → P < -Q := by
      intro hz
      refine Int.not_le.1 fun hx => ?_
      have q1 : (-Q) * Q' ≤ P * Q' := Int.mul_le_mul_of_nonneg_right hx (by omega)
      have q2 : P' * Q < (-Q') * Q := Int.mul_lt_mul_of_pos_right hz hQ
      have q3 : (-Q) * Q' = (-Q') * Q := by rw [Int.neg_mul, Int.neg_mul, Int.mul_comm]
      omega
    have k2 : P > Q → P' > Q' := by
      intro hx
      refine Int.not_le.1 fun hz => ?_
      have q1 : Q * Q' < P * Q' := Int.mul_lt_mul_of_pos_right hx hQ'
      have q2 : P' * Q ≤ Q' * Q := Int.mul_le_mul_of_nonneg_right hz (by omega)
      have q3 : Q * Q' = Q' * Q := Int.mul_comm _ _
      omega
    omega

/-! ### a machine runs -/
def digAt (h l : List Int) (n : Nat) : Int := if n < h.length then rd h (n : Int) else rd l (((n - h.length) % l.length : Nat) : Int)
theorem rd_all {l : List Int} (h : l.all digB = true) {n : Nat} (hn : n < l.length) : -1 ≤ rd l (n : Int) ∧ rd l (n : Int) ≤ 1 := by
  have := List.all_eq_true.1 h (rd l (n : Int)) (by simp [rd, List.getD, hn])
  simpa [digB] using this
theorem digAt_dig {h l : List Int} (hs : okS h l = true) (n : Nat) : -1 ≤ digAt h l n ∧ digAt h l n ≤ 1 := by
  obtain ⟨_, h1, _, hh, hl⟩ := okS_iff.1 hs
  unfold digAt
  split
  · exact rd_all hh (by assumption)
  · exact rd_all hl (Nat.mod_lt _ (by omega))
theorem iat_eq {h l : List Int} (hs : okS h l = true) (n : Nat) (hn : n ≤ 100000) : impl_Stream_at.f h l (n : Int) = some (digAt h l n) := by
  obtain ⟨hl, h1, h2, _, _⟩ := okS_iff.1 hs
  unfold impl_Stream_at.f digAt
  by_cases c : n < h.length
  · rw [if_pos (by omega), if_pos (by omega), if_pos c]
  · rw [if_neg (by omega), if_neg (by omega), if_neg c, wrap_id (by omega) (by omega), tmod_nn (by omega)]
    have e : ((n : Int) - (h.length : Int)) % (l.length : Int) = (((n - h.length) % l.length : Nat) : Int) := by
      rw [show (n : Int) - (h.length : Int) = ((n - h.length : Nat) : Int) from by omega, Int.natCast_emod]
    rw [e, if_pos (by omega), if_pos (by have := Nat.mod_lt (n - h.length) (show 0 < l.length by omega); omega)]
theorem sat_eq {h l : List Int} (hs : okS h l = true) (n : Nat) (hn : n ≤ 100000) : spec_l03At.f [(⟨h, l⟩ : S33)] (n : Int) = some (digAt h l n) := by
  have r : rd_T33 [(⟨h, l⟩ : S33)] 0 = ⟨h, l⟩ := rfl
  have e := iat_eq hs n hn
  unfold impl_Stream_at.f at e
  unfold spec_l03At.f
  simp only [r]
  rw [if_pos (by simp)]
  exact e
def tellM (m : M4) (e : Int) : M4 := ⟨2 * m.a - e * m.c, 2 * m.b - e * m.d, m.c, m.d⟩
def takeM (m : M4) (d : Int) : M4 := ⟨m.a, m.a * d + 2 * m.b, m.c, m.c * d + 2 * m.d⟩
theorem dig3 {d : Int} (h : -1 ≤ d ∧ d ≤ 1) : d = -1 ∨ d = 0 ∨ d = 1 := by omega
theorem tellM_ok {m : M4} (h : m.bd 288230376151711744) (hu : m.up) {e : Int} (he : -1 ≤ e ∧ e ≤ 1) : (tellM m e).bd 1000000000000000000 ∧ (tellM m e).up := by
  obtain ⟨⟨a0, a1⟩, ⟨b0, b1⟩, ⟨c0, c1⟩, ⟨d0, d1⟩⟩ := h
  obtain ⟨u0, u1⟩ := hu
  unfold M4.bd M4.up Bd tellM
  rcases dig3 he with rfl | rfl | rfl <;> (dsimp only; omega)
theorem takeM_ok {m : M4} (h : m.bd 288230376151711744) (hu : m.up) {d : Int} (he : -1 ≤ d ∧ d ≤ 1) : (takeM m d).bd 1000000000000000000 ∧ (takeM m d).up := by
  obtain ⟨⟨a0, a1⟩, ⟨b0, b1⟩, ⟨c0, c1⟩, ⟨d0, d1⟩⟩ := h
  obtain ⟨u0, u1⟩ := hu
  unfold M4.bd M4.up Bd takeM
  rcases dig3 he with rfl | rfl | rfl <;> (dsimp only; omega)
theorem ibehind_ev {m : M4} (h : m.bd 288230376151711744) (hu : m.up) {e : Int} (he : -1 ≤ e ∧ e ≤ 1) : Ev (fun k => impl_Moebius_behind.f k m.a m.b m.c m.d e) ((red (tellM m e)).a, (red (tellM m e)).b, (red (tellM m e)).c, (red (tellM m e)).d) := by
  have ok := tellM_ok h hu he
  obtain ⟨⟨a0, a1⟩, ⟨b0, b1⟩, ⟨c0, c1⟩, ⟨d0, d1⟩⟩ := h
  have w1 : wrap64 (wrap64 (2 * m.a) - wrap64 (wrap64 e * m.c)) = (tellM m e).a := by unfold tellM; rcases dig3 he with rfl | rfl | rfl <;> (dsimp only; unfold wrap64; omega)
  have w2 : wrap64 (wrap64 (2 * m.b) - wrap64 (wrap64 e * m.d)) = (tellM m e).b := by unfold tellM; rcases dig3 he with rfl | rfl | rfl <;> (dsimp only; unfold wrap64; omega)
  unfold impl_Moebius_behind.f
  rw [w1, w2]
  exact Ev.bind (ired_ev (M4.bd_sm ok.1 (by decide)) ok.2) (Ev.now _)
theorem iwith_ev {m : M4} (h : m.bd 288230376151711744) (hu : m.up) {e : Int} (he : -1 ≤ e ∧ e ≤ 1) : Ev (fun k => impl_Moebius_with.f k m.a m.b m.c m.d e) ((red (takeM m e)).a, (red (takeM m e)).b, (red (takeM m e)).c, (red (takeM m e)).d) := by
  have ok := takeM_ok h hu he
  obtain ⟨⟨a0, a1⟩, ⟨b0, b1⟩, ⟨c0, c1⟩, ⟨d0, d1⟩⟩ := h
  have w1 : wrap64 (wrap64 (m.a * wrap64 e) + wrap64 (2 * m.b)) = (takeM m e).b := by unfold takeM; rcases dig3 he with rfl | rfl | rfl <;> (dsimp only; unfold wrap64; omega)
  have w2 : wrap64 (wrap64 (m.c * wrap64 e) + wrap64 (2 * m.d)) = (takeM m e).d := by unfold takeM; rcases dig3 he with rfl | rfl | rfl <;> (dsimp only; unfold wrap64; omega)
  unfold impl_Moebius_with.f
  rw [w1, w2]
  exact Ev.bind (ired_ev (M4.bd_sm ok.1 (by decide)) ok.2) (Ev.now _)

/-- One turn: what is told or taken, and the state behind it. -/
def turn (h l : List Int) (m : M4) (taken : Nat) : S51 := match tell m with
  | some e => ⟨true, e, ⟨(red (tellM m e)).a, (red (tellM m e)).b, (red (tellM m e)).c, (red (tellM m e)).d⟩⟩
  | none => ⟨false, digAt h l taken, ⟨(red (takeM m (digAt h l taken))).a, (red (takeM m (digAt h l taken))).b, (red (takeM m (digAt h l taken))).c, (red (takeM m (digAt h l taken))).d⟩⟩
/-- The run: f counts what may still be told and taken. -/
def runT (h l : List Int) (n : Nat) : Nat → M4 → List S51 → Nat → Nat → List S51 × Int
  | 0, _, out, _, _ => (out, 0)
  | f + 1, m, out, taken, told =>
    if told < n then
      match tell m with
      | some e => if fits 288230376151711744 (red (tellM m e)) = true then runT h l n f (red (tellM m e)) (out ++ [turn h l m taken]) taken (told + 1) else ([], 3)
      | none => if taken = 400 then ([], 7) else if fits 288230376151711744 (red (takeM m (digAt h l taken))) = true then runT h l n f (red (takeM m (digAt h l taken))) (out ++ [turn h l m taken]) (taken + 1) told else ([], 3)
    else (out, 0)
theorem i8_dig {e : Int} (h : -1 ≤ e ∧ e ≤ 1) : IntKind.i8.wrap e = e := by
  rcases dig3 h with rfl | rfl | rfl <;> rfl
theorem run_both {h l : List Int} (hs : okS h l = true) (n : Nat) (hn : n ≤ 60) (f : Nat) : ∀ (m : M4) (out : List S51) (taken told : Nat), m.bd 288230376151711744 → m.up → taken ≤ 400 → told ≤ n → f = (n - told) + (400 - taken) + 1 → out.length = taken + told →
    Ev (fun k => impl_Moebius_run.l0 k (n : Int) out (taken : Int) (told : Int) h l m.a m.b m.c m.d) (runT h l n f m out taken told) ∧ Ev (fun k => spec_l03Run.l0 k [(⟨h, l⟩ : S33)] (n : Int) out (told : Int) (taken : Int) m.a m.b m.c m.d) (runT h l n f m out taken told) := by
  induction f with
  | zero => intro m out taken told _ _ _ _ hf; omega
  | succ f ih =>
    intro m out taken told hb hu htk htl hf hlen
    have hl0 : (out.length < 3518437208883) = True := eq_true (by omega)
    by_cases c : told < n
    · cases ht : tell m with
      | some e =>
        have he : -1 ≤ e ∧ e ≤ 1 := by have := tell_dig ht; omega
        have ok := tellM_ok hb hu he
        have okr := red_bd ok.1 ok.2
        obtain ⟨t, lt, ltf⟩ := largest_eq (M4.bd_sm okr (by decide))
        have et : wrap64 ((told : Int) + 1) = ((told + 1 : Nat) : Int) := wnext told (by omega)
        have etu : turn h l m taken = ⟨true, e, ⟨(red (tellM m e)).a, (red (tellM m e)).b, (red (tellM m e)).c, (red (tellM m e)).d⟩⟩ := by unfold turn; rw [ht]
        have hr : runT h l n (f + 1) m out taken told = if fits 288230376151711744 (red (tellM m e)) = true then runT h l n f (red (tellM m e)) (out ++ [turn h l m taken]) taken (told + 1) else ([], 3) := by
          rw [runT, if_pos c, ht]
        rw [hr]
        have w1 : wrap64 (wrap64 (2 * m.a) - wrap64 (e * m.c)) = (tellM m e).a := by
          obtain ⟨⟨a0, a1⟩, ⟨b0, b1⟩, ⟨c0, c1⟩, ⟨d0, d1⟩⟩ := hb
          unfold tellM; rcases dig3 he with rfl | rfl | rfl <;> (dsimp only; unfold wrap64; omega)
        have w2 : wrap64 (wrap64 (2 * m.b) - wrap64 (e * m.d)) = (tellM m e).b := by
          obtain ⟨⟨a0, a1⟩, ⟨b0, b1⟩, ⟨c0, c1⟩, ⟨d0, d1⟩⟩ := hb
          unfold tellM; rcases dig3 he with rfl | rfl | rfl <;> (dsimp only; unfold wrap64; omega)
        refine ⟨Ev.step (fun k => rfl) (Ev.pos (by omega) (Ev.bind (itells_ev hb) ?_)), Ev.step (fun k => rfl) (Ev.pos (by omega) ?_)⟩
        · rw [ht]
          simp only [Option.getD_some, Option.isSome_some]
          refine Ev.pos trivial (Ev.bind (ibehind_ev hb hu he) ?_)
          simp only [lt, Option.bind_some]
          cases hfi : fits 288230376151711744 (red (tellM m e)) with
          | false => exact Ev.pos (ltf.2 hfi) (by rw [if_neg (by decide)]; exact Ev.now _)
          | true =>
            refine Ev.neg (fun hh => by have := ltf.1 hh; rw [hfi] at this; cases this) (Ev.pos (by omega) ?_)
            rw [if_pos rfl, et]
            have := (ih (red (tellM m e)) (out ++ [turn h l m taken]) taken (told + 1) (fits_iff.1 hfi) (red_up ok.2) htk (by omega) (by omega) (by simp; omega)).1
            rw [etu] at this ⊢
            exact this
        · rw [stold_eq hb, ht]
          simp only [Option.bind_some, Option.getD_some, Option.isSome_some]
          refine Ev.pos trivial (Ev.step (fun k => rfl) ?_)
          rw [w1, w2]
          refine Ev.bind (sred_ev (M4.bd_sm ok.1 (by decide)) ok.2) ?_
          dsimp only
          rw [sfits_eq _ (by decide) (by decide)]
          simp only [Option.bind_some]
          cases hfi : fits 288230376151711744 (red (tellM m e)) with
          | false => exact Ev.neg (by decide) (by rw [if_neg (by decide)]; exact Ev.now _)
          | true =>
            refine Ev.pos rfl (Ev.pos (by omega) ?_)
            rw [if_pos rfl, et, i8_dig he]
            have := (ih (red (tellM m e)) (out ++ [turn h l m taken]) taken (told + 1) (fits_iff.1 hfi) (red_up ok.2) htk (by omega) (by omega) (by simp; omega)).2
            rw [etu] at this ⊢
            exact this
      | none =>
        by_cases c4 : taken = 400
        · have hr : runT h l n (f + 1) m out taken told = ([], 7) := by rw [runT, if_pos c, ht]; dsimp only; rw [if_pos c4]
          rw [hr]
          refine ⟨Ev.step (fun k => rfl) (Ev.pos (by omega) (Ev.bind (itells_ev hb) ?_)), Ev.step (fun k => rfl) (Ev.pos (by omega) ?_)⟩
          · rw [ht]
            exact Ev.neg (by decide) (Ev.pos (by omega) (Ev.now _))
          · rw [stold_eq hb, ht]
            simp only [Option.bind_some, Option.getD_none, Option.isSome_none]
            exact Ev.neg (by decide) (Ev.pos (by omega) (Ev.now _))
        · have he := digAt_dig hs taken
          have ok := takeM_ok hb hu he
          have okr := red_bd ok.1 ok.2
          obtain ⟨t, lt, ltf⟩ := largest_eq (M4.bd_sm okr (by decide))
          have et : wrap64 ((taken : Int) + 1) = ((taken + 1 : Nat) : Int) := wnext taken (by omega)
          have etu : turn h l m taken = ⟨false, digAt h l taken, ⟨(red (takeM m (digAt h l taken))).a, (red (takeM m (digAt h l taken))).b, (red (takeM m (digAt h l taken))).c, (red (takeM m (digAt h l taken))).d⟩⟩ := by unfold turn; rw [ht]
          have hr : runT h l n (f + 1) m out taken told = if fits 288230376151711744 (red (takeM m (digAt h l taken))) = true then runT h l n f (red (takeM m (digAt h l taken))) (out ++ [turn h l m taken]) (taken + 1) told else ([], 3) := by
            rw [runT, if_pos c, ht]; dsimp only; rw [if_neg c4]
          rw [hr]
          have w1 : wrap64 (wrap64 (m.a * wrap64 (digAt h l taken)) + wrap64 (2 * m.b)) = (takeM m (digAt h l taken)).b := by
            obtain ⟨⟨a0, a1⟩, ⟨b0, b1⟩, ⟨c0, c1⟩, ⟨d0, d1⟩⟩ := hb
            unfold takeM; rcases dig3 he with e | e | e <;> (rw [e]; dsimp only; unfold wrap64; omega)
          have w2 : wrap64 (wrap64 (m.c * wrap64 (digAt h l taken)) + wrap64 (2 * m.d)) = (takeM m (digAt h l taken)).d := by
            obtain ⟨⟨a0, a1⟩, ⟨b0, b1⟩, ⟨c0, c1⟩, ⟨d0, d1⟩⟩ := hb
            unfold takeM; rcases dig3 he with e | e | e <;> (rw [e]; dsimp only; unfold wrap64; omega)
          refine ⟨Ev.step (fun k => rfl) (Ev.pos (by omega) (Ev.bind (itells_ev hb) ?_)), Ev.step (fun k => rfl) (Ev.pos (by omega) ?_)⟩
          · rw [ht]
            refine Ev.neg (by decide) (Ev.neg (by omega) ?_)
            rw [iat_eq hs taken (by omega)]
            simp only [Option.bind_some]
            refine Ev.bind (iwith_ev hb hu he) ?_
            simp only [lt, Option.bind_some]
            cases hfi : fits 288230376151711744 (red (takeM m (digAt h l taken))) with
            | false => exact Ev.pos (ltf.2 hfi) (by rw [if_neg (by decide)]; exact Ev.now _)
            | true =>
              refine Ev.neg (fun hh => by have := ltf.1 hh; rw [hfi] at this; cases this) (Ev.pos (by omega) ?_)
              rw [if_pos rfl, et]
              have := (ih (red (takeM m (digAt h l taken))) (out ++ [turn h l m taken]) (taken + 1) told (fits_iff.1 hfi) (red_up ok.2) (by omega) htl (by omega) (by simp; omega)).1
              rw [etu] at this ⊢
              exact this
          · rw [stold_eq hb, ht]
            simp only [Option.bind_some, Option.getD_none, Option.isSome_none]
            refine Ev.neg (by decide) (Ev.neg (by omega) ?_)
            rw [sat_eq hs taken (by omega)]
            simp only [Option.bind_some]
            refine Ev.step (fun k => rfl) ?_
            rw [w1, w2]
            refine Ev.bind (sred_ev (M4.bd_sm ok.1 (by decide)) ok.2) ?_
            dsimp only
            rw [sfits_eq _ (by decide) (by decide)]
            simp only [Option.bind_some]
            cases hfi : fits 288230376151711744 (red (takeM m (digAt h l taken))) with
            | false => exact Ev.neg (by decide) (by rw [if_neg (by decide)]; exact Ev.now _)
            | true =>
              refine Ev.pos rfl (Ev.pos (by omega) ?_)
              rw [if_pos rfl, et]
              have := (ih (red (takeM m (digAt h l taken))) (out ++ [turn h l m taken]) (taken + 1) told (fits_iff.1 hfi) (red_up ok.2) (by omega) htl (by omega) (by simp; omega)).2
              rw [etu] at this ⊢
              exact this
    · have hr : runT h l n (f + 1) m out taken told = (out, 0) := by rw [runT, if_neg c]
      rw [hr]
      exact ⟨Ev.step (fun k => rfl) (Ev.neg (by omega) (Ev.now _)), Ev.step (fun k => rfl) (Ev.neg (by omega) (Ev.now _))⟩

/-- The whole answer. -/
def turnsOf (m : M4) (h l : List Int) (n : Int) : List S51 × Int :=
  if okM m = true ∧ okS h l = true then (if inI n 0 60 = true then (if inOne m = true then runT h l n.toNat (n.toNat + 400 + 1) (red m) [] 0 0 else ([], 4)) else ([], 2)) else ([], 1)
theorem irun_ev (m : M4) (h l : List Int) (n : Int) : Ev (fun k => impl_Moebius_run.f k m.a m.b m.c m.d h l n) (turnsOf m h l n) := by
  unfold impl_Moebius_run.f turnsOf
  refine Ev.bind (ivalid_ev m) ?_
  cases hm : okM m with
  | false =>
    refine Ev.neg (by decide) (Ev.step (fun k => rfl) ?_)
    simp only [impl_Moebius_run.j0]
    refine Ev.pos (by first | rfl | trivial) ?_
    rw [if_neg (by simp)]; exact Ev.now _
  | true =>
    refine Ev.pos rfl ?_
    rw [ivalidS_eq]
    simp only [Option.bind_some]
    cases hs : okS h l with
    | false =>
      refine Ev.step (fun k => rfl) ?_
      simp only [impl_Moebius_run.j0]
      refine Ev.pos (by first | rfl | trivial) ?_
      rw [if_neg (by simp)]; exact Ev.now _
    | true =>
      obtain ⟨hb, hu⟩ := okM_iff.1 hm
      refine Ev.step (fun k => rfl) ?_
      simp only [impl_Moebius_run.j0]
      refine Ev.neg (by decide) ?_
      rw [within_eq', if_pos (by simp)]
      simp only [Option.bind_some]
      cases hn : inI n 0 60 with
      | false =>
        refine Ev.neg (by decide) ?_
        rw [if_neg (by decide)]; exact Ev.now _
      | true =>
        refine Ev.pos rfl ?_
        rw [if_pos rfl]
        have hn := inI_iff.1 hn
        have hb' : m.bd 288230376151711744 := ⟨⟨by have := hb.1.1; omega, by have := hb.1.2; omega⟩, ⟨by have := hb.2.1.1; omega, by have := hb.2.1.2; omega⟩, ⟨by have := hb.2.2.1.1; omega, by have := hb.2.2.1.2; omega⟩, ⟨by have := hb.2.2.2.1; omega, by have := hb.2.2.2.2; omega⟩⟩
        refine Ev.bind (ilies_ev hb' (-2) 2 (by omega) (by omega)) ?_
        rw [lie_inOne]
        cases inOne m with
        | false =>
          refine Ev.neg (by decide) ?_
          rw [if_neg (by decide)]; exact Ev.now _
        | true =>
          refine Ev.pos rfl (Ev.bind (ired_ev (M4.bd_sm hb' (by decide)) hu) ?_)
          rw [if_pos rfl]
          have := (run_both hs n.toNat (by omega) (n.toNat + 400 + 1) (red m) [] 0 0 (red_bd hb' hu) (red_up hu) (by omega) (by omega) (by omega) rfl).1
          rw [show ((n.toNat : Nat) : Int) = n from by omega] at this
          exact this
theorem sasked_ev (m : M4) (h l : List Int) (n : Int) (hh : h.length ≤ 140737488355327) (hl : l.length ≤ 140737488355327) : Ev (fun k => spec_l03Asked.f k [(⟨m.a, m.b, m.c, m.d⟩ : S31)] [(⟨h, l⟩ : S33)] n)
    (if okM m = true ∧ okS h l = true then (if inI n 0 60 = true then (if inOne m = true then 0 else 4) else 2) else 1) := by
  unfold spec_l03Asked.f
  rw [smach_eq]
  simp only [Option.bind_some]
  cases hm : okM m with
  | false =>
    refine Ev.neg (by decide) (Ev.step (fun k => rfl) ?_)
    simp only [spec_l03Asked.j0]
    refine Ev.pos (by first | rfl | trivial) ?_
    rw [if_neg (by simp)]; exact Ev.now _
  | true =>
    refine Ev.pos rfl (Ev.bind (sok_ev h l hh hl) ?_)
    cases hs : okS h l with
    | false =>
      refine Ev.step (fun k => rfl) ?_
      simp only [spec_l03Asked.j0]
      refine Ev.pos (by first | rfl | trivial) ?_
      rw [if_neg (by simp)]; exact Ev.now _
    | true =>
      obtain ⟨hb, hu⟩ := okM_iff.1 hm
      refine Ev.step (fun k => rfl) ?_
      simp only [spec_l03Asked.j0]
      refine Ev.neg (by decide) ?_
      rw [in_eq', if_pos (by simp)]
      simp only [Option.bind_some]
      cases hn : inI n 0 60 with
      | false =>
        refine Ev.neg (by decide) ?_
        rw [if_neg (by decide)]; exact Ev.now _
      | true =>
        refine Ev.pos rfl ?_
        rw [if_pos rfl]
        obtain ⟨a, b, c, d, he, hbd, hiff⟩ := image_ev hb hu
        refine Ev.bind he ?_
        dsimp only
        rw [wrap_id (i := -b) (by have := hbd.2; omega) (by have := hbd.1; omega)]
        cases hi : inOne m with
        | false =>
          rw [show (if (false : Bool) = true then (0 : Int) else 4) = 4 from rfl]
          rcases hiff.2 hi with h1 | h1
          · exact Ev.pos h1 (Ev.now _)
          · by_cases h2 : a < -b
            · exact Ev.pos h2 (Ev.now _)
            · exact Ev.neg h2 (Ev.pos h1 (Ev.now _))
        | true =>
          rw [show (if (true : Bool) = true then (0 : Int) else 4) = 0 from rfl]
          exact Ev.neg (fun h1 => by have := hiff.1 (.inl h1); rw [hi] at this; cases this) (Ev.neg (fun h1 => by have := hiff.1 (.inr h1); rw [hi] at this; cases this) (Ev.now _))
theorem srun_ev {m : M4} {h l : List Int} {n : Int} (hm : okM m = true) (hs : okS h l = true) (hn : inI n 0 60 = true) (hi : inOne m = true) : Ev (fun k => spec_l03Run.f k [(⟨m.a, m.b, m.c, m.d⟩ : S31)] [(⟨h, l⟩ : S33)] n) (turnsOf m h l n) := by
  have r : rd_T31 [(⟨m.a, m.b, m.c, m.d⟩ : S31)] 0 = ⟨m.a, m.b, m.c, m.d⟩ := rfl
  obtain ⟨hb, hu⟩ := okM_iff.1 hm
  have hb' : m.bd 288230376151711744 := ⟨⟨by have := hb.1.1; omega, by have := hb.1.2; omega⟩, ⟨by have := hb.2.1.1; omega, by have := hb.2.1.2; omega⟩, ⟨by have := hb.2.2.1.1; omega, by have := hb.2.2.1.2; omega⟩, ⟨by have := hb.2.2.2.1; omega, by have := hb.2.2.2.2; omega⟩⟩
  unfold spec_l03Run.f turnsOf
  simp only [r]
  refine Ev.pos (by simp) (Ev.bind (sred_ev (M4.bd_sm hb' (by decide)) hu) ?_)
  rw [if_pos ⟨hm, hs⟩, if_pos hn, if_pos hi]
  have hn := inI_iff.1 hn
  have := (run_both hs n.toNat (by omega) (n.toNat + 400 + 1) (red m) [] 0 0 (red_bd hb' hu) (red_up hu) (by omega) (by omega) (by omega) rfl).2
  rw [show ((n.toNat : Nat) : Int) = n from by omega] at this
  exact this

theorem rd51_mid (d : List S51) (x : S51) (r : List S51) : rd_T51 (d ++ x :: r) (d.length : Int) = x := by
  simp [rd_T51, List.getD]
theorem runT_len (h l : List Int) (n f : Nat) : ∀ (m : M4) (out : List S51) (tk td : Nat), (runT h l n f m out tk td).1.length ≤ out.length + f := by
  induction f with
  | zero => intro m out tk td; simp [runT]
  | succ f ih =>
    intro m out tk td
    rw [runT]
    split
    · split
      · split
        · refine Nat.le_trans (ih _ _ _ _) ?_; simp; omega
        · simp
      · split
        · simp
        · split
          · refine Nat.le_trans (ih _ _ _ _) ?_; simp; omega
          · simp
    · dsimp only; omega
theorem turnsOf_len (m : M4) (h l : List Int) (n : Int) : (turnsOf m h l n).1.length ≤ 461 := by
  unfold turnsOf
  split
  · split
    · rename_i h1 h2
      have := inI_iff.1 h2
      split
      · refine Nat.le_trans (runT_len _ _ _ _ _ _ _ _) ?_; simp; omega
      · simp
    · simp
  · simp
end Go.Proofs.Ytififhihgkbafaa.Pure

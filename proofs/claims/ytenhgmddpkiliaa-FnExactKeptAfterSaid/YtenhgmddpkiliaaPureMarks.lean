/- Marks on lines: what the laws write into the lines, and what they then find. Plain Lean over the printed functions. -/
import Derived.Test.YtenhgmddpkiliaaPBx1
import Derived.Test.YtenhgmddpkiliaaPBx2
import Derived.Test.YtenhgmddpkiliaaPureLines
namespace Go.Proofs.Ytenhgmddpkiliaa.Pure
open Go.RowKit Go.Proofs.Ytenhgmddpkiliaa.PB Go.Proofs.YtenhgmddpkiliaaW.PrintWords Go.Proofs.YtenhgmddpkiliaaW.PrintLast Go.Proofs.YtenhgmddpkiliaaW.PrintMore
set_option linter.unusedVariables false
set_option linter.unusedSimpArgs false

theorem wrap_lt (i : Int) : wrap64 i < 9223372036854775808 := by
  unfold wrap64
  omega
theorem set_mid {α : Type} (d : List α) (x y : α) (r : List α) : (d ++ x :: r).set ((d.length : Int)).toNat y = d ++ y :: r := by
  rw [show ((d.length : Int)).toNat = d.length from by omega]
  simp
theorem set_midN {α : Type} (d : List α) (x y : α) (r : List α) (n : Nat) (h : n = d.length) : (d ++ x :: r).set ((n : Int)).toNat y = d ++ y :: r := by
  subst h; exact set_mid d x y r
/-! ### Marks on books -/
theorem markText_loop (n : Nat) : ∀ (a : Int) (s : ByteArray), a < (10 : Int) ^ n → a < 9223372036854775808 → s.size + n + 2 ≤ 9223372036854775807 → ∃ r, Ev (fun k => laws_markText.l0 k a s) r := by
  induction n with
  | zero =>
    intro a s ha hb hs
    refine ⟨(⟨#[109]⟩ : ByteArray) ++ s, Ev.step (fun k => rfl) ?_⟩
    · simp only [laws_markText.l0]
      refine Ev.neg (by simp at ha; omega) ?_
      refine Ev.pos (by omega) ?_
      exact Ev.now _
  | succ n ih =>
    intro a s ha hb hs
    by_cases hp : a > 0
    · have h1 : wrap64 (Int.tdiv a 10) = a / 10 := by
        rw [Int.tdiv_eq_ediv_of_nonneg (by omega)]; unfold wrap64; omega
      have hsz : ∀ b : Int, (strOfNums ([b] : List Int)).size = 1 := by intro b; simp [strOfNums, ByteArray.size]
      obtain ⟨r, hr⟩ := ih (a / 10) (strOfNums (([(wrap64 (48 + (Int.tmod a 10))) % 256] : List Int)) ++ s) (by rw [Int.pow_succ] at ha; omega) (by omega) (by rw [ByteArray.size_append, hsz]; omega)
      refine ⟨r, Ev.step (fun k => rfl) ?_⟩
      simp only [laws_markText.l0, Option.bind_some]
      refine Ev.pos hp ?_
      refine Ev.pos (by rw [hsz]; omega) ?_
      rw [h1]
      exact hr
    · refine ⟨(⟨#[109]⟩ : ByteArray) ++ s, Ev.step (fun k => rfl) ?_⟩
      · simp only [laws_markText.l0]
        refine Ev.neg hp ?_
        refine Ev.pos (by omega) ?_
        exact Ev.now _

theorem markText_ev (a : Int) (h : a < 9223372036854775808) : ∃ r, Ev (fun k => laws_markText.f k a) r := by
  unfold laws_markText.f
  by_cases h0 : a ≤ 0
  · simp only [if_pos h0]; exact ⟨_, Ev.now _⟩
  · simp only [if_neg h0]
    exact markText_loop 19 a _ (by omega) h (by decide)

noncomputable def markT (a : Int) : ByteArray := by
  classical exact if h : a < 9223372036854775808 then Classical.choose (markText_ev a h) else ⟨#[]⟩
theorem markT_ev {a : Int} (h : a < 9223372036854775808) : Ev (fun k => laws_markText.f k a) (markT a) := by
  unfold markT; rw [dif_pos h]; exact Classical.choose_spec (markText_ev a h)

def nx (a : Int) : Int := wrap64 (a + 1)
theorem nx_lt (a : Int) : nx a < 9223372036854775808 := wrap_lt _
noncomputable def mk45 (a : Int) : S45 := ⟨markT a, IntKind.i8.wrap (nx a), markT (nx (nx a)), markT (nx (nx (nx a))), nx (nx (nx (nx a))), nx (nx (nx (nx (nx a))))⟩
noncomputable def mks45 : Nat → Int → List S45
  | 0, _ => []
  | n + 1, a => mk45 a :: mks45 n (nx (nx (nx (nx (nx (nx a))))))
def mke : Nat → Int → Int
  | 0, a => a
  | n + 1, a => mke n (nx (nx (nx (nx (nx (nx a))))))

theorem markLineS_loop (r : List S45) : ∀ (d : List S45) (a : Int), a < 9223372036854775808 → d.length + r.length ≤ 140737488355327 → Ev (fun k => laws_markLineS.l0 k (d ++ r) a (d.length : Int)) (mke r.length a, d ++ mks45 r.length a) := by
  induction r with
  | nil =>
    intro d a ha h
    refine Ev.step (fun k => rfl) ?_
    simp only [laws_markLineS.l0]
    refine Ev.neg (by simp) ?_
    exact Ev.now _
  | cons x r ih =>
    intro d a ha h
    simp only [List.length_cons] at h
    have hq := ih (d ++ [mk45 a]) (nx (nx (nx (nx (nx (nx a)))))) (nx_lt _) (by simp; omega)
    refine Ev.step (fun k => rfl) ?_
    simp only [laws_markLineS.l0]
    refine Ev.pos (by simp; omega) ?_
    refine Ev.bind (markT_ev ha) ?_
    refine Ev.pos (by omega) ?_
    simp only [set_mid, rd45_mid _ _ _ _ rfl, Option.bind_some]
    refine Ev.bind (markT_ev (wrap_lt _)) ?_
    refine Ev.bind (markT_ev (wrap_lt _)) ?_
    rw [wrap_up (i := (d.length : Int)) (by omega) (by omega)]
    simp only [List.length_append, List.length_cons, List.length_nil, List.append_assoc, List.cons_append, List.nil_append, Nat.zero_add] at hq
    exact hq

theorem markLineS_ev (l : List S45) (h : l.length ≤ 140737488355327) : Ev (fun k => laws_markLineS.f k l 1) (mke l.length 1, mks45 l.length 1) :=
  markLineS_loop l [] 1 (by omega) (by simpa using h)

theorem mke_lt (n : Nat) : ∀ a : Int, a < 9223372036854775808 → mke n a < 9223372036854775808 := by
  induction n with
  | zero => intro a h; exact h
  | succ n ih => intro a h; exact ih _ (nx_lt _)
theorem mke_small (n : Nat) : ∀ a : Int, 0 ≤ a → a + 6 * n < 9223372036854775807 → mke n a = a + 6 * n := by
  induction n with
  | zero => intro a h k; simp [mke]
  | succ n ih =>
    intro a h k
    have e : ∀ b : Int, 0 ≤ b → b < 9223372036854775807 → nx b = b + 1 := by intro b h0 h1; unfold nx wrap64; omega
    simp only [mke]
    rw [e a (by omega) (by omega), e (a + 1) (by omega) (by omega), e (a + 1 + 1) (by omega) (by omega), e (a + 1 + 1 + 1) (by omega) (by omega), e (a + 1 + 1 + 1 + 1) (by omega) (by omega), e (a + 1 + 1 + 1 + 1 + 1) (by omega) (by omega), ih _ (by omega) (by omega)]
    omega
end Go.Proofs.Ytenhgmddpkiliaa.Pure

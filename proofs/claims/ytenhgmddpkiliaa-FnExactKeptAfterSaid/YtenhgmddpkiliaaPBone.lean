/- The reference's l02One, l02Two, l00In: what they answer. -/
import Derived.Test.YtenhgmddpkiliaaPBx0
import Derived.Test.YtenhgmddpkiliaaPBx2
import Derived.Test.YtenhgmddpkiliaaPBx3
namespace Go.Proofs.Ytenhgmddpkiliaa.PB
open Go.RowKit Go.Proofs.YtenhgmddpkiliaaW.PrintWords Go.Proofs.YtenhgmddpkiliaaW.PrintLast Go.Proofs.YtenhgmddpkiliaaW.PrintMore Go.Lib
set_option linter.unusedVariables false
set_option linter.unusedSimpArgs false

def oneB (k : Int) : Bool := k == 6 || k == 7 || k == 10
def twoB (k : Int) : Bool := (decide (2 ≤ k) && decide (k ≤ 5)) || k == 8 || k == 9
def inB (n a b : Int) : Bool := decide (a ≤ n) && decide (n ≤ b)

theorem l02One_eq (k : Int) : spec_l02One.f k = some (oneB k) := by
  unfold spec_l02One.f oneB
  by_cases h : k = 6
  · simp [h]
  · by_cases h2 : k = 7
    · simp [h, h2]
    · simp [h, h2]
theorem l02Two_eq (k : Int) : spec_l02Two.f k = some (twoB k) := by
  unfold spec_l02Two.f twoB
  by_cases h : 2 ≤ k
  · by_cases h2 : k ≤ 5
    · simp [h, h2]
    · by_cases h3 : k = 8
      · simp [h3]
      · simp [h, h2, h3]
  · by_cases h3 : k = 8
    · simp [h3]
    · simp [h, h3]
theorem l00In_eq (n a b : Int) : spec_l00In.f n a b = some (inB n a b) := by
  unfold spec_l00In.f inB
  by_cases h : a ≤ n
  · simp [h]
  · simp [h]

theorem one_any (k : Int) (w : World) : Calls Try.prog 69 #[.int .i8 k] w fun e w' => e = .returned (.bool (oneB k)) ∧ ∃ n, w' = w.drewN n :=
  (spec_l02One.calls k _ w (l02One_eq k)).mono fun _ _ h => ⟨h.1, h.2.out⟩
theorem two_any (k : Int) (w : World) : Calls Try.prog 70 #[.int .i8 k] w fun e w' => e = .returned (.bool (twoB k)) ∧ ∃ n, w' = w.drewN n :=
  (spec_l02Two.calls k _ w (l02Two_eq k)).mono fun _ _ h => ⟨h.1, h.2.out⟩
theorem in_any (n a b : Int) (w : World) : Calls Try.prog 107 #[.int .i64 n, .int .i64 a, .int .i64 b] w fun e w' => e = .returned (.bool (inB n a b)) ∧ ∃ m, w' = w.drewN m :=
  (spec_l00In.calls n a b _ w (l00In_eq n a b)).mono fun _ _ h => ⟨h.1, h.2.out⟩
end Go.Proofs.Ytenhgmddpkiliaa.PB

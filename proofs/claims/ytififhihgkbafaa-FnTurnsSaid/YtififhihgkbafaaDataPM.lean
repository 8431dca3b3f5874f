/- What is known of the data that come in, and that each reading gives them: written by xrow.py out of the translation's table of types. -/
import Derived.Test.YtififhihgkbafaaPMx0
import Derived.Test.YtififhihgkbafaaOpen
import Derived.KernelRfl
namespace Go.Proofs.Ytififhihgkbafaa.PM
open Go.Proofs.YtififhihgkbafaaOpen Go.Proofs.YtififhihgkbafaaW.PrintWords Go.RowKit
set_option linter.unusedVariables false
/-- What is known of a slice of the type 44 that comes in. -/
def GL44 (xs : List Int) : Prop := (∀ x_ ∈ xs, (Lit.int .u8 x_).wf = true) ∧ xs.length * 1 ≤ 140737488351232
theorem opens44 : Opens Try.prog 44 (Kd.slice 5 (Kd.int .u8)) GL44 :=
  opens_imp (opens_slice Try.underlying44 (by kernel_rfl) (opens_int Try.underlying5 (by kernel_rfl))) (fun xs h => ⟨h.1, by have := h.2; rw [show Try.prog.bytesOf 5 = 1 from by kernel_rfl] at this; exact this⟩)
end Go.Proofs.Ytififhihgkbafaa.PM

/- What is known of the data that come in, and that each reading gives them: written by xrow.py out of the translation's table of types. -/
import Derived.Test.YtenhgmddpkiliaaPBx0
import Derived.Test.YtenhgmddpkiliaaOpen
import Derived.KernelRfl
namespace Go.Proofs.Ytenhgmddpkiliaa.PB
open Go.Proofs.YtenhgmddpkiliaaOpen Go.Proofs.YtenhgmddpkiliaaW.PrintWords Go.RowKit
set_option linter.unusedVariables false
instance : Inhabited S86 := ⟨z86⟩
/-- What is known of a value of the type 86 that comes in. -/
def G86 (x : S86) : Prop := (Lit.int .i8 x.f0).wf = true ∧ (Lit.int .i16 x.f1).wf = true ∧ (Lit.int .i16 x.f2).wf = true ∧ (Lit.int .i64 x.f3).wf = true ∧ (Lit.int .i64 x.f4).wf = true
set_option maxRecDepth 100000 in
theorem opens86 : Opens Try.prog 86 k86 G86 :=
  opens_iso (opens_struct Try.underlying86 (by kernel_rfl) (opensF_cons (off := 0) (off' := 1) (opens_int Try.underlying40 (by kernel_rfl)) rfl (opensF_cons (off := 1) (off' := 2) (opens_int Try.underlying81 (by kernel_rfl)) rfl (opensF_cons (off := 2) (off' := 3) (opens_int Try.underlying81 (by kernel_rfl)) rfl (opensF_cons (off := 3) (off' := 4) (opens_int Try.underlying2 (by kernel_rfl)) rfl (opensF_one (off := 4) (opens_int Try.underlying2 (by kernel_rfl)) rfl) rfl) rfl) rfl) rfl)) (fun x : S86 => (x.f0, x.f1, x.f2, x.f3, x.f4)) (fun p => ⟨p.1, p.2.1, p.2.2.1, p.2.2.2.1, p.2.2.2.2⟩) (fun _ => rfl)
theorem opens30 : Opens Try.prog 30 (Kd.slice 86 k86) (fun xs => (∀ x_ ∈ xs, G86 x_) ∧ xs.length * 24 ≤ 140737488351232) :=
  opens_imp (opens_slice Try.underlying30 (by kernel_rfl) opens86) (fun xs h => ⟨h.1, by have := h.2; rw [show Try.prog.bytesOf 86 = 24 from by kernel_rfl] at this; exact this⟩)
end Go.Proofs.Ytenhgmddpkiliaa.PB

/- What is known of the data that come in, and that each reading gives them: written by xrow.py out of the translation's table of types. -/
import Derived.Test.YtenhgmddpkiliaaPBx0
import Derived.Test.YtenhgmddpkiliaaOpen
import Derived.KernelRfl
namespace Go.Proofs.Ytenhgmddpkiliaa.PB
open Go.Proofs.YtenhgmddpkiliaaOpen Go.Proofs.YtenhgmddpkiliaaW.PrintWords Go.RowKit
set_option linter.unusedVariables false
instance : Inhabited S42 := ⟨z42⟩
/-- What is known of a value of the type 42 that comes in. -/
def G42 (x : S42) : Prop := x.f0.size ≤ 140737488351232 ∧ (Lit.int .i8 x.f1).wf = true ∧ x.f2.size ≤ 140737488351232 ∧ x.f3.size ≤ 140737488351232 ∧ (Lit.int .i64 x.f4).wf = true ∧ (Lit.int .i64 x.f5).wf = true
set_option maxRecDepth 100000 in
theorem opens42 : Opens Try.prog 42 k42 G42 :=
  opens_iso (opens_struct Try.underlying42 (by kernel_rfl) (opensF_cons (off := 0) (off' := 1) (opens_string Try.underlying9 (by kernel_rfl)) rfl (opensF_cons (off := 1) (off' := 2) (opens_int Try.underlying40 (by kernel_rfl)) rfl (opensF_cons (off := 2) (off' := 3) (opens_string Try.underlying9 (by kernel_rfl)) rfl (opensF_cons (off := 3) (off' := 4) (opens_string Try.underlying9 (by kernel_rfl)) rfl (opensF_cons (off := 4) (off' := 5) (opens_int Try.underlying2 (by kernel_rfl)) rfl (opensF_one (off := 5) (opens_int Try.underlying2 (by kernel_rfl)) rfl) rfl) rfl) rfl) rfl) rfl)) (fun x : S42 => (x.f0, x.f1, x.f2, x.f3, x.f4, x.f5)) (fun p => ⟨p.1, p.2.1, p.2.2.1, p.2.2.2.1, p.2.2.2.2.1, p.2.2.2.2.2⟩) (fun _ => rfl)
/-- What is known of a slice of the type 22 that comes in. -/
def GL22 (xs : List S42) : Prop := (∀ x_ ∈ xs, G42 x_) ∧ xs.length * 72 ≤ 140737488351232
theorem opens22 : Opens Try.prog 22 (Kd.slice 42 k42) GL22 :=
  opens_imp (opens_slice Try.underlying22 (by kernel_rfl) opens42) (fun xs h => ⟨h.1, by have := h.2; rw [show Try.prog.bytesOf 42 = 72 from by kernel_rfl] at this; exact this⟩)
instance : Inhabited S116 := ⟨z116⟩
/-- What is known of an array of the type 116 that comes in. -/
def G116 (x : S116) : Prop := (Lit.int .u32 x.f0).wf = true ∧ (Lit.int .u32 x.f1).wf = true ∧ (Lit.int .u32 x.f2).wf = true ∧ (Lit.int .u32 x.f3).wf = true ∧ (Lit.int .u32 x.f4).wf = true ∧ (Lit.int .u32 x.f5).wf = true
set_option maxRecDepth 100000 in
theorem opens116 : Opens Try.prog 116 k116 G116 :=
  opens_iso (opens_array (fs := [(⟨"", 115, 0, false, "", "", 0⟩ : Field), (⟨"", 115, 1, false, "", "", 0⟩ : Field), (⟨"", 115, 2, false, "", "", 0⟩ : Field), (⟨"", 115, 3, false, "", "", 0⟩ : Field), (⟨"", 115, 4, false, "", "", 0⟩ : Field), (⟨"", 115, 5, false, "", "", 0⟩ : Field)]) Try.underlying116 (by kernel_rfl) rfl (fun i f h => by
    have he : Try.prog.cellsOf 115 = 1 := by kernel_rfl
    rw [he]
    match i with
    | 0 => obtain rfl := Option.some.inj h; exact ⟨rfl, rfl⟩
    | 1 => obtain rfl := Option.some.inj h; exact ⟨rfl, rfl⟩
    | 2 => obtain rfl := Option.some.inj h; exact ⟨rfl, rfl⟩
    | 3 => obtain rfl := Option.some.inj h; exact ⟨rfl, rfl⟩
    | 4 => obtain rfl := Option.some.inj h; exact ⟨rfl, rfl⟩
    | 5 => obtain rfl := Option.some.inj h; exact ⟨rfl, rfl⟩
    | i + 6 => simp at h) (opensF_cons (off := 0) (off' := 1) (opens_int Try.underlying115 (by kernel_rfl)) rfl (opensF_cons (off := 1) (off' := 2) (opens_int Try.underlying115 (by kernel_rfl)) rfl (opensF_cons (off := 2) (off' := 3) (opens_int Try.underlying115 (by kernel_rfl)) rfl (opensF_cons (off := 3) (off' := 4) (opens_int Try.underlying115 (by kernel_rfl)) rfl (opensF_cons (off := 4) (off' := 5) (opens_int Try.underlying115 (by kernel_rfl)) rfl (opensF_one (off := 5) (opens_int Try.underlying115 (by kernel_rfl)) rfl) rfl) rfl) rfl) rfl) rfl)) (fun x : S116 => (x.f0, x.f1, x.f2, x.f3, x.f4, x.f5)) (fun p => ⟨p.1, p.2.1, p.2.2.1, p.2.2.2.1, p.2.2.2.2.1, p.2.2.2.2.2⟩) (fun _ => rfl)
instance : Inhabited S118 := ⟨z118⟩
/-- What is known of a value of the type 118 that comes in. -/
def G118 (x : S118) : Prop := True ∧ G116 x.f1
set_option maxRecDepth 100000 in
theorem opens118 : Opens Try.prog 118 k118 G118 :=
  opens_iso (opens_struct Try.underlying118 (by kernel_rfl) (opensF_cons (off := 0) (off' := 1) (opens_bool Try.underlying4 (by kernel_rfl)) rfl (opensF_one (off := 1) opens116 rfl) rfl)) (fun x : S118 => (x.f0, x.f1)) (fun p => ⟨p.1, p.2⟩) (fun _ => rfl)
instance : Inhabited S120 := ⟨z120⟩
/-- What is known of a value of the type 120 that comes in. -/
def G120 (x : S120) : Prop := x.f0.size ≤ 140737488351232 ∧ (Lit.int .i64 x.f1).wf = true ∧ G118 x.f2
set_option maxRecDepth 100000 in
theorem opens120 : Opens Try.prog 120 k120 G120 :=
  opens_iso (opens_struct Try.underlying120 (by kernel_rfl) (opensF_cons (off := 0) (off' := 1) (opens_string Try.underlying9 (by kernel_rfl)) rfl (opensF_cons (off := 1) (off' := 2) (opens_int Try.underlying2 (by kernel_rfl)) rfl (opensF_one (off := 2) opens118 rfl) rfl) rfl)) (fun x : S120 => (x.f0, x.f1, x.f2)) (fun p => ⟨p.1, p.2.1, p.2.2⟩) (fun _ => rfl)
/-- What is known of a slice of the type 67 that comes in. -/
def GL67 (xs : List S120) : Prop := (∀ x_ ∈ xs, G120 x_) ∧ xs.length * 56 ≤ 140737488351232
theorem opens67 : Opens Try.prog 67 (Kd.slice 120 k120) GL67 :=
  opens_imp (opens_slice Try.underlying67 (by kernel_rfl) opens120) (fun xs h => ⟨h.1, by have := h.2; rw [show Try.prog.bytesOf 120 = 56 from by kernel_rfl] at this; exact this⟩)
end Go.Proofs.Ytenhgmddpkiliaa.PB

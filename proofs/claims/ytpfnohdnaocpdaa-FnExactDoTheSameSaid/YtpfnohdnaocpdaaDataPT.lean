/- What is known of the data that come in, and that each reading gives them: written by xrow.py out of the translation's table of types. -/
import Derived.Test.YtpfnohdnaocpdaaPTx0
import Derived.Test.YtpfnohdnaocpdaaOpen
import Derived.KernelRfl
namespace Go.Proofs.Ytpfnohdnaocpdaa.PT
open Go.Proofs.YtpfnohdnaocpdaaOpen Go.Proofs.YtpfnohdnaocpdaaW.PrintWords Go.RowKit
set_option linter.unusedVariables false
/-! #### struct type 24 -/
structure S24 where
  f0 : (List S158)
def z24 : S24 := ⟨([] : List S158)⟩
def k24 : Kd S24 := Kd.iso (Kd.slice 158 k158) (fun x : S24 => x.f0)
theorem k24_open {w : World} {x : S24} {cs : List Value} (h : k24.K w x cs) : ∃ A0 c0, cs = [.slice A0 x.f0.length c0] ∧ x.f0.length ≤ c0 ∧ k158.C w A0 x.f0.length x.f0 := by
  obtain ⟨A0, c0, rfl, l0, g0⟩ := h
  exact ⟨A0, c0, rfl, l0, g0⟩
theorem k24_openM {w : World} {base : Nat} {ok : Nat → Prop} {x : S24} {cs : List Value} (h : k24.M w base ok x cs) : ∃ v0, cs = [v0] ∧ k158.R 158 w base ok v0 x.f0 := by
  obtain ⟨v0, rfl, g0⟩ := h
  exact ⟨v0, rfl, g0⟩
theorem k24_mk (w : World) (x : S24) {A0 : Option Addr} {c0 : Nat} (l0 : x.f0.length ≤ c0) (g0 : k158.C w A0 x.f0.length x.f0) : k24.K w x [.slice A0 x.f0.length c0] := ⟨A0, c0, rfl, l0, g0⟩
theorem k24_mkM (w : World) (base : Nat) (ok : Nat → Prop) (x : S24) {v0 : Value} (g0 : k158.R 158 w base ok v0 x.f0) : k24.M w base ok x [v0] := ⟨v0, rfl, g0⟩
def rd_T24 (xs : List S24) (i : Int) : S24 := xs.getD i.toNat z24
theorem at_T24 {w : World} {A : Option Addr} {n : Nat} {xs : List S24} (h : Kd.C k24 w A n xs) (i : Int) (h0 : 0 ≤ i) (h1 : i < n) : ∃ ad A0 c0, A = some ad ∧ w.cell? (ad.add i.toNat) = some (.slice A0 (rd_T24 xs i).f0.length c0) ∧ (rd_T24 xs i).f0.length ≤ c0 ∧ k158.C w A0 (rd_T24 xs i).f0.length (rd_T24 xs i).f0 := by
  obtain ⟨ad, c, e, _, hK, hc0⟩ := Kd.C_get h z24 i h0 h1
  have hc : ∀ j u, c[j]? = some u → w.cell? (ad.add (i.toNat * 1 + j)) = some u := hc0
  obtain ⟨A0, c0, rfl, l0, g0⟩ := k24_open hK
  exact ⟨ad, A0, c0, e, by have hq := hc 0 _ rfl; rwa [Nat.mul_one, Nat.add_zero] at hq, l0, g0⟩

instance : Inhabited S87 := ⟨z87⟩
/-- What is known of an array of the type 87 that comes in. -/
def G87 (x : S87) : Prop := (Lit.int .i16 x.f0).wf = true ∧ (Lit.int .i16 x.f1).wf = true ∧ (Lit.int .i16 x.f2).wf = true
set_option maxRecDepth 100000 in
theorem opens87 : Opens Try.prog 87 k87 G87 :=
  opens_iso (opens_array (fs := [(⟨"", 85, 0, false, "", "", 0⟩ : Field), (⟨"", 85, 1, false, "", "", 0⟩ : Field), (⟨"", 85, 2, false, "", "", 0⟩ : Field)]) Try.underlying87 (by kernel_rfl) rfl (fun i f h => by
    have he : Try.prog.cellsOf 85 = 1 := by kernel_rfl
    rw [he]
    match i with
    | 0 => obtain rfl := Option.some.inj h; exact ⟨rfl, rfl⟩
    | 1 => obtain rfl := Option.some.inj h; exact ⟨rfl, rfl⟩
    | 2 => obtain rfl := Option.some.inj h; exact ⟨rfl, rfl⟩
    | i + 3 => simp at h) (opensF_cons (off := 0) (off' := 1) (opens_int Try.underlying85 (by kernel_rfl)) rfl (opensF_cons (off := 1) (off' := 2) (opens_int Try.underlying85 (by kernel_rfl)) rfl (opensF_one (off := 2) (opens_int Try.underlying85 (by kernel_rfl)) rfl) rfl) rfl)) (fun x : S87 => (x.f0, x.f1, x.f2)) (fun p => ⟨p.1, p.2.1, p.2.2⟩) (fun _ => rfl)
instance : Inhabited S158 := ⟨z158⟩
/-- What is known of a value of the type 158 that comes in. -/
def G158 (x : S158) : Prop := (Lit.int .i8 x.f0).wf = true ∧ (Lit.int .i8 x.f1).wf = true ∧ G87 x.f2
set_option maxRecDepth 100000 in
theorem opens158 : Opens Try.prog 158 k158 G158 :=
  opens_iso (opens_struct Try.underlying158 (by kernel_rfl) (opensF_cons (off := 0) (off' := 1) (opens_int Try.underlying86 (by kernel_rfl)) rfl (opensF_cons (off := 1) (off' := 2) (opens_int Try.underlying86 (by kernel_rfl)) rfl (opensF_one (off := 2) opens87 rfl) rfl) rfl)) (fun x : S158 => (x.f0, x.f1, x.f2)) (fun p => ⟨p.1, p.2.1, p.2.2⟩) (fun _ => rfl)
/-- What is known of a slice of the type 22 that comes in. -/
def GL22 (xs : List S158) : Prop := (∀ x_ ∈ xs, G158 x_) ∧ xs.length * 8 ≤ 140737488351232
theorem opens22 : Opens Try.prog 22 (Kd.slice 158 k158) GL22 :=
  opens_imp (opens_slice Try.underlying22 (by kernel_rfl) opens158) (fun xs h => ⟨h.1, by have := h.2; rw [show Try.prog.bytesOf 158 = 8 from by kernel_rfl] at this; exact this⟩)
instance : Inhabited S24 := ⟨z24⟩
/-- What is known of a value of the type 24 that comes in. -/
def G24 (x : S24) : Prop := GL22 x.f0
set_option maxRecDepth 100000 in
theorem opens24 : Opens Try.prog 24 k24 G24 :=
  opens_iso (opens_struct Try.underlying24 (by kernel_rfl) (opensF_one (off := 0) opens22 rfl)) (fun x : S24 => (x.f0)) (fun p => ⟨p⟩) (fun _ => rfl)
end Go.Proofs.Ytpfnohdnaocpdaa.PT

-- Written by a program (xprint.py) out of the translation's own print; Lean checks it.
import Derived.Test.YtenhgmddpkiliaaProg
import Derived.Below
import Derived.Deep.Draws
import Derived.Deep.AppendLies
import Derived.Maps.AppendAt
import Derived.OwnWalk
import Derived.Laws.BytesArg
import Derived.Laws.MakeOwn
import Derived.Laws.OwnMore
import Derived.Deep.OwnRows
import Derived.Tactics
import Derived.Lib.ConvBytes
import Derived.Laws.Slices
import Derived.WalkKit
import Derived.KernelRfl
import Derived.RowKit3
import Derived.Deep.LoopGhost
import Derived.Deep.QuietTactic
import Derived.BigQuiet
import Derived.WideLaws
import Derived.Deep.DeepCutAuto
import Derived.Deep.CutBlock
import Derived.Deep.RegionHeld3
import Derived.Laws.Rows
import Derived.Lib.AppendStr
import Derived.ArgAppend
import Derived.Laws.IdiomCopy
import Derived.OrdersHeld
import Derived.Laws.BitsLemmas
import Derived.RowKit
import Derived.Test.YtenhgmddpkiliaaWWords
import Derived.Test.YtenhgmddpkiliaaWLast
import Derived.Test.YtenhgmddpkiliaaWTab
import Derived.Test.YtenhgmddpkiliaaWQPut
import Derived.Test.YtenhgmddpkiliaaWApart
import Derived.Test.YtenhgmddpkiliaaWArr
import Derived.Test.YtenhgmddpkiliaaWZeros
import Derived.Test.YtenhgmddpkiliaaWFoot
import Derived.Test.YtenhgmddpkiliaaWKept
import Derived.Test.YtenhgmddpkiliaaWShare
import Derived.Test.YtenhgmddpkiliaaWN
import Derived.Test.YtenhgmddpkiliaaWAt
import Derived.Test.YtenhgmddpkiliaaWEqStruct
import Derived.Test.YtenhgmddpkiliaaWRepsOne
import Derived.Test.YtenhgmddpkiliaaWGuard
import Derived.Test.YtenhgmddpkiliaaWNEv
import Derived.Test.YtenhgmddpkiliaaWMore
import Derived.Test.YtenhgmddpkiliaaRP
namespace Go.Proofs.Ytenhgmddpkiliaa.PB
open Go.RowKit Go.Proofs.YtenhgmddpkiliaaW.PrintWords Go.Proofs.YtenhgmddpkiliaaW.PrintLast Go.Proofs.YtenhgmddpkiliaaW.PrintMore Go.Proofs.YtenhgmddpkiliaaRP
attribute [local go_sem] max2_int min2_int max_two min_two max_three min_three max_four min_four Go.Proofs.YtenhgmddpkiliaaRP.max_eight Go.Proofs.YtenhgmddpkiliaaRP.tmod_len   -- for this text's walks alone
set_option linter.unusedVariables false
set_option linter.unusedSimpArgs false
def errW : Option Int → Value
 | none => .nilIface
 | some c => .iface 0 (.int .i64 c)
theorem errW_none : errW none = .nilIface := rfl
theorem errW_some (c : Int) : errW (some c) = .iface 0 (.int .i64 c) := rfl
theorem info2 : (Try.prog.info? 2).map (fun i => (i.zero, i.size, i.bytes)) = some (some (.int .i64 0), 1, 8) := by kernel_rfl
theorem info3 : (Try.prog.info? 3).map (fun i => (i.zero, i.size, i.bytes)) = some (some (.int .i64 0), 1, 8) := by kernel_rfl
theorem info4 : (Try.prog.info? 4).map (fun i => (i.zero, i.size, i.bytes)) = some (some (.bool false), 1, 1) := by kernel_rfl
theorem info5 : (Try.prog.info? 5).map (fun i => (i.zero, i.size, i.bytes)) = some (some (.int .u8 0), 1, 1) := by kernel_rfl
theorem info9 : (Try.prog.info? 9).map (fun i => (i.zero, i.size, i.bytes)) = some (some (.string ⟨#[]⟩), 1, 16) := by kernel_rfl
theorem info45 : (Try.prog.info? 45).map (fun i => (i.zero, i.size, i.bytes)) = some (some (.agg #[(.string ⟨#[]⟩), (.int .i8 0), (.string ⟨#[]⟩), (.string ⟨#[]⟩), (.int .i64 0), (.int .i64 0)]), 6, 72) := by kernel_rfl
theorem info124 : (Try.prog.info? 124).map (fun i => (i.zero, i.size, i.bytes)) = some (some (.agg #[(.string ⟨#[]⟩), (.int .i64 0), (.bool false), (.int .u32 0), (.int .u32 0), (.int .u32 0), (.int .u32 0), (.int .u32 0), (.int .u32 0)]), 9, 56) := by kernel_rfl
-- the values' own types
/-! #### struct type 42 -/
structure S42 where
 f0 : ByteArray
 f1 : Int
 f2 : ByteArray
 f3 : ByteArray
 f4 : Int
 f5 : Int
def z42 : S42 := ⟨(⟨#[]⟩ : ByteArray), (0 : Int), (⟨#[]⟩ : ByteArray), (⟨#[]⟩ : ByteArray), (0 : Int), (0 : Int)⟩
def k42 : Kd S42 := Kd.iso (Kd.pair Kd.string (Kd.pair (Kd.int .i8) (Kd.pair Kd.string (Kd.pair Kd.string (Kd.pair (Kd.int .i64) (Kd.int .i64)))))) (fun x : S42 => (x.f0, x.f1, x.f2, x.f3, x.f4, x.f5))
theorem k42_open {w : World} {x : S42} {cs : List Value} (h : k42.K w x cs) : cs = [.string x.f0, .int .i8 x.f1, .string x.f2, .string x.f3, .int .i64 x.f4, .int .i64 x.f5] := by
 obtain ⟨_, _, rfl, rfl, ⟨_, _, rfl, rfl, ⟨_, _, rfl, rfl, ⟨_, _, rfl, rfl, ⟨_, _, rfl, rfl, rfl⟩⟩⟩⟩⟩ := h
 exact rfl
theorem k42_openM {w : World} {base : Nat} {ok : Nat → Prop} {x : S42} {cs : List Value} (h : k42.M w base ok x cs) : cs = [.string x.f0, .int .i8 x.f1, .string x.f2, .string x.f3, .int .i64 x.f4, .int .i64 x.f5] := by
 obtain ⟨_, _, rfl, rfl, ⟨_, _, rfl, rfl, ⟨_, _, rfl, rfl, ⟨_, _, rfl, rfl, ⟨_, _, rfl, rfl, rfl⟩⟩⟩⟩⟩ := h
 exact rfl
theorem k42_mk (w : World) (x : S42)  : k42.K w x [.string x.f0, .int .i8 x.f1, .string x.f2, .string x.f3, .int .i64 x.f4, .int .i64 x.f5] := ⟨[.string x.f0], [.int .i8 x.f1, .string x.f2, .string x.f3, .int .i64 x.f4, .int .i64 x.f5], rfl, rfl, ⟨[.int .i8 x.f1], [.string x.f2, .string x.f3, .int .i64 x.f4, .int .i64 x.f5], rfl, rfl, ⟨[.string x.f2], [.string x.f3, .int .i64 x.f4, .int .i64 x.f5], rfl, rfl, ⟨[.string x.f3], [.int .i64 x.f4, .int .i64 x.f5], rfl, rfl, ⟨[.int .i64 x.f4], [.int .i64 x.f5], rfl, rfl, rfl⟩⟩⟩⟩⟩
theorem k42_mkM (w : World) (base : Nat) (ok : Nat → Prop) (x : S42)  : k42.M w base ok x [.string x.f0, .int .i8 x.f1, .string x.f2, .string x.f3, .int .i64 x.f4, .int .i64 x.f5] := ⟨[.string x.f0], [.int .i8 x.f1, .string x.f2, .string x.f3, .int .i64 x.f4, .int .i64 x.f5], rfl, rfl, ⟨[.int .i8 x.f1], [.string x.f2, .string x.f3, .int .i64 x.f4, .int .i64 x.f5], rfl, rfl, ⟨[.string x.f2], [.string x.f3, .int .i64 x.f4, .int .i64 x.f5], rfl, rfl, ⟨[.string x.f3], [.int .i64 x.f4, .int .i64 x.f5], rfl, rfl, ⟨[.int .i64 x.f4], [.int .i64 x.f5], rfl, rfl, rfl⟩⟩⟩⟩⟩
def rd_T42 (xs : List S42) (i : Int) : S42 := xs.getD i.toNat z42
theorem at_T42 {w : World} {A : Option Addr} {n : Nat} {xs : List S42} (h : Kd.C k42 w A n xs) (i : Int) (h0 : 0 ≤ i) (h1 : i < n) : ∃ ad , A = some ad ∧ w.cell? (ad.add (i.toNat * 6)) = some (.string (rd_T42 xs i).f0) ∧ w.cell? ⟨(ad.add (i.toNat * 6)).block, (ad.add (i.toNat * 6)).off + 1, none⟩ = some (.int .i8 (rd_T42 xs i).f1) ∧ w.cell? ⟨(ad.add (i.toNat * 6)).block, (ad.add (i.toNat * 6)).off + 2, none⟩ = some (.string (rd_T42 xs i).f2) ∧ w.cell? ⟨(ad.add (i.toNat * 6)).block, (ad.add (i.toNat * 6)).off + 3, none⟩ = some (.string (rd_T42 xs i).f3) ∧ w.cell? ⟨(ad.add (i.toNat * 6)).block, (ad.add (i.toNat * 6)).off + 4, none⟩ = some (.int .i64 (rd_T42 xs i).f4) ∧ w.cell? ⟨(ad.add (i.toNat * 6)).block, (ad.add (i.toNat * 6)).off + 5, none⟩ = some (.int .i64 (rd_T42 xs i).f5) := by
 obtain ⟨ad, c, e, _, hK, hc0⟩ := Kd.C_get h z42 i h0 h1
 have hc : ∀ j u, c[j]? = some u → w.cell? (ad.add (i.toNat * 6 + j)) = some u := hc0
 obtain rfl := k42_open hK
 exact ⟨ad, e, hc 0 _ rfl, (by rw [← add_field _ _ 1 (by omega)]; exact hc 1 _ rfl), (by rw [← add_field _ _ 2 (by omega)]; exact hc 2 _ rfl), (by rw [← add_field _ _ 3 (by omega)]; exact hc 3 _ rfl), (by rw [← add_field _ _ 4 (by omega)]; exact hc 4 _ rfl), (by rw [← add_field _ _ 5 (by omega)]; exact hc 5 _ rfl)⟩
/-! #### struct type 45 -/
structure S45 where
 f0 : ByteArray
 f1 : Int
 f2 : ByteArray
 f3 : ByteArray
 f4 : Int
 f5 : Int
def z45 : S45 := ⟨(⟨#[]⟩ : ByteArray), (0 : Int), (⟨#[]⟩ : ByteArray), (⟨#[]⟩ : ByteArray), (0 : Int), (0 : Int)⟩
def k45 : Kd S45 := Kd.iso (Kd.pair Kd.string (Kd.pair (Kd.int .i8) (Kd.pair Kd.string (Kd.pair Kd.string (Kd.pair (Kd.int .i64) (Kd.int .i64)))))) (fun x : S45 => (x.f0, x.f1, x.f2, x.f3, x.f4, x.f5))
theorem k45_open {w : World} {x : S45} {cs : List Value} (h : k45.K w x cs) : cs = [.string x.f0, .int .i8 x.f1, .string x.f2, .string x.f3, .int .i64 x.f4, .int .i64 x.f5] := by
 obtain ⟨_, _, rfl, rfl, ⟨_, _, rfl, rfl, ⟨_, _, rfl, rfl, ⟨_, _, rfl, rfl, ⟨_, _, rfl, rfl, rfl⟩⟩⟩⟩⟩ := h
 exact rfl
theorem k45_openM {w : World} {base : Nat} {ok : Nat → Prop} {x : S45} {cs : List Value} (h : k45.M w base ok x cs) : cs = [.string x.f0, .int .i8 x.f1, .string x.f2, .string x.f3, .int .i64 x.f4, .int .i64 x.f5] := by
 obtain ⟨_, _, rfl, rfl, ⟨_, _, rfl, rfl, ⟨_, _, rfl, rfl, ⟨_, _, rfl, rfl, ⟨_, _, rfl, rfl, rfl⟩⟩⟩⟩⟩ := h
 exact rfl
theorem k45_mk (w : World) (x : S45)  : k45.K w x [.string x.f0, .int .i8 x.f1, .string x.f2, .string x.f3, .int .i64 x.f4, .int .i64 x.f5] := ⟨[.string x.f0], [.int .i8 x.f1, .string x.f2, .string x.f3, .int .i64 x.f4, .int .i64 x.f5], rfl, rfl, ⟨[.int .i8 x.f1], [.string x.f2, .string x.f3, .int .i64 x.f4, .int .i64 x.f5], rfl, rfl, ⟨[.string x.f2], [.string x.f3, .int .i64 x.f4, .int .i64 x.f5], rfl, rfl, ⟨[.string x.f3], [.int .i64 x.f4, .int .i64 x.f5], rfl, rfl, ⟨[.int .i64 x.f4], [.int .i64 x.f5], rfl, rfl, rfl⟩⟩⟩⟩⟩
theorem k45_mkM (w : World) (base : Nat) (ok : Nat → Prop) (x : S45)  : k45.M w base ok x [.string x.f0, .int .i8 x.f1, .string x.f2, .string x.f3, .int .i64 x.f4, .int .i64 x.f5] := ⟨[.string x.f0], [.int .i8 x.f1, .string x.f2, .string x.f3, .int .i64 x.f4, .int .i64 x.f5], rfl, rfl, ⟨[.int .i8 x.f1], [.string x.f2, .string x.f3, .int .i64 x.f4, .int .i64 x.f5], rfl, rfl, ⟨[.string x.f2], [.string x.f3, .int .i64 x.f4, .int .i64 x.f5], rfl, rfl, ⟨[.string x.f3], [.int .i64 x.f4, .int .i64 x.f5], rfl, rfl, ⟨[.int .i64 x.f4], [.int .i64 x.f5], rfl, rfl, rfl⟩⟩⟩⟩⟩
def rd_T45 (xs : List S45) (i : Int) : S45 := xs.getD i.toNat z45
theorem at_T45 {w : World} {A : Option Addr} {n : Nat} {xs : List S45} (h : Kd.C k45 w A n xs) (i : Int) (h0 : 0 ≤ i) (h1 : i < n) : ∃ ad , A = some ad ∧ w.cell? (ad.add (i.toNat * 6)) = some (.string (rd_T45 xs i).f0) ∧ w.cell? ⟨(ad.add (i.toNat * 6)).block, (ad.add (i.toNat * 6)).off + 1, none⟩ = some (.int .i8 (rd_T45 xs i).f1) ∧ w.cell? ⟨(ad.add (i.toNat * 6)).block, (ad.add (i.toNat * 6)).off + 2, none⟩ = some (.string (rd_T45 xs i).f2) ∧ w.cell? ⟨(ad.add (i.toNat * 6)).block, (ad.add (i.toNat * 6)).off + 3, none⟩ = some (.string (rd_T45 xs i).f3) ∧ w.cell? ⟨(ad.add (i.toNat * 6)).block, (ad.add (i.toNat * 6)).off + 4, none⟩ = some (.int .i64 (rd_T45 xs i).f4) ∧ w.cell? ⟨(ad.add (i.toNat * 6)).block, (ad.add (i.toNat * 6)).off + 5, none⟩ = some (.int .i64 (rd_T45 xs i).f5) := by
 obtain ⟨ad, c, e, _, hK, hc0⟩ := Kd.C_get h z45 i h0 h1
 have hc : ∀ j u, c[j]? = some u → w.cell? (ad.add (i.toNat * 6 + j)) = some u := hc0
 obtain rfl := k45_open hK
 exact ⟨ad, e, hc 0 _ rfl, (by rw [← add_field _ _ 1 (by omega)]; exact hc 1 _ rfl), (by rw [← add_field _ _ 2 (by omega)]; exact hc 2 _ rfl), (by rw [← add_field _ _ 3 (by omega)]; exact hc 3 _ rfl), (by rw [← add_field _ _ 4 (by omega)]; exact hc 4 _ rfl), (by rw [← add_field _ _ 5 (by omega)]; exact hc 5 _ rfl)⟩
/-! #### struct type 116 -/
structure S116 where
 f0 : Int
 f1 : Int
 f2 : Int
 f3 : Int
 f4 : Int
 f5 : Int
def z116 : S116 := ⟨(0 : Int), (0 : Int), (0 : Int), (0 : Int), (0 : Int), (0 : Int)⟩
def k116 : Kd S116 := Kd.iso (Kd.pair (Kd.int .u32) (Kd.pair (Kd.int .u32) (Kd.pair (Kd.int .u32) (Kd.pair (Kd.int .u32) (Kd.pair (Kd.int .u32) (Kd.int .u32)))))) (fun x : S116 => (x.f0, x.f1, x.f2, x.f3, x.f4, x.f5))
theorem k116_open {w : World} {x : S116} {cs : List Value} (h : k116.K w x cs) : cs = [.int .u32 x.f0, .int .u32 x.f1, .int .u32 x.f2, .int .u32 x.f3, .int .u32 x.f4, .int .u32 x.f5] := by
 obtain ⟨_, _, rfl, rfl, ⟨_, _, rfl, rfl, ⟨_, _, rfl, rfl, ⟨_, _, rfl, rfl, ⟨_, _, rfl, rfl, rfl⟩⟩⟩⟩⟩ := h
 exact rfl
theorem k116_openM {w : World} {base : Nat} {ok : Nat → Prop} {x : S116} {cs : List Value} (h : k116.M w base ok x cs) : cs = [.int .u32 x.f0, .int .u32 x.f1, .int .u32 x.f2, .int .u32 x.f3, .int .u32 x.f4, .int .u32 x.f5] := by
 obtain ⟨_, _, rfl, rfl, ⟨_, _, rfl, rfl, ⟨_, _, rfl, rfl, ⟨_, _, rfl, rfl, ⟨_, _, rfl, rfl, rfl⟩⟩⟩⟩⟩ := h
 exact rfl
theorem k116_mk (w : World) (x : S116)  : k116.K w x [.int .u32 x.f0, .int .u32 x.f1, .int .u32 x.f2, .int .u32 x.f3, .int .u32 x.f4, .int .u32 x.f5] := ⟨[.int .u32 x.f0], [.int .u32 x.f1, .int .u32 x.f2, .int .u32 x.f3, .int .u32 x.f4, .int .u32 x.f5], rfl, rfl, ⟨[.int .u32 x.f1], [.int .u32 x.f2, .int .u32 x.f3, .int .u32 x.f4, .int .u32 x.f5], rfl, rfl, ⟨[.int .u32 x.f2], [.int .u32 x.f3, .int .u32 x.f4, .int .u32 x.f5], rfl, rfl, ⟨[.int .u32 x.f3], [.int .u32 x.f4, .int .u32 x.f5], rfl, rfl, ⟨[.int .u32 x.f4], [.int .u32 x.f5], rfl, rfl, rfl⟩⟩⟩⟩⟩
theorem k116_mkM (w : World) (base : Nat) (ok : Nat → Prop) (x : S116)  : k116.M w base ok x [.int .u32 x.f0, .int .u32 x.f1, .int .u32 x.f2, .int .u32 x.f3, .int .u32 x.f4, .int .u32 x.f5] := ⟨[.int .u32 x.f0], [.int .u32 x.f1, .int .u32 x.f2, .int .u32 x.f3, .int .u32 x.f4, .int .u32 x.f5], rfl, rfl, ⟨[.int .u32 x.f1], [.int .u32 x.f2, .int .u32 x.f3, .int .u32 x.f4, .int .u32 x.f5], rfl, rfl, ⟨[.int .u32 x.f2], [.int .u32 x.f3, .int .u32 x.f4, .int .u32 x.f5], rfl, rfl, ⟨[.int .u32 x.f3], [.int .u32 x.f4, .int .u32 x.f5], rfl, rfl, ⟨[.int .u32 x.f4], [.int .u32 x.f5], rfl, rfl, rfl⟩⟩⟩⟩⟩
def rd_T116 (xs : List S116) (i : Int) : S116 := xs.getD i.toNat z116
theorem at_T116 {w : World} {A : Option Addr} {n : Nat} {xs : List S116} (h : Kd.C k116 w A n xs) (i : Int) (h0 : 0 ≤ i) (h1 : i < n) : ∃ ad , A = some ad ∧ w.cell? (ad.add (i.toNat * 6)) = some (.int .u32 (rd_T116 xs i).f0) ∧ w.cell? ⟨(ad.add (i.toNat * 6)).block, (ad.add (i.toNat * 6)).off + 1, none⟩ = some (.int .u32 (rd_T116 xs i).f1) ∧ w.cell? ⟨(ad.add (i.toNat * 6)).block, (ad.add (i.toNat * 6)).off + 2, none⟩ = some (.int .u32 (rd_T116 xs i).f2) ∧ w.cell? ⟨(ad.add (i.toNat * 6)).block, (ad.add (i.toNat * 6)).off + 3, none⟩ = some (.int .u32 (rd_T116 xs i).f3) ∧ w.cell? ⟨(ad.add (i.toNat * 6)).block, (ad.add (i.toNat * 6)).off + 4, none⟩ = some (.int .u32 (rd_T116 xs i).f4) ∧ w.cell? ⟨(ad.add (i.toNat * 6)).block, (ad.add (i.toNat * 6)).off + 5, none⟩ = some (.int .u32 (rd_T116 xs i).f5) := by
 obtain ⟨ad, c, e, _, hK, hc0⟩ := Kd.C_get h z116 i h0 h1
 have hc : ∀ j u, c[j]? = some u → w.cell? (ad.add (i.toNat * 6 + j)) = some u := hc0
 obtain rfl := k116_open hK
 exact ⟨ad, e, hc 0 _ rfl, (by rw [← add_field _ _ 1 (by omega)]; exact hc 1 _ rfl), (by rw [← add_field _ _ 2 (by omega)]; exact hc 2 _ rfl), (by rw [← add_field _ _ 3 (by omega)]; exact hc 3 _ rfl), (by rw [← add_field _ _ 4 (by omega)]; exact hc 4 _ rfl), (by rw [← add_field _ _ 5 (by omega)]; exact hc 5 _ rfl)⟩
/-! #### struct type 118 -/
structure S118 where
 f0 : Bool
 f1 : S116
def z118 : S118 := ⟨false, z116⟩
def k118 : Kd S118 := Kd.iso (Kd.pair Kd.bool k116) (fun x : S118 => (x.f0, x.f1))
theorem k118_open {w : World} {x : S118} {cs : List Value} (h : k118.K w x cs) : cs = [.bool x.f0, .int .u32 x.f1.f0, .int .u32 x.f1.f1, .int .u32 x.f1.f2, .int .u32 x.f1.f3, .int .u32 x.f1.f4, .int .u32 x.f1.f5] := by
 obtain ⟨_, _, rfl, rfl, s1⟩ := h
 obtain rfl := k116_open s1
 exact rfl
theorem k118_openM {w : World} {base : Nat} {ok : Nat → Prop} {x : S118} {cs : List Value} (h : k118.M w base ok x cs) : cs = [.bool x.f0, .int .u32 x.f1.f0, .int .u32 x.f1.f1, .int .u32 x.f1.f2, .int .u32 x.f1.f3, .int .u32 x.f1.f4, .int .u32 x.f1.f5] := by
 obtain ⟨_, _, rfl, rfl, s1⟩ := h
 obtain rfl := k116_openM s1
 exact rfl
theorem k118_mk (w : World) (x : S118)  : k118.K w x [.bool x.f0, .int .u32 x.f1.f0, .int .u32 x.f1.f1, .int .u32 x.f1.f2, .int .u32 x.f1.f3, .int .u32 x.f1.f4, .int .u32 x.f1.f5] := ⟨[.bool x.f0], [.int .u32 x.f1.f0, .int .u32 x.f1.f1, .int .u32 x.f1.f2, .int .u32 x.f1.f3, .int .u32 x.f1.f4, .int .u32 x.f1.f5], rfl, rfl, (k116_mk w x.f1 )⟩
theorem k118_mkM (w : World) (base : Nat) (ok : Nat → Prop) (x : S118)  : k118.M w base ok x [.bool x.f0, .int .u32 x.f1.f0, .int .u32 x.f1.f1, .int .u32 x.f1.f2, .int .u32 x.f1.f3, .int .u32 x.f1.f4, .int .u32 x.f1.f5] := ⟨[.bool x.f0], [.int .u32 x.f1.f0, .int .u32 x.f1.f1, .int .u32 x.f1.f2, .int .u32 x.f1.f3, .int .u32 x.f1.f4, .int .u32 x.f1.f5], rfl, rfl, (k116_mkM w base ok x.f1 )⟩
def rd_T118 (xs : List S118) (i : Int) : S118 := xs.getD i.toNat z118
theorem at_T118 {w : World} {A : Option Addr} {n : Nat} {xs : List S118} (h : Kd.C k118 w A n xs) (i : Int) (h0 : 0 ≤ i) (h1 : i < n) : ∃ ad , A = some ad ∧ w.cell? (ad.add (i.toNat * 7)) = some (.bool (rd_T118 xs i).f0) ∧ w.cell? ⟨(ad.add (i.toNat * 7)).block, (ad.add (i.toNat * 7)).off + 1, none⟩ = some (.int .u32 (rd_T118 xs i).f1.f0) ∧ w.cell? ⟨(ad.add (i.toNat * 7)).block, (ad.add (i.toNat * 7)).off + 2, none⟩ = some (.int .u32 (rd_T118 xs i).f1.f1) ∧ w.cell? ⟨(ad.add (i.toNat * 7)).block, (ad.add (i.toNat * 7)).off + 3, none⟩ = some (.int .u32 (rd_T118 xs i).f1.f2) ∧ w.cell? ⟨(ad.add (i.toNat * 7)).block, (ad.add (i.toNat * 7)).off + 4, none⟩ = some (.int .u32 (rd_T118 xs i).f1.f3) ∧ w.cell? ⟨(ad.add (i.toNat * 7)).block, (ad.add (i.toNat * 7)).off + 5, none⟩ = some (.int .u32 (rd_T118 xs i).f1.f4) ∧ w.cell? ⟨(ad.add (i.toNat * 7)).block, (ad.add (i.toNat * 7)).off + 6, none⟩ = some (.int .u32 (rd_T118 xs i).f1.f5) := by
 obtain ⟨ad, c, e, _, hK, hc0⟩ := Kd.C_get h z118 i h0 h1
 have hc : ∀ j u, c[j]? = some u → w.cell? (ad.add (i.toNat * 7 + j)) = some u := hc0
 obtain rfl := k118_open hK
 exact ⟨ad, e, hc 0 _ rfl, (by rw [← add_field _ _ 1 (by omega)]; exact hc 1 _ rfl), (by rw [← add_field _ _ 2 (by omega)]; exact hc 2 _ rfl), (by rw [← add_field _ _ 3 (by omega)]; exact hc 3 _ rfl), (by rw [← add_field _ _ 4 (by omega)]; exact hc 4 _ rfl), (by rw [← add_field _ _ 5 (by omega)]; exact hc 5 _ rfl), (by rw [← add_field _ _ 6 (by omega)]; exact hc 6 _ rfl)⟩
/-! #### struct type 120 -/
structure S120 where
 f0 : ByteArray
 f1 : Int
 f2 : S118
def z120 : S120 := ⟨(⟨#[]⟩ : ByteArray), (0 : Int), z118⟩
def k120 : Kd S120 := Kd.iso (Kd.pair Kd.string (Kd.pair (Kd.int .i64) k118)) (fun x : S120 => (x.f0, x.f1, x.f2))
theorem k120_open {w : World} {x : S120} {cs : List Value} (h : k120.K w x cs) : cs = [.string x.f0, .int .i64 x.f1, .bool x.f2.f0, .int .u32 x.f2.f1.f0, .int .u32 x.f2.f1.f1, .int .u32 x.f2.f1.f2, .int .u32 x.f2.f1.f3, .int .u32 x.f2.f1.f4, .int .u32 x.f2.f1.f5] := by
 obtain ⟨_, _, rfl, rfl, ⟨_, _, rfl, rfl, s2⟩⟩ := h
 obtain rfl := k118_open s2
 exact rfl
theorem k120_openM {w : World} {base : Nat} {ok : Nat → Prop} {x : S120} {cs : List Value} (h : k120.M w base ok x cs) : cs = [.string x.f0, .int .i64 x.f1, .bool x.f2.f0, .int .u32 x.f2.f1.f0, .int .u32 x.f2.f1.f1, .int .u32 x.f2.f1.f2, .int .u32 x.f2.f1.f3, .int .u32 x.f2.f1.f4, .int .u32 x.f2.f1.f5] := by
 obtain ⟨_, _, rfl, rfl, ⟨_, _, rfl, rfl, s2⟩⟩ := h
 obtain rfl := k118_openM s2
 exact rfl
theorem k120_mk (w : World) (x : S120)  : k120.K w x [.string x.f0, .int .i64 x.f1, .bool x.f2.f0, .int .u32 x.f2.f1.f0, .int .u32 x.f2.f1.f1, .int .u32 x.f2.f1.f2, .int .u32 x.f2.f1.f3, .int .u32 x.f2.f1.f4, .int .u32 x.f2.f1.f5] := ⟨[.string x.f0], [.int .i64 x.f1, .bool x.f2.f0, .int .u32 x.f2.f1.f0, .int .u32 x.f2.f1.f1, .int .u32 x.f2.f1.f2, .int .u32 x.f2.f1.f3, .int .u32 x.f2.f1.f4, .int .u32 x.f2.f1.f5], rfl, rfl, ⟨[.int .i64 x.f1], [.bool x.f2.f0, .int .u32 x.f2.f1.f0, .int .u32 x.f2.f1.f1, .int .u32 x.f2.f1.f2, .int .u32 x.f2.f1.f3, .int .u32 x.f2.f1.f4, .int .u32 x.f2.f1.f5], rfl, rfl, (k118_mk w x.f2 )⟩⟩
theorem k120_mkM (w : World) (base : Nat) (ok : Nat → Prop) (x : S120)  : k120.M w base ok x [.string x.f0, .int .i64 x.f1, .bool x.f2.f0, .int .u32 x.f2.f1.f0, .int .u32 x.f2.f1.f1, .int .u32 x.f2.f1.f2, .int .u32 x.f2.f1.f3, .int .u32 x.f2.f1.f4, .int .u32 x.f2.f1.f5] := ⟨[.string x.f0], [.int .i64 x.f1, .bool x.f2.f0, .int .u32 x.f2.f1.f0, .int .u32 x.f2.f1.f1, .int .u32 x.f2.f1.f2, .int .u32 x.f2.f1.f3, .int .u32 x.f2.f1.f4, .int .u32 x.f2.f1.f5], rfl, rfl, ⟨[.int .i64 x.f1], [.bool x.f2.f0, .int .u32 x.f2.f1.f0, .int .u32 x.f2.f1.f1, .int .u32 x.f2.f1.f2, .int .u32 x.f2.f1.f3, .int .u32 x.f2.f1.f4, .int .u32 x.f2.f1.f5], rfl, rfl, (k118_mkM w base ok x.f2 )⟩⟩
def rd_T120 (xs : List S120) (i : Int) : S120 := xs.getD i.toNat z120
theorem at_T120 {w : World} {A : Option Addr} {n : Nat} {xs : List S120} (h : Kd.C k120 w A n xs) (i : Int) (h0 : 0 ≤ i) (h1 : i < n) : ∃ ad , A = some ad ∧ w.cell? (ad.add (i.toNat * 9)) = some (.string (rd_T120 xs i).f0) ∧ w.cell? ⟨(ad.add (i.toNat * 9)).block, (ad.add (i.toNat * 9)).off + 1, none⟩ = some (.int .i64 (rd_T120 xs i).f1) ∧ w.cell? ⟨(ad.add (i.toNat * 9)).block, (ad.add (i.toNat * 9)).off + 2, none⟩ = some (.bool (rd_T120 xs i).f2.f0) ∧ w.cell? ⟨(ad.add (i.toNat * 9)).block, (ad.add (i.toNat * 9)).off + 3, none⟩ = some (.int .u32 (rd_T120 xs i).f2.f1.f0) ∧ w.cell? ⟨(ad.add (i.toNat * 9)).block, (ad.add (i.toNat * 9)).off + 4, none⟩ = some (.int .u32 (rd_T120 xs i).f2.f1.f1) ∧ w.cell? ⟨(ad.add (i.toNat * 9)).block, (ad.add (i.toNat * 9)).off + 5, none⟩ = some (.int .u32 (rd_T120 xs i).f2.f1.f2) ∧ w.cell? ⟨(ad.add (i.toNat * 9)).block, (ad.add (i.toNat * 9)).off + 6, none⟩ = some (.int .u32 (rd_T120 xs i).f2.f1.f3) ∧ w.cell? ⟨(ad.add (i.toNat * 9)).block, (ad.add (i.toNat * 9)).off + 7, none⟩ = some (.int .u32 (rd_T120 xs i).f2.f1.f4) ∧ w.cell? ⟨(ad.add (i.toNat * 9)).block, (ad.add (i.toNat * 9)).off + 8, none⟩ = some (.int .u32 (rd_T120 xs i).f2.f1.f5) := by
 obtain ⟨ad, c, e, _, hK, hc0⟩ := Kd.C_get h z120 i h0 h1
 have hc : ∀ j u, c[j]? = some u → w.cell? (ad.add (i.toNat * 9 + j)) = some u := hc0
 obtain rfl := k120_open hK
 exact ⟨ad, e, hc 0 _ rfl, (by rw [← add_field _ _ 1 (by omega)]; exact hc 1 _ rfl), (by rw [← add_field _ _ 2 (by omega)]; exact hc 2 _ rfl), (by rw [← add_field _ _ 3 (by omega)]; exact hc 3 _ rfl), (by rw [← add_field _ _ 4 (by omega)]; exact hc 4 _ rfl), (by rw [← add_field _ _ 5 (by omega)]; exact hc 5 _ rfl), (by rw [← add_field _ _ 6 (by omega)]; exact hc 6 _ rfl), (by rw [← add_field _ _ 7 (by omega)]; exact hc 7 _ rfl), (by rw [← add_field _ _ 8 (by omega)]; exact hc 8 _ rfl)⟩
/-! #### struct type 122 -/
structure S122 where
 f0 : Bool
 f1 : S116
def z122 : S122 := ⟨false, z116⟩
def k122 : Kd S122 := Kd.iso (Kd.pair Kd.bool k116) (fun x : S122 => (x.f0, x.f1))
theorem k122_open {w : World} {x : S122} {cs : List Value} (h : k122.K w x cs) : cs = [.bool x.f0, .int .u32 x.f1.f0, .int .u32 x.f1.f1, .int .u32 x.f1.f2, .int .u32 x.f1.f3, .int .u32 x.f1.f4, .int .u32 x.f1.f5] := by
 obtain ⟨_, _, rfl, rfl, s1⟩ := h
 obtain rfl := k116_open s1
 exact rfl
theorem k122_openM {w : World} {base : Nat} {ok : Nat → Prop} {x : S122} {cs : List Value} (h : k122.M w base ok x cs) : cs = [.bool x.f0, .int .u32 x.f1.f0, .int .u32 x.f1.f1, .int .u32 x.f1.f2, .int .u32 x.f1.f3, .int .u32 x.f1.f4, .int .u32 x.f1.f5] := by
 obtain ⟨_, _, rfl, rfl, s1⟩ := h
 obtain rfl := k116_openM s1
 exact rfl
theorem k122_mk (w : World) (x : S122)  : k122.K w x [.bool x.f0, .int .u32 x.f1.f0, .int .u32 x.f1.f1, .int .u32 x.f1.f2, .int .u32 x.f1.f3, .int .u32 x.f1.f4, .int .u32 x.f1.f5] := ⟨[.bool x.f0], [.int .u32 x.f1.f0, .int .u32 x.f1.f1, .int .u32 x.f1.f2, .int .u32 x.f1.f3, .int .u32 x.f1.f4, .int .u32 x.f1.f5], rfl, rfl, (k116_mk w x.f1 )⟩
theorem k122_mkM (w : World) (base : Nat) (ok : Nat → Prop) (x : S122)  : k122.M w base ok x [.bool x.f0, .int .u32 x.f1.f0, .int .u32 x.f1.f1, .int .u32 x.f1.f2, .int .u32 x.f1.f3, .int .u32 x.f1.f4, .int .u32 x.f1.f5] := ⟨[.bool x.f0], [.int .u32 x.f1.f0, .int .u32 x.f1.f1, .int .u32 x.f1.f2, .int .u32 x.f1.f3, .int .u32 x.f1.f4, .int .u32 x.f1.f5], rfl, rfl, (k116_mkM w base ok x.f1 )⟩
def rd_T122 (xs : List S122) (i : Int) : S122 := xs.getD i.toNat z122
theorem at_T122 {w : World} {A : Option Addr} {n : Nat} {xs : List S122} (h : Kd.C k122 w A n xs) (i : Int) (h0 : 0 ≤ i) (h1 : i < n) : ∃ ad , A = some ad ∧ w.cell? (ad.add (i.toNat * 7)) = some (.bool (rd_T122 xs i).f0) ∧ w.cell? ⟨(ad.add (i.toNat * 7)).block, (ad.add (i.toNat * 7)).off + 1, none⟩ = some (.int .u32 (rd_T122 xs i).f1.f0) ∧ w.cell? ⟨(ad.add (i.toNat * 7)).block, (ad.add (i.toNat * 7)).off + 2, none⟩ = some (.int .u32 (rd_T122 xs i).f1.f1) ∧ w.cell? ⟨(ad.add (i.toNat * 7)).block, (ad.add (i.toNat * 7)).off + 3, none⟩ = some (.int .u32 (rd_T122 xs i).f1.f2) ∧ w.cell? ⟨(ad.add (i.toNat * 7)).block, (ad.add (i.toNat * 7)).off + 4, none⟩ = some (.int .u32 (rd_T122 xs i).f1.f3) ∧ w.cell? ⟨(ad.add (i.toNat * 7)).block, (ad.add (i.toNat * 7)).off + 5, none⟩ = some (.int .u32 (rd_T122 xs i).f1.f4) ∧ w.cell? ⟨(ad.add (i.toNat * 7)).block, (ad.add (i.toNat * 7)).off + 6, none⟩ = some (.int .u32 (rd_T122 xs i).f1.f5) := by
 obtain ⟨ad, c, e, _, hK, hc0⟩ := Kd.C_get h z122 i h0 h1
 have hc : ∀ j u, c[j]? = some u → w.cell? (ad.add (i.toNat * 7 + j)) = some u := hc0
 obtain rfl := k122_open hK
 exact ⟨ad, e, hc 0 _ rfl, (by rw [← add_field _ _ 1 (by omega)]; exact hc 1 _ rfl), (by rw [← add_field _ _ 2 (by omega)]; exact hc 2 _ rfl), (by rw [← add_field _ _ 3 (by omega)]; exact hc 3 _ rfl), (by rw [← add_field _ _ 4 (by omega)]; exact hc 4 _ rfl), (by rw [← add_field _ _ 5 (by omega)]; exact hc 5 _ rfl), (by rw [← add_field _ _ 6 (by omega)]; exact hc 6 _ rfl)⟩
/-! #### struct type 124 -/
structure S124 where
 f0 : ByteArray
 f1 : Int
 f2 : S122
def z124 : S124 := ⟨(⟨#[]⟩ : ByteArray), (0 : Int), z122⟩
def k124 : Kd S124 := Kd.iso (Kd.pair Kd.string (Kd.pair (Kd.int .i64) k122)) (fun x : S124 => (x.f0, x.f1, x.f2))
theorem k124_open {w : World} {x : S124} {cs : List Value} (h : k124.K w x cs) : cs = [.string x.f0, .int .i64 x.f1, .bool x.f2.f0, .int .u32 x.f2.f1.f0, .int .u32 x.f2.f1.f1, .int .u32 x.f2.f1.f2, .int .u32 x.f2.f1.f3, .int .u32 x.f2.f1.f4, .int .u32 x.f2.f1.f5] := by
 obtain ⟨_, _, rfl, rfl, ⟨_, _, rfl, rfl, s2⟩⟩ := h
 obtain rfl := k122_open s2
 exact rfl
theorem k124_openM {w : World} {base : Nat} {ok : Nat → Prop} {x : S124} {cs : List Value} (h : k124.M w base ok x cs) : cs = [.string x.f0, .int .i64 x.f1, .bool x.f2.f0, .int .u32 x.f2.f1.f0, .int .u32 x.f2.f1.f1, .int .u32 x.f2.f1.f2, .int .u32 x.f2.f1.f3, .int .u32 x.f2.f1.f4, .int .u32 x.f2.f1.f5] := by
 obtain ⟨_, _, rfl, rfl, ⟨_, _, rfl, rfl, s2⟩⟩ := h
 obtain rfl := k122_openM s2
 exact rfl
theorem k124_mk (w : World) (x : S124)  : k124.K w x [.string x.f0, .int .i64 x.f1, .bool x.f2.f0, .int .u32 x.f2.f1.f0, .int .u32 x.f2.f1.f1, .int .u32 x.f2.f1.f2, .int .u32 x.f2.f1.f3, .int .u32 x.f2.f1.f4, .int .u32 x.f2.f1.f5] := ⟨[.string x.f0], [.int .i64 x.f1, .bool x.f2.f0, .int .u32 x.f2.f1.f0, .int .u32 x.f2.f1.f1, .int .u32 x.f2.f1.f2, .int .u32 x.f2.f1.f3, .int .u32 x.f2.f1.f4, .int .u32 x.f2.f1.f5], rfl, rfl, ⟨[.int .i64 x.f1], [.bool x.f2.f0, .int .u32 x.f2.f1.f0, .int .u32 x.f2.f1.f1, .int .u32 x.f2.f1.f2, .int .u32 x.f2.f1.f3, .int .u32 x.f2.f1.f4, .int .u32 x.f2.f1.f5], rfl, rfl, (k122_mk w x.f2 )⟩⟩
theorem k124_mkM (w : World) (base : Nat) (ok : Nat → Prop) (x : S124)  : k124.M w base ok x [.string x.f0, .int .i64 x.f1, .bool x.f2.f0, .int .u32 x.f2.f1.f0, .int .u32 x.f2.f1.f1, .int .u32 x.f2.f1.f2, .int .u32 x.f2.f1.f3, .int .u32 x.f2.f1.f4, .int .u32 x.f2.f1.f5] := ⟨[.string x.f0], [.int .i64 x.f1, .bool x.f2.f0, .int .u32 x.f2.f1.f0, .int .u32 x.f2.f1.f1, .int .u32 x.f2.f1.f2, .int .u32 x.f2.f1.f3, .int .u32 x.f2.f1.f4, .int .u32 x.f2.f1.f5], rfl, rfl, ⟨[.int .i64 x.f1], [.bool x.f2.f0, .int .u32 x.f2.f1.f0, .int .u32 x.f2.f1.f1, .int .u32 x.f2.f1.f2, .int .u32 x.f2.f1.f3, .int .u32 x.f2.f1.f4, .int .u32 x.f2.f1.f5], rfl, rfl, (k122_mkM w base ok x.f2 )⟩⟩
def rd_T124 (xs : List S124) (i : Int) : S124 := xs.getD i.toNat z124
theorem at_T124 {w : World} {A : Option Addr} {n : Nat} {xs : List S124} (h : Kd.C k124 w A n xs) (i : Int) (h0 : 0 ≤ i) (h1 : i < n) : ∃ ad , A = some ad ∧ w.cell? (ad.add (i.toNat * 9)) = some (.string (rd_T124 xs i).f0) ∧ w.cell? ⟨(ad.add (i.toNat * 9)).block, (ad.add (i.toNat * 9)).off + 1, none⟩ = some (.int .i64 (rd_T124 xs i).f1) ∧ w.cell? ⟨(ad.add (i.toNat * 9)).block, (ad.add (i.toNat * 9)).off + 2, none⟩ = some (.bool (rd_T124 xs i).f2.f0) ∧ w.cell? ⟨(ad.add (i.toNat * 9)).block, (ad.add (i.toNat * 9)).off + 3, none⟩ = some (.int .u32 (rd_T124 xs i).f2.f1.f0) ∧ w.cell? ⟨(ad.add (i.toNat * 9)).block, (ad.add (i.toNat * 9)).off + 4, none⟩ = some (.int .u32 (rd_T124 xs i).f2.f1.f1) ∧ w.cell? ⟨(ad.add (i.toNat * 9)).block, (ad.add (i.toNat * 9)).off + 5, none⟩ = some (.int .u32 (rd_T124 xs i).f2.f1.f2) ∧ w.cell? ⟨(ad.add (i.toNat * 9)).block, (ad.add (i.toNat * 9)).off + 6, none⟩ = some (.int .u32 (rd_T124 xs i).f2.f1.f3) ∧ w.cell? ⟨(ad.add (i.toNat * 9)).block, (ad.add (i.toNat * 9)).off + 7, none⟩ = some (.int .u32 (rd_T124 xs i).f2.f1.f4) ∧ w.cell? ⟨(ad.add (i.toNat * 9)).block, (ad.add (i.toNat * 9)).off + 8, none⟩ = some (.int .u32 (rd_T124 xs i).f2.f1.f5) := by
 obtain ⟨ad, c, e, _, hK, hc0⟩ := Kd.C_get h z124 i h0 h1
 have hc : ∀ j u, c[j]? = some u → w.cell? (ad.add (i.toNat * 9 + j)) = some u := hc0
 obtain rfl := k124_open hK
 exact ⟨ad, e, hc 0 _ rfl, (by rw [← add_field _ _ 1 (by omega)]; exact hc 1 _ rfl), (by rw [← add_field _ _ 2 (by omega)]; exact hc 2 _ rfl), (by rw [← add_field _ _ 3 (by omega)]; exact hc 3 _ rfl), (by rw [← add_field _ _ 4 (by omega)]; exact hc 4 _ rfl), (by rw [← add_field _ _ 5 (by omega)]; exact hc 5 _ rfl), (by rw [← add_field _ _ 6 (by omega)]; exact hc 6 _ rfl), (by rw [← add_field _ _ 7 (by omega)]; exact hc 7 _ rfl), (by rw [← add_field _ _ 8 (by omega)]; exact hc 8 _ rfl)⟩
theorem rd1_T42 (x : S42) : rd_T42 [x] 0 = x := rfl
theorem rp_T42 {w : World} {A : Option Addr} {n : Nat} {xs : List S42} (h : Kd.C k42 w A n xs) (h1 : 0 < (xs.length : Int)) : ∃ (ad : Addr), A = some ad ∧ w.cell? ad = some (.string ((rd_T42 xs 0).f0)) ∧ w.cell? ⟨ad.block, ad.off + 1, none⟩ = some (.int .i8 ((rd_T42 xs 0).f1)) ∧ w.cell? ⟨ad.block, ad.off + 2, none⟩ = some (.string ((rd_T42 xs 0).f2)) ∧ w.cell? ⟨ad.block, ad.off + 3, none⟩ = some (.string ((rd_T42 xs 0).f3)) ∧ w.cell? ⟨ad.block, ad.off + 4, none⟩ = some (.int .i64 ((rd_T42 xs 0).f4)) ∧ w.cell? ⟨ad.block, ad.off + 5, none⟩ = some (.int .i64 ((rd_T42 xs 0).f5)) := by
 obtain ⟨ad, e, h0, h1, h2, h3, h4, h5⟩ := at_T42 h 0 (Int.le_refl 0) (by rw [← h.1]; exact h1)
 rw [show ((0 : Int)).toNat * 6 = 0 from rfl, Addr.add_zero'] at h0 h1 h2 h3 h4 h5
 exact ⟨ad, e, h0, h1, h2, h3, h4, h5⟩
theorem rd1_T45 (x : S45) : rd_T45 [x] 0 = x := rfl
theorem rp_T45 {w : World} {A : Option Addr} {n : Nat} {xs : List S45} (h : Kd.C k45 w A n xs) (h1 : 0 < (xs.length : Int)) : ∃ (ad : Addr), A = some ad ∧ w.cell? ad = some (.string ((rd_T45 xs 0).f0)) ∧ w.cell? ⟨ad.block, ad.off + 1, none⟩ = some (.int .i8 ((rd_T45 xs 0).f1)) ∧ w.cell? ⟨ad.block, ad.off + 2, none⟩ = some (.string ((rd_T45 xs 0).f2)) ∧ w.cell? ⟨ad.block, ad.off + 3, none⟩ = some (.string ((rd_T45 xs 0).f3)) ∧ w.cell? ⟨ad.block, ad.off + 4, none⟩ = some (.int .i64 ((rd_T45 xs 0).f4)) ∧ w.cell? ⟨ad.block, ad.off + 5, none⟩ = some (.int .i64 ((rd_T45 xs 0).f5)) := by
 obtain ⟨ad, e, h0, h1, h2, h3, h4, h5⟩ := at_T45 h 0 (Int.le_refl 0) (by rw [← h.1]; exact h1)
 rw [show ((0 : Int)).toNat * 6 = 0 from rfl, Addr.add_zero'] at h0 h1 h2 h3 h4 h5
 exact ⟨ad, e, h0, h1, h2, h3, h4, h5⟩
theorem rd1_T116 (x : S116) : rd_T116 [x] 0 = x := rfl
theorem rp_T116 {w : World} {A : Option Addr} {n : Nat} {xs : List S116} (h : Kd.C k116 w A n xs) (h1 : 0 < (xs.length : Int)) : ∃ (ad : Addr), A = some ad ∧ w.cell? ad = some (.int .u32 ((rd_T116 xs 0).f0)) ∧ w.cell? ⟨ad.block, ad.off + 1, none⟩ = some (.int .u32 ((rd_T116 xs 0).f1)) ∧ w.cell? ⟨ad.block, ad.off + 2, none⟩ = some (.int .u32 ((rd_T116 xs 0).f2)) ∧ w.cell? ⟨ad.block, ad.off + 3, none⟩ = some (.int .u32 ((rd_T116 xs 0).f3)) ∧ w.cell? ⟨ad.block, ad.off + 4, none⟩ = some (.int .u32 ((rd_T116 xs 0).f4)) ∧ w.cell? ⟨ad.block, ad.off + 5, none⟩ = some (.int .u32 ((rd_T116 xs 0).f5)) := by
 obtain ⟨ad, e, h0, h1, h2, h3, h4, h5⟩ := at_T116 h 0 (Int.le_refl 0) (by rw [← h.1]; exact h1)
 rw [show ((0 : Int)).toNat * 6 = 0 from rfl, Addr.add_zero'] at h0 h1 h2 h3 h4 h5
 exact ⟨ad, e, h0, h1, h2, h3, h4, h5⟩
theorem rd1_T118 (x : S118) : rd_T118 [x] 0 = x := rfl
theorem rp_T118 {w : World} {A : Option Addr} {n : Nat} {xs : List S118} (h : Kd.C k118 w A n xs) (h1 : 0 < (xs.length : Int)) : ∃ (ad : Addr), A = some ad ∧ w.cell? ad = some (.bool ((rd_T118 xs 0).f0)) ∧ w.cell? ⟨ad.block, ad.off + 1, none⟩ = some (.int .u32 ((rd_T118 xs 0).f1.f0)) ∧ w.cell? ⟨ad.block, ad.off + 2, none⟩ = some (.int .u32 ((rd_T118 xs 0).f1.f1)) ∧ w.cell? ⟨ad.block, ad.off + 3, none⟩ = some (.int .u32 ((rd_T118 xs 0).f1.f2)) ∧ w.cell? ⟨ad.block, ad.off + 4, none⟩ = some (.int .u32 ((rd_T118 xs 0).f1.f3)) ∧ w.cell? ⟨ad.block, ad.off + 5, none⟩ = some (.int .u32 ((rd_T118 xs 0).f1.f4)) ∧ w.cell? ⟨ad.block, ad.off + 6, none⟩ = some (.int .u32 ((rd_T118 xs 0).f1.f5)) := by
 obtain ⟨ad, e, h0, h1, h2, h3, h4, h5, h6⟩ := at_T118 h 0 (Int.le_refl 0) (by rw [← h.1]; exact h1)
 rw [show ((0 : Int)).toNat * 7 = 0 from rfl, Addr.add_zero'] at h0 h1 h2 h3 h4 h5 h6
 exact ⟨ad, e, h0, h1, h2, h3, h4, h5, h6⟩
theorem rd1_T120 (x : S120) : rd_T120 [x] 0 = x := rfl
theorem rp_T120 {w : World} {A : Option Addr} {n : Nat} {xs : List S120} (h : Kd.C k120 w A n xs) (h1 : 0 < (xs.length : Int)) : ∃ (ad : Addr), A = some ad ∧ w.cell? ad = some (.string ((rd_T120 xs 0).f0)) ∧ w.cell? ⟨ad.block, ad.off + 1, none⟩ = some (.int .i64 ((rd_T120 xs 0).f1)) ∧ w.cell? ⟨ad.block, ad.off + 2, none⟩ = some (.bool ((rd_T120 xs 0).f2.f0)) ∧ w.cell? ⟨ad.block, ad.off + 3, none⟩ = some (.int .u32 ((rd_T120 xs 0).f2.f1.f0)) ∧ w.cell? ⟨ad.block, ad.off + 4, none⟩ = some (.int .u32 ((rd_T120 xs 0).f2.f1.f1)) ∧ w.cell? ⟨ad.block, ad.off + 5, none⟩ = some (.int .u32 ((rd_T120 xs 0).f2.f1.f2)) ∧ w.cell? ⟨ad.block, ad.off + 6, none⟩ = some (.int .u32 ((rd_T120 xs 0).f2.f1.f3)) ∧ w.cell? ⟨ad.block, ad.off + 7, none⟩ = some (.int .u32 ((rd_T120 xs 0).f2.f1.f4)) ∧ w.cell? ⟨ad.block, ad.off + 8, none⟩ = some (.int .u32 ((rd_T120 xs 0).f2.f1.f5)) := by
 obtain ⟨ad, e, h0, h1, h2, h3, h4, h5, h6, h7, h8⟩ := at_T120 h 0 (Int.le_refl 0) (by rw [← h.1]; exact h1)
 rw [show ((0 : Int)).toNat * 9 = 0 from rfl, Addr.add_zero'] at h0 h1 h2 h3 h4 h5 h6 h7 h8
 exact ⟨ad, e, h0, h1, h2, h3, h4, h5, h6, h7, h8⟩
theorem rd1_T122 (x : S122) : rd_T122 [x] 0 = x := rfl
theorem rp_T122 {w : World} {A : Option Addr} {n : Nat} {xs : List S122} (h : Kd.C k122 w A n xs) (h1 : 0 < (xs.length : Int)) : ∃ (ad : Addr), A = some ad ∧ w.cell? ad = some (.bool ((rd_T122 xs 0).f0)) ∧ w.cell? ⟨ad.block, ad.off + 1, none⟩ = some (.int .u32 ((rd_T122 xs 0).f1.f0)) ∧ w.cell? ⟨ad.block, ad.off + 2, none⟩ = some (.int .u32 ((rd_T122 xs 0).f1.f1)) ∧ w.cell? ⟨ad.block, ad.off + 3, none⟩ = some (.int .u32 ((rd_T122 xs 0).f1.f2)) ∧ w.cell? ⟨ad.block, ad.off + 4, none⟩ = some (.int .u32 ((rd_T122 xs 0).f1.f3)) ∧ w.cell? ⟨ad.block, ad.off + 5, none⟩ = some (.int .u32 ((rd_T122 xs 0).f1.f4)) ∧ w.cell? ⟨ad.block, ad.off + 6, none⟩ = some (.int .u32 ((rd_T122 xs 0).f1.f5)) := by
 obtain ⟨ad, e, h0, h1, h2, h3, h4, h5, h6⟩ := at_T122 h 0 (Int.le_refl 0) (by rw [← h.1]; exact h1)
 rw [show ((0 : Int)).toNat * 7 = 0 from rfl, Addr.add_zero'] at h0 h1 h2 h3 h4 h5 h6
 exact ⟨ad, e, h0, h1, h2, h3, h4, h5, h6⟩
theorem rd1_T124 (x : S124) : rd_T124 [x] 0 = x := rfl
theorem rp_T124 {w : World} {A : Option Addr} {n : Nat} {xs : List S124} (h : Kd.C k124 w A n xs) (h1 : 0 < (xs.length : Int)) : ∃ (ad : Addr), A = some ad ∧ w.cell? ad = some (.string ((rd_T124 xs 0).f0)) ∧ w.cell? ⟨ad.block, ad.off + 1, none⟩ = some (.int .i64 ((rd_T124 xs 0).f1)) ∧ w.cell? ⟨ad.block, ad.off + 2, none⟩ = some (.bool ((rd_T124 xs 0).f2.f0)) ∧ w.cell? ⟨ad.block, ad.off + 3, none⟩ = some (.int .u32 ((rd_T124 xs 0).f2.f1.f0)) ∧ w.cell? ⟨ad.block, ad.off + 4, none⟩ = some (.int .u32 ((rd_T124 xs 0).f2.f1.f1)) ∧ w.cell? ⟨ad.block, ad.off + 5, none⟩ = some (.int .u32 ((rd_T124 xs 0).f2.f1.f2)) ∧ w.cell? ⟨ad.block, ad.off + 6, none⟩ = some (.int .u32 ((rd_T124 xs 0).f2.f1.f3)) ∧ w.cell? ⟨ad.block, ad.off + 7, none⟩ = some (.int .u32 ((rd_T124 xs 0).f2.f1.f4)) ∧ w.cell? ⟨ad.block, ad.off + 8, none⟩ = some (.int .u32 ((rd_T124 xs 0).f2.f1.f5)) := by
 obtain ⟨ad, e, h0, h1, h2, h3, h4, h5, h6, h7, h8⟩ := at_T124 h 0 (Int.le_refl 0) (by rw [← h.1]; exact h1)
 rw [show ((0 : Int)).toNat * 9 = 0 from rfl, Addr.add_zero'] at h0 h1 h2 h3 h4 h5 h6 h7 h8
 exact ⟨ad, e, h0, h1, h2, h3, h4, h5, h6, h7, h8⟩
end Go.Proofs.Ytenhgmddpkiliaa.PB

-- Written by a program (xprint.py) out of the translation's own print; Lean checks it.
import Derived.Test.YtififhihgkbafaaProg
import Derived.Below
import Derived.Deep.Draws
import Derived.Deep.AppendLies
import Derived.Maps.AppendAt
import Derived.OwnWalk
import Derived.Laws.BytesArg
import Derived.Laws.MakeOwn
import Derived.Laws.OwnMore
import Derived.Deep.OwnRows
import Derived.Tactics
import Derived.Lib.ConvBytes
import Derived.Laws.Slices
import Derived.WalkKit
import Derived.KernelRfl
import Derived.RowKit3
import Derived.Deep.LoopGhost
import Derived.Deep.QuietTactic
import Derived.BigQuiet
import Derived.WideLaws
import Derived.Deep.DeepCutAuto
import Derived.Deep.CutBlock
import Derived.Deep.RegionHeld3
import Derived.Laws.Rows
import Derived.Lib.AppendStr
import Derived.ArgAppend
import Derived.Laws.IdiomCopy
import Derived.OrdersHeld
import Derived.Laws.BitsLemmas
import Derived.RowKit
import Derived.Test.YtififhihgkbafaaWWords
import Derived.Test.YtififhihgkbafaaWLast
import Derived.Test.YtififhihgkbafaaWTab
import Derived.Test.YtififhihgkbafaaWQPut
import Derived.Test.YtififhihgkbafaaWApart
import Derived.Test.YtififhihgkbafaaWArr
import Derived.Test.YtififhihgkbafaaWZeros
import Derived.Test.YtififhihgkbafaaWFoot
import Derived.Test.YtififhihgkbafaaWKept
import Derived.Test.YtififhihgkbafaaWShare
import Derived.Test.YtififhihgkbafaaWN
import Derived.Test.YtififhihgkbafaaWEqStruct
import Derived.Test.YtififhihgkbafaaWRepsOne
import Derived.Test.YtififhihgkbafaaWGuard
import Derived.Test.YtififhihgkbafaaWNEv
import Derived.Test.YtififhihgkbafaaWMore
import Derived.Test.YtififhihgkbafaaRP
namespace Go.Proofs.Ytififhihgkbafaa.PM
open Go.RowKit Go.Proofs.YtififhihgkbafaaW.PrintWords Go.Proofs.YtififhihgkbafaaW.PrintLast Go.Proofs.YtififhihgkbafaaW.PrintMore Go.Proofs.YtififhihgkbafaaRP
attribute [local go_sem] max2_int min2_int max_two min_two max_three min_three max_four min_four Go.Proofs.YtififhihgkbafaaRP.max_eight Go.Proofs.YtififhihgkbafaaRP.tmod_len   -- for this text's walks alone
set_option linter.unusedVariables false
set_option linter.unusedSimpArgs false
def errW : Option Int → Value
 | none => .nilIface
 | some c => .iface 0 (.int .i64 c)
theorem errW_none : errW none = .nilIface := rfl
theorem errW_some (c : Int) : errW (some c) = .iface 0 (.int .i64 c) := rfl
theorem info2 : (Try.prog.info? 2).map (fun i => (i.zero, i.size, i.bytes)) = some (some (.int .i64 0), 1, 8) := by kernel_rfl
theorem info49 : (Try.prog.info? 49).map (fun i => (i.zero, i.size, i.bytes)) = some (some (.int .i8 0), 1, 1) := by kernel_rfl
theorem info51 : (Try.prog.info? 51).map (fun i => (i.zero, i.size, i.bytes)) = some (some (.agg #[(.bool false), (.int .i8 0), (.int .i64 0), (.int .i64 0), (.int .i64 0), (.int .i64 0)]), 6, 40) := by kernel_rfl
-- the values' own types
/-! #### struct type 55 -/
structure S55 where
 f0 : Int
 f1 : Int
def z55 : S55 := ⟨(0 : Int), (0 : Int)⟩
def k55 : Kd S55 := Kd.iso (Kd.pair (Kd.int .i64) (Kd.int .i64)) (fun x : S55 => (x.f0, x.f1))
theorem k55_open {w : World} {x : S55} {cs : List Value} (h : k55.K w x cs) : cs = [.int .i64 x.f0, .int .i64 x.f1] := by
 obtain ⟨_, _, rfl, rfl, rfl⟩ := h
 exact rfl
theorem k55_openM {w : World} {base : Nat} {ok : Nat → Prop} {x : S55} {cs : List Value} (h : k55.M w base ok x cs) : cs = [.int .i64 x.f0, .int .i64 x.f1] := by
 obtain ⟨_, _, rfl, rfl, rfl⟩ := h
 exact rfl
theorem k55_mk (w : World) (x : S55)  : k55.K w x [.int .i64 x.f0, .int .i64 x.f1] := ⟨[.int .i64 x.f0], [.int .i64 x.f1], rfl, rfl, rfl⟩
theorem k55_mkM (w : World) (base : Nat) (ok : Nat → Prop) (x : S55)  : k55.M w base ok x [.int .i64 x.f0, .int .i64 x.f1] := ⟨[.int .i64 x.f0], [.int .i64 x.f1], rfl, rfl, rfl⟩
def rd_T55 (xs : List S55) (i : Int) : S55 := xs.getD i.toNat z55
theorem at_T55 {w : World} {A : Option Addr} {n : Nat} {xs : List S55} (h : Kd.C k55 w A n xs) (i : Int) (h0 : 0 ≤ i) (h1 : i < n) : ∃ ad , A = some ad ∧ w.cell? (ad.add (i.toNat * 2)) = some (.int .i64 (rd_T55 xs i).f0) ∧ w.cell? ⟨(ad.add (i.toNat * 2)).block, (ad.add (i.toNat * 2)).off + 1, none⟩ = some (.int .i64 (rd_T55 xs i).f1) := by
 obtain ⟨ad, c, e, _, hK, hc0⟩ := Kd.C_get h z55 i h0 h1
 have hc : ∀ j u, c[j]? = some u → w.cell? (ad.add (i.toNat * 2 + j)) = some u := hc0
 obtain rfl := k55_open hK
 exact ⟨ad, e, hc 0 _ rfl, (by rw [← add_field _ _ 1 (by omega)]; exact hc 1 _ rfl)⟩
/-! #### struct type 31 -/
structure S31 where
 f0 : Int
 f1 : Int
 f2 : Int
 f3 : Int
def z31 : S31 := ⟨(0 : Int), (0 : Int), (0 : Int), (0 : Int)⟩
def k31 : Kd S31 := Kd.iso (Kd.pair (Kd.int .i64) (Kd.pair (Kd.int .i64) (Kd.pair (Kd.int .i64) (Kd.int .i64)))) (fun x : S31 => (x.f0, x.f1, x.f2, x.f3))
theorem k31_open {w : World} {x : S31} {cs : List Value} (h : k31.K w x cs) : cs = [.int .i64 x.f0, .int .i64 x.f1, .int .i64 x.f2, .int .i64 x.f3] := by
 obtain ⟨_, _, rfl, rfl, ⟨_, _, rfl, rfl, ⟨_, _, rfl, rfl, rfl⟩⟩⟩ := h
 exact rfl
theorem k31_openM {w : World} {base : Nat} {ok : Nat → Prop} {x : S31} {cs : List Value} (h : k31.M w base ok x cs) : cs = [.int .i64 x.f0, .int .i64 x.f1, .int .i64 x.f2, .int .i64 x.f3] := by
 obtain ⟨_, _, rfl, rfl, ⟨_, _, rfl, rfl, ⟨_, _, rfl, rfl, rfl⟩⟩⟩ := h
 exact rfl
theorem k31_mk (w : World) (x : S31)  : k31.K w x [.int .i64 x.f0, .int .i64 x.f1, .int .i64 x.f2, .int .i64 x.f3] := ⟨[.int .i64 x.f0], [.int .i64 x.f1, .int .i64 x.f2, .int .i64 x.f3], rfl, rfl, ⟨[.int .i64 x.f1], [.int .i64 x.f2, .int .i64 x.f3], rfl, rfl, ⟨[.int .i64 x.f2], [.int .i64 x.f3], rfl, rfl, rfl⟩⟩⟩
theorem k31_mkM (w : World) (base : Nat) (ok : Nat → Prop) (x : S31)  : k31.M w base ok x [.int .i64 x.f0, .int .i64 x.f1, .int .i64 x.f2, .int .i64 x.f3] := ⟨[.int .i64 x.f0], [.int .i64 x.f1, .int .i64 x.f2, .int .i64 x.f3], rfl, rfl, ⟨[.int .i64 x.f1], [.int .i64 x.f2, .int .i64 x.f3], rfl, rfl, ⟨[.int .i64 x.f2], [.int .i64 x.f3], rfl, rfl, rfl⟩⟩⟩
def rd_T31 (xs : List S31) (i : Int) : S31 := xs.getD i.toNat z31
theorem at_T31 {w : World} {A : Option Addr} {n : Nat} {xs : List S31} (h : Kd.C k31 w A n xs) (i : Int) (h0 : 0 ≤ i) (h1 : i < n) : ∃ ad , A = some ad ∧ w.cell? (ad.add (i.toNat * 4)) = some (.int .i64 (rd_T31 xs i).f0) ∧ w.cell? ⟨(ad.add (i.toNat * 4)).block, (ad.add (i.toNat * 4)).off + 1, none⟩ = some (.int .i64 (rd_T31 xs i).f1) ∧ w.cell? ⟨(ad.add (i.toNat * 4)).block, (ad.add (i.toNat * 4)).off + 2, none⟩ = some (.int .i64 (rd_T31 xs i).f2) ∧ w.cell? ⟨(ad.add (i.toNat * 4)).block, (ad.add (i.toNat * 4)).off + 3, none⟩ = some (.int .i64 (rd_T31 xs i).f3) := by
 obtain ⟨ad, c, e, _, hK, hc0⟩ := Kd.C_get h z31 i h0 h1
 have hc : ∀ j u, c[j]? = some u → w.cell? (ad.add (i.toNat * 4 + j)) = some u := hc0
 obtain rfl := k31_open hK
 exact ⟨ad, e, hc 0 _ rfl, (by rw [← add_field _ _ 1 (by omega)]; exact hc 1 _ rfl), (by rw [← add_field _ _ 2 (by omega)]; exact hc 2 _ rfl), (by rw [← add_field _ _ 3 (by omega)]; exact hc 3 _ rfl)⟩
def rd_L4 (xs : List (List Int)) (i : Int) : (List Int) := xs.getD i.toNat ([] : List Int)
theorem at_L4 {w : World} {A : Option Addr} {n : Nat} {xs : List (List Int)} (h : Kd.C (Kd.slice 49 (Kd.int .i8)) w A n xs) (i : Int) (h0 : 0 ≤ i) (h1 : i < n) : ∃ ad A0 c0, A = some ad ∧ w.cell? (ad.add i.toNat) = some (.slice A0 (rd_L4 xs i).length c0) ∧ (rd_L4 xs i).length ≤ c0 ∧ (Kd.int .i8).C w A0 (rd_L4 xs i).length (rd_L4 xs i) := by
 obtain ⟨ad, c, e, _, hK, hc0⟩ := Kd.C_get h ([] : List Int) i h0 h1
 have hc : ∀ j u, c[j]? = some u → w.cell? (ad.add (i.toNat * 1 + j)) = some u := hc0
 obtain ⟨A0, c0, rfl, l0, g0⟩ := hK
 exact ⟨ad, A0, c0, e, (by have hq := hc 0 _ rfl; rwa [Nat.mul_one, Nat.add_zero] at hq), l0, g0⟩
/-! #### struct type 33 -/
structure S33 where
 f0 : (List Int)
 f1 : (List Int)
def z33 : S33 := ⟨([] : List Int), ([] : List Int)⟩
def k33 : Kd S33 := Kd.iso (Kd.pair (Kd.slice 49 (Kd.int .i8)) (Kd.slice 49 (Kd.int .i8))) (fun x : S33 => (x.f0, x.f1))
theorem k33_open {w : World} {x : S33} {cs : List Value} (h : k33.K w x cs) : ∃ A0 c0 A1 c1, cs = [.slice A0 x.f0.length c0, .slice A1 x.f1.length c1] ∧ x.f0.length ≤ c0 ∧ (Kd.int .i8).C w A0 x.f0.length x.f0 ∧ x.f1.length ≤ c1 ∧ (Kd.int .i8).C w A1 x.f1.length x.f1 := by
 obtain ⟨_, _, rfl, ⟨A0, c0, rfl, l0, g0⟩, ⟨A1, c1, rfl, l1, g1⟩⟩ := h
 exact ⟨A0, c0, A1, c1, rfl, l0, g0, l1, g1⟩
theorem k33_openM {w : World} {base : Nat} {ok : Nat → Prop} {x : S33} {cs : List Value} (h : k33.M w base ok x cs) : ∃ v0 v1, cs = [v0, v1] ∧ (Kd.int .i8).R 49 w base ok v0 x.f0 ∧ (Kd.int .i8).R 49 w base ok v1 x.f1 := by
 obtain ⟨_, _, rfl, ⟨v0, rfl, g0⟩, ⟨v1, rfl, g1⟩⟩ := h
 exact ⟨v0, v1, rfl, g0, g1⟩
theorem k33_mk (w : World) (x : S33) {A0 : Option Addr} {c0 : Nat} (l0 : x.f0.length ≤ c0) (g0 : (Kd.int .i8).C w A0 x.f0.length x.f0) {A1 : Option Addr} {c1 : Nat} (l1 : x.f1.length ≤ c1) (g1 : (Kd.int .i8).C w A1 x.f1.length x.f1) : k33.K w x [.slice A0 x.f0.length c0, .slice A1 x.f1.length c1] := ⟨[.slice A0 x.f0.length c0], [.slice A1 x.f1.length c1], rfl, ⟨A0, c0, rfl, l0, g0⟩, ⟨A1, c1, rfl, l1, g1⟩⟩
theorem k33_mkM (w : World) (base : Nat) (ok : Nat → Prop) (x : S33) {v0 : Value} (g0 : (Kd.int .i8).R 49 w base ok v0 x.f0) {v1 : Value} (g1 : (Kd.int .i8).R 49 w base ok v1 x.f1) : k33.M w base ok x [v0, v1] := ⟨[v0], [v1], rfl, ⟨v0, rfl, g0⟩, ⟨v1, rfl, g1⟩⟩
def rd_T33 (xs : List S33) (i : Int) : S33 := xs.getD i.toNat z33
theorem at_T33 {w : World} {A : Option Addr} {n : Nat} {xs : List S33} (h : Kd.C k33 w A n xs) (i : Int) (h0 : 0 ≤ i) (h1 : i < n) : ∃ ad A0 c0 A1 c1, A = some ad ∧ w.cell? (ad.add (i.toNat * 2)) = some (.slice A0 (rd_T33 xs i).f0.length c0) ∧ w.cell? ⟨(ad.add (i.toNat * 2)).block, (ad.add (i.toNat * 2)).off + 1, none⟩ = some (.slice A1 (rd_T33 xs i).f1.length c1) ∧ (rd_T33 xs i).f0.length ≤ c0 ∧ (Kd.int .i8).C w A0 (rd_T33 xs i).f0.length (rd_T33 xs i).f0 ∧ (rd_T33 xs i).f1.length ≤ c1 ∧ (Kd.int .i8).C w A1 (rd_T33 xs i).f1.length (rd_T33 xs i).f1 := by
 obtain ⟨ad, c, e, _, hK, hc0⟩ := Kd.C_get h z33 i h0 h1
 have hc : ∀ j u, c[j]? = some u → w.cell? (ad.add (i.toNat * 2 + j)) = some u := hc0
 obtain ⟨A0, c0, A1, c1, rfl, l0, g0, l1, g1⟩ := k33_open hK
 exact ⟨ad, A0, c0, A1, c1, e, hc 0 _ rfl, (by rw [← add_field _ _ 1 (by omega)]; exact hc 1 _ rfl), l0, g0, l1, g1⟩
/-! #### struct type 51 -/
structure S51 where
 f0 : Bool
 f1 : Int
 f2 : S31
def z51 : S51 := ⟨false, (0 : Int), z31⟩
def k51 : Kd S51 := Kd.iso (Kd.pair Kd.bool (Kd.pair (Kd.int .i8) k31)) (fun x : S51 => (x.f0, x.f1, x.f2))
theorem k51_open {w : World} {x : S51} {cs : List Value} (h : k51.K w x cs) : cs = [.bool x.f0, .int .i8 x.f1, .int .i64 x.f2.f0, .int .i64 x.f2.f1, .int .i64 x.f2.f2, .int .i64 x.f2.f3] := by
 obtain ⟨_, _, rfl, rfl, ⟨_, _, rfl, rfl, s2⟩⟩ := h
 obtain rfl := k31_open s2
 exact rfl
theorem k51_openM {w : World} {base : Nat} {ok : Nat → Prop} {x : S51} {cs : List Value} (h : k51.M w base ok x cs) : cs = [.bool x.f0, .int .i8 x.f1, .int .i64 x.f2.f0, .int .i64 x.f2.f1, .int .i64 x.f2.f2, .int .i64 x.f2.f3] := by
 obtain ⟨_, _, rfl, rfl, ⟨_, _, rfl, rfl, s2⟩⟩ := h
 obtain rfl := k31_openM s2
 exact rfl
theorem k51_mk (w : World) (x : S51)  : k51.K w x [.bool x.f0, .int .i8 x.f1, .int .i64 x.f2.f0, .int .i64 x.f2.f1, .int .i64 x.f2.f2, .int .i64 x.f2.f3] := ⟨[.bool x.f0], [.int .i8 x.f1, .int .i64 x.f2.f0, .int .i64 x.f2.f1, .int .i64 x.f2.f2, .int .i64 x.f2.f3], rfl, rfl, ⟨[.int .i8 x.f1], [.int .i64 x.f2.f0, .int .i64 x.f2.f1, .int .i64 x.f2.f2, .int .i64 x.f2.f3], rfl, rfl, (k31_mk w x.f2 )⟩⟩
theorem k51_mkM (w : World) (base : Nat) (ok : Nat → Prop) (x : S51)  : k51.M w base ok x [.bool x.f0, .int .i8 x.f1, .int .i64 x.f2.f0, .int .i64 x.f2.f1, .int .i64 x.f2.f2, .int .i64 x.f2.f3] := ⟨[.bool x.f0], [.int .i8 x.f1, .int .i64 x.f2.f0, .int .i64 x.f2.f1, .int .i64 x.f2.f2, .int .i64 x.f2.f3], rfl, rfl, ⟨[.int .i8 x.f1], [.int .i64 x.f2.f0, .int .i64 x.f2.f1, .int .i64 x.f2.f2, .int .i64 x.f2.f3], rfl, rfl, (k31_mkM w base ok x.f2 )⟩⟩
def rd_T51 (xs : List S51) (i : Int) : S51 := xs.getD i.toNat z51
theorem at_T51 {w : World} {A : Option Addr} {n : Nat} {xs : List S51} (h : Kd.C k51 w A n xs) (i : Int) (h0 : 0 ≤ i) (h1 : i < n) : ∃ ad , A = some ad ∧ w.cell? (ad.add (i.toNat * 6)) = some (.bool (rd_T51 xs i).f0) ∧ w.cell? ⟨(ad.add (i.toNat * 6)).block, (ad.add (i.toNat * 6)).off + 1, none⟩ = some (.int .i8 (rd_T51 xs i).f1) ∧ w.cell? ⟨(ad.add (i.toNat * 6)).block, (ad.add (i.toNat * 6)).off + 2, none⟩ = some (.int .i64 (rd_T51 xs i).f2.f0) ∧ w.cell? ⟨(ad.add (i.toNat * 6)).block, (ad.add (i.toNat * 6)).off + 3, none⟩ = some (.int .i64 (rd_T51 xs i).f2.f1) ∧ w.cell? ⟨(ad.add (i.toNat * 6)).block, (ad.add (i.toNat * 6)).off + 4, none⟩ = some (.int .i64 (rd_T51 xs i).f2.f2) ∧ w.cell? ⟨(ad.add (i.toNat * 6)).block, (ad.add (i.toNat * 6)).off + 5, none⟩ = some (.int .i64 (rd_T51 xs i).f2.f3) := by
 obtain ⟨ad, c, e, _, hK, hc0⟩ := Kd.C_get h z51 i h0 h1
 have hc : ∀ j u, c[j]? = some u → w.cell? (ad.add (i.toNat * 6 + j)) = some u := hc0
 obtain rfl := k51_open hK
 exact ⟨ad, e, hc 0 _ rfl, (by rw [← add_field _ _ 1 (by omega)]; exact hc 1 _ rfl), (by rw [← add_field _ _ 2 (by omega)]; exact hc 2 _ rfl), (by rw [← add_field _ _ 3 (by omega)]; exact hc 3 _ rfl), (by rw [← add_field _ _ 4 (by omega)]; exact hc 4 _ rfl), (by rw [← add_field _ _ 5 (by omega)]; exact hc 5 _ rfl)⟩
theorem rd1_T55 (x : S55) : rd_T55 [x] 0 = x := rfl
theorem rp_T55 {w : World} {A : Option Addr} {n : Nat} {xs : List S55} (h : Kd.C k55 w A n xs) (h1 : 0 < (xs.length : Int)) : ∃ (ad : Addr), A = some ad ∧ w.cell? ad = some (.int .i64 ((rd_T55 xs 0).f0)) ∧ w.cell? ⟨ad.block, ad.off + 1, none⟩ = some (.int .i64 ((rd_T55 xs 0).f1)) := by
 obtain ⟨ad, e, h0, h1⟩ := at_T55 h 0 (Int.le_refl 0) (by rw [← h.1]; exact h1)
 rw [show ((0 : Int)).toNat * 2 = 0 from rfl, Addr.add_zero'] at h0 h1
 exact ⟨ad, e, h0, h1⟩
theorem rd1_T31 (x : S31) : rd_T31 [x] 0 = x := rfl
theorem rp_T31 {w : World} {A : Option Addr} {n : Nat} {xs : List S31} (h : Kd.C k31 w A n xs) (h1 : 0 < (xs.length : Int)) : ∃ (ad : Addr), A = some ad ∧ w.cell? ad = some (.int .i64 ((rd_T31 xs 0).f0)) ∧ w.cell? ⟨ad.block, ad.off + 1, none⟩ = some (.int .i64 ((rd_T31 xs 0).f1)) ∧ w.cell? ⟨ad.block, ad.off + 2, none⟩ = some (.int .i64 ((rd_T31 xs 0).f2)) ∧ w.cell? ⟨ad.block, ad.off + 3, none⟩ = some (.int .i64 ((rd_T31 xs 0).f3)) := by
 obtain ⟨ad, e, h0, h1, h2, h3⟩ := at_T31 h 0 (Int.le_refl 0) (by rw [← h.1]; exact h1)
 rw [show ((0 : Int)).toNat * 4 = 0 from rfl, Addr.add_zero'] at h0 h1 h2 h3
 exact ⟨ad, e, h0, h1, h2, h3⟩
theorem rd1_T33 (x : S33) : rd_T33 [x] 0 = x := rfl
theorem rp_T33 {w : World} {A : Option Addr} {n : Nat} {xs : List S33} (h : Kd.C k33 w A n xs) (h1 : 0 < (xs.length : Int)) : ∃ (ad : Addr) (A0 : Option Addr) (c0 : Nat) (A1 : Option Addr) (c1 : Nat), A = some ad ∧ w.cell? ad = some (.slice A0 (rd_T33 xs 0).f0.length c0) ∧ w.cell? ⟨ad.block, ad.off + 1, none⟩ = some (.slice A1 (rd_T33 xs 0).f1.length c1) ∧ ((rd_T33 xs 0).f0.length ≤ c0) ∧ Kd.C (Kd.int .i8) w A0 (rd_T33 xs 0).f0.length (rd_T33 xs 0).f0 ∧ ((rd_T33 xs 0).f1.length ≤ c1) ∧ Kd.C (Kd.int .i8) w A1 (rd_T33 xs 0).f1.length (rd_T33 xs 0).f1 := by
 obtain ⟨ad, A0, c0, A1, c1, e, h0, h1, l0, g0, l1, g1⟩ := at_T33 h 0 (Int.le_refl 0) (by rw [← h.1]; exact h1)
 rw [show ((0 : Int)).toNat * 2 = 0 from rfl, Addr.add_zero'] at h0 h1
 exact ⟨ad, A0, c0, A1, c1, e, h0, h1, l0, g0, l1, g1⟩
theorem rd1_T51 (x : S51) : rd_T51 [x] 0 = x := rfl
theorem rp_T51 {w : World} {A : Option Addr} {n : Nat} {xs : List S51} (h : Kd.C k51 w A n xs) (h1 : 0 < (xs.length : Int)) : ∃ (ad : Addr), A = some ad ∧ w.cell? ad = some (.bool ((rd_T51 xs 0).f0)) ∧ w.cell? ⟨ad.block, ad.off + 1, none⟩ = some (.int .i8 ((rd_T51 xs 0).f1)) ∧ w.cell? ⟨ad.block, ad.off + 2, none⟩ = some (.int .i64 ((rd_T51 xs 0).f2.f0)) ∧ w.cell? ⟨ad.block, ad.off + 3, none⟩ = some (.int .i64 ((rd_T51 xs 0).f2.f1)) ∧ w.cell? ⟨ad.block, ad.off + 4, none⟩ = some (.int .i64 ((rd_T51 xs 0).f2.f2)) ∧ w.cell? ⟨ad.block, ad.off + 5, none⟩ = some (.int .i64 ((rd_T51 xs 0).f2.f3)) := by
 obtain ⟨ad, e, h0, h1, h2, h3, h4, h5⟩ := at_T51 h 0 (Int.le_refl 0) (by rw [← h.1]; exact h1)
 rw [show ((0 : Int)).toNat * 6 = 0 from rfl, Addr.add_zero'] at h0 h1 h2 h3 h4 h5
 exact ⟨ad, e, h0, h1, h2, h3, h4, h5⟩
end Go.Proofs.Ytififhihgkbafaa.PM

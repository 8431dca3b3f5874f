-- Written by a program (xprint.py) out of the translation's own print; Lean checks it.
import Derived.Test.YtpfnohdnaocpdaaProg
import Derived.Below
import Derived.Deep.Draws
import Derived.Deep.AppendLies
import Derived.Maps.AppendAt
import Derived.OwnWalk
import Derived.Laws.BytesArg
import Derived.Laws.MakeOwn
import Derived.Laws.OwnMore
import Derived.Deep.OwnRows
import Derived.Tactics
import Derived.Lib.ConvBytes
import Derived.Laws.Slices
import Derived.WalkKit
import Derived.KernelRfl
import Derived.RowKit3
import Derived.Deep.LoopGhost
import Derived.Deep.QuietTactic
import Derived.BigQuiet
import Derived.WideLaws
import Derived.Deep.DeepCutAuto
import Derived.Deep.CutBlock
import Derived.Deep.RegionHeld3
import Derived.Laws.Rows
import Derived.Lib.AppendStr
import Derived.ArgAppend
import Derived.Laws.IdiomCopy
import Derived.OrdersHeld
import Derived.Laws.BitsLemmas
import Derived.RowKit
import Derived.Test.YtpfnohdnaocpdaaWWords
import Derived.Test.YtpfnohdnaocpdaaWLast
import Derived.Test.YtpfnohdnaocpdaaWTab
import Derived.Test.YtpfnohdnaocpdaaWQPut
import Derived.Test.YtpfnohdnaocpdaaWApart
import Derived.Test.YtpfnohdnaocpdaaWArr
import Derived.Test.YtpfnohdnaocpdaaWZeros
import Derived.Test.YtpfnohdnaocpdaaWFoot
import Derived.Test.YtpfnohdnaocpdaaWKept
import Derived.Test.YtpfnohdnaocpdaaWShare
import Derived.Test.YtpfnohdnaocpdaaWN
import Derived.Test.YtpfnohdnaocpdaaWAt
import Derived.Test.YtpfnohdnaocpdaaWEqStruct
import Derived.Test.YtpfnohdnaocpdaaWRepsOne
import Derived.Test.YtpfnohdnaocpdaaWGuard
import Derived.Test.YtpfnohdnaocpdaaWNEv
import Derived.Test.YtpfnohdnaocpdaaWMore
import Derived.Test.YtpfnohdnaocpdaaRP
namespace Go.Proofs.Ytpfnohdnaocpdaa.PT
open Go.RowKit Go.Proofs.YtpfnohdnaocpdaaW.PrintWords Go.Proofs.YtpfnohdnaocpdaaW.PrintLast Go.Proofs.YtpfnohdnaocpdaaW.PrintMore Go.Proofs.YtpfnohdnaocpdaaRP
attribute [local go_sem] max2_int min2_int max_two min_two max_three min_three max_four min_four Go.Proofs.YtpfnohdnaocpdaaRP.max_eight Go.Proofs.YtpfnohdnaocpdaaRP.tmod_len   -- for this text's walks alone
set_option linter.unusedVariables false
set_option linter.unusedSimpArgs false
def errW : Option Int → Value
 | none => .nilIface
 | some c => .iface 0 (.int .i64 c)
theorem errW_none : errW none = .nilIface := rfl
theorem errW_some (c : Int) : errW (some c) = .iface 0 (.int .i64 c) := rfl
theorem info4 : (Try.prog.info? 4).map (fun i => (i.zero, i.size, i.bytes)) = some (some (.bool false), 1, 1) := by kernel_rfl
theorem info85 : (Try.prog.info? 85).map (fun i => (i.zero, i.size, i.bytes)) = some (some (.int .i16 0), 1, 2) := by kernel_rfl
theorem info89 : (Try.prog.info? 89).map (fun i => (i.zero, i.size, i.bytes)) = some (some (.agg #[(.int .i8 0), (.int .i8 0), (.int .i16 0), (.int .i16 0), (.int .i16 0)]), 5, 8) := by kernel_rfl
-- the values' own types
/-! #### struct type 87 -/
structure S87 where
 f0 : Int
 f1 : Int
 f2 : Int
def z87 : S87 := ⟨(0 : Int), (0 : Int), (0 : Int)⟩
def k87 : Kd S87 := Kd.iso (Kd.pair (Kd.int .i16) (Kd.pair (Kd.int .i16) (Kd.int .i16))) (fun x : S87 => (x.f0, x.f1, x.f2))
theorem k87_open {w : World} {x : S87} {cs : List Value} (h : k87.K w x cs) : cs = [.int .i16 x.f0, .int .i16 x.f1, .int .i16 x.f2] := by
 obtain ⟨_, _, rfl, rfl, ⟨_, _, rfl, rfl, rfl⟩⟩ := h
 exact rfl
theorem k87_openM {w : World} {base : Nat} {ok : Nat → Prop} {x : S87} {cs : List Value} (h : k87.M w base ok x cs) : cs = [.int .i16 x.f0, .int .i16 x.f1, .int .i16 x.f2] := by
 obtain ⟨_, _, rfl, rfl, ⟨_, _, rfl, rfl, rfl⟩⟩ := h
 exact rfl
theorem k87_mk (w : World) (x : S87)  : k87.K w x [.int .i16 x.f0, .int .i16 x.f1, .int .i16 x.f2] := ⟨[.int .i16 x.f0], [.int .i16 x.f1, .int .i16 x.f2], rfl, rfl, ⟨[.int .i16 x.f1], [.int .i16 x.f2], rfl, rfl, rfl⟩⟩
theorem k87_mkM (w : World) (base : Nat) (ok : Nat → Prop) (x : S87)  : k87.M w base ok x [.int .i16 x.f0, .int .i16 x.f1, .int .i16 x.f2] := ⟨[.int .i16 x.f0], [.int .i16 x.f1, .int .i16 x.f2], rfl, rfl, ⟨[.int .i16 x.f1], [.int .i16 x.f2], rfl, rfl, rfl⟩⟩
def rd_T87 (xs : List S87) (i : Int) : S87 := xs.getD i.toNat z87
theorem at_T87 {w : World} {A : Option Addr} {n : Nat} {xs : List S87} (h : Kd.C k87 w A n xs) (i : Int) (h0 : 0 ≤ i) (h1 : i < n) : ∃ ad , A = some ad ∧ w.cell? (ad.add (i.toNat * 3)) = some (.int .i16 (rd_T87 xs i).f0) ∧ w.cell? ⟨(ad.add (i.toNat * 3)).block, (ad.add (i.toNat * 3)).off + 1, none⟩ = some (.int .i16 (rd_T87 xs i).f1) ∧ w.cell? ⟨(ad.add (i.toNat * 3)).block, (ad.add (i.toNat * 3)).off + 2, none⟩ = some (.int .i16 (rd_T87 xs i).f2) := by
 obtain ⟨ad, c, e, _, hK, hc0⟩ := Kd.C_get h z87 i h0 h1
 have hc : ∀ j u, c[j]? = some u → w.cell? (ad.add (i.toNat * 3 + j)) = some u := hc0
 obtain rfl := k87_open hK
 exact ⟨ad, e, hc 0 _ rfl, (by rw [← add_field _ _ 1 (by omega)]; exact hc 1 _ rfl), (by rw [← add_field _ _ 2 (by omega)]; exact hc 2 _ rfl)⟩
/-! #### struct type 158 -/
structure S158 where
 f0 : Int
 f1 : Int
 f2 : S87
def z158 : S158 := ⟨(0 : Int), (0 : Int), z87⟩
def k158 : Kd S158 := Kd.iso (Kd.pair (Kd.int .i8) (Kd.pair (Kd.int .i8) k87)) (fun x : S158 => (x.f0, x.f1, x.f2))
theorem k158_open {w : World} {x : S158} {cs : List Value} (h : k158.K w x cs) : cs = [.int .i8 x.f0, .int .i8 x.f1, .int .i16 x.f2.f0, .int .i16 x.f2.f1, .int .i16 x.f2.f2] := by
 obtain ⟨_, _, rfl, rfl, ⟨_, _, rfl, rfl, s2⟩⟩ := h
 obtain rfl := k87_open s2
 exact rfl
theorem k158_openM {w : World} {base : Nat} {ok : Nat → Prop} {x : S158} {cs : List Value} (h : k158.M w base ok x cs) : cs = [.int .i8 x.f0, .int .i8 x.f1, .int .i16 x.f2.f0, .int .i16 x.f2.f1, .int .i16 x.f2.f2] := by
 obtain ⟨_, _, rfl, rfl, ⟨_, _, rfl, rfl, s2⟩⟩ := h
 obtain rfl := k87_openM s2
 exact rfl
theorem k158_mk (w : World) (x : S158)  : k158.K w x [.int .i8 x.f0, .int .i8 x.f1, .int .i16 x.f2.f0, .int .i16 x.f2.f1, .int .i16 x.f2.f2] := ⟨[.int .i8 x.f0], [.int .i8 x.f1, .int .i16 x.f2.f0, .int .i16 x.f2.f1, .int .i16 x.f2.f2], rfl, rfl, ⟨[.int .i8 x.f1], [.int .i16 x.f2.f0, .int .i16 x.f2.f1, .int .i16 x.f2.f2], rfl, rfl, (k87_mk w x.f2 )⟩⟩
theorem k158_mkM (w : World) (base : Nat) (ok : Nat → Prop) (x : S158)  : k158.M w base ok x [.int .i8 x.f0, .int .i8 x.f1, .int .i16 x.f2.f0, .int .i16 x.f2.f1, .int .i16 x.f2.f2] := ⟨[.int .i8 x.f0], [.int .i8 x.f1, .int .i16 x.f2.f0, .int .i16 x.f2.f1, .int .i16 x.f2.f2], rfl, rfl, ⟨[.int .i8 x.f1], [.int .i16 x.f2.f0, .int .i16 x.f2.f1, .int .i16 x.f2.f2], rfl, rfl, (k87_mkM w base ok x.f2 )⟩⟩
def rd_T158 (xs : List S158) (i : Int) : S158 := xs.getD i.toNat z158
theorem at_T158 {w : World} {A : Option Addr} {n : Nat} {xs : List S158} (h : Kd.C k158 w A n xs) (i : Int) (h0 : 0 ≤ i) (h1 : i < n) : ∃ ad , A = some ad ∧ w.cell? (ad.add (i.toNat * 5)) = some (.int .i8 (rd_T158 xs i).f0) ∧ w.cell? ⟨(ad.add (i.toNat * 5)).block, (ad.add (i.toNat * 5)).off + 1, none⟩ = some (.int .i8 (rd_T158 xs i).f1) ∧ w.cell? ⟨(ad.add (i.toNat * 5)).block, (ad.add (i.toNat * 5)).off + 2, none⟩ = some (.int .i16 (rd_T158 xs i).f2.f0) ∧ w.cell? ⟨(ad.add (i.toNat * 5)).block, (ad.add (i.toNat * 5)).off + 3, none⟩ = some (.int .i16 (rd_T158 xs i).f2.f1) ∧ w.cell? ⟨(ad.add (i.toNat * 5)).block, (ad.add (i.toNat * 5)).off + 4, none⟩ = some (.int .i16 (rd_T158 xs i).f2.f2) := by
 obtain ⟨ad, c, e, _, hK, hc0⟩ := Kd.C_get h z158 i h0 h1
 have hc : ∀ j u, c[j]? = some u → w.cell? (ad.add (i.toNat * 5 + j)) = some u := hc0
 obtain rfl := k158_open hK
 exact ⟨ad, e, hc 0 _ rfl, (by rw [← add_field _ _ 1 (by omega)]; exact hc 1 _ rfl), (by rw [← add_field _ _ 2 (by omega)]; exact hc 2 _ rfl), (by rw [← add_field _ _ 3 (by omega)]; exact hc 3 _ rfl), (by rw [← add_field _ _ 4 (by omega)]; exact hc 4 _ rfl)⟩
/-! #### struct type 89 -/
structure S89 where
 f0 : Int
 f1 : Int
 f2 : S87
def z89 : S89 := ⟨(0 : Int), (0 : Int), z87⟩
def k89 : Kd S89 := Kd.iso (Kd.pair (Kd.int .i8) (Kd.pair (Kd.int .i8) k87)) (fun x : S89 => (x.f0, x.f1, x.f2))
theorem k89_open {w : World} {x : S89} {cs : List Value} (h : k89.K w x cs) : cs = [.int .i8 x.f0, .int .i8 x.f1, .int .i16 x.f2.f0, .int .i16 x.f2.f1, .int .i16 x.f2.f2] := by
 obtain ⟨_, _, rfl, rfl, ⟨_, _, rfl, rfl, s2⟩⟩ := h
 obtain rfl := k87_open s2
 exact rfl
theorem k89_openM {w : World} {base : Nat} {ok : Nat → Prop} {x : S89} {cs : List Value} (h : k89.M w base ok x cs) : cs = [.int .i8 x.f0, .int .i8 x.f1, .int .i16 x.f2.f0, .int .i16 x.f2.f1, .int .i16 x.f2.f2] := by
 obtain ⟨_, _, rfl, rfl, ⟨_, _, rfl, rfl, s2⟩⟩ := h
 obtain rfl := k87_openM s2
 exact rfl
theorem k89_mk (w : World) (x : S89)  : k89.K w x [.int .i8 x.f0, .int .i8 x.f1, .int .i16 x.f2.f0, .int .i16 x.f2.f1, .int .i16 x.f2.f2] := ⟨[.int .i8 x.f0], [.int .i8 x.f1, .int .i16 x.f2.f0, .int .i16 x.f2.f1, .int .i16 x.f2.f2], rfl, rfl, ⟨[.int .i8 x.f1], [.int .i16 x.f2.f0, .int .i16 x.f2.f1, .int .i16 x.f2.f2], rfl, rfl, (k87_mk w x.f2 )⟩⟩
theorem k89_mkM (w : World) (base : Nat) (ok : Nat → Prop) (x : S89)  : k89.M w base ok x [.int .i8 x.f0, .int .i8 x.f1, .int .i16 x.f2.f0, .int .i16 x.f2.f1, .int .i16 x.f2.f2] := ⟨[.int .i8 x.f0], [.int .i8 x.f1, .int .i16 x.f2.f0, .int .i16 x.f2.f1, .int .i16 x.f2.f2], rfl, rfl, ⟨[.int .i8 x.f1], [.int .i16 x.f2.f0, .int .i16 x.f2.f1, .int .i16 x.f2.f2], rfl, rfl, (k87_mkM w base ok x.f2 )⟩⟩
def rd_T89 (xs : List S89) (i : Int) : S89 := xs.getD i.toNat z89
theorem at_T89 {w : World} {A : Option Addr} {n : Nat} {xs : List S89} (h : Kd.C k89 w A n xs) (i : Int) (h0 : 0 ≤ i) (h1 : i < n) : ∃ ad , A = some ad ∧ w.cell? (ad.add (i.toNat * 5)) = some (.int .i8 (rd_T89 xs i).f0) ∧ w.cell? ⟨(ad.add (i.toNat * 5)).block, (ad.add (i.toNat * 5)).off + 1, none⟩ = some (.int .i8 (rd_T89 xs i).f1) ∧ w.cell? ⟨(ad.add (i.toNat * 5)).block, (ad.add (i.toNat * 5)).off + 2, none⟩ = some (.int .i16 (rd_T89 xs i).f2.f0) ∧ w.cell? ⟨(ad.add (i.toNat * 5)).block, (ad.add (i.toNat * 5)).off + 3, none⟩ = some (.int .i16 (rd_T89 xs i).f2.f1) ∧ w.cell? ⟨(ad.add (i.toNat * 5)).block, (ad.add (i.toNat * 5)).off + 4, none⟩ = some (.int .i16 (rd_T89 xs i).f2.f2) := by
 obtain ⟨ad, c, e, _, hK, hc0⟩ := Kd.C_get h z89 i h0 h1
 have hc : ∀ j u, c[j]? = some u → w.cell? (ad.add (i.toNat * 5 + j)) = some u := hc0
 obtain rfl := k89_open hK
 exact ⟨ad, e, hc 0 _ rfl, (by rw [← add_field _ _ 1 (by omega)]; exact hc 1 _ rfl), (by rw [← add_field _ _ 2 (by omega)]; exact hc 2 _ rfl), (by rw [← add_field _ _ 3 (by omega)]; exact hc 3 _ rfl), (by rw [← add_field _ _ 4 (by omega)]; exact hc 4 _ rfl)⟩
def rd_L5 (xs : List (List S89)) (i : Int) : (List S89) := xs.getD i.toNat ([] : List S89)
theorem at_L5 {w : World} {A : Option Addr} {n : Nat} {xs : List (List S89)} (h : Kd.C (Kd.slice 89 k89) w A n xs) (i : Int) (h0 : 0 ≤ i) (h1 : i < n) : ∃ ad A0 c0, A = some ad ∧ w.cell? (ad.add i.toNat) = some (.slice A0 (rd_L5 xs i).length c0) ∧ (rd_L5 xs i).length ≤ c0 ∧ k89.C w A0 (rd_L5 xs i).length (rd_L5 xs i) := by
 obtain ⟨ad, c, e, _, hK, hc0⟩ := Kd.C_get h ([] : List S89) i h0 h1
 have hc : ∀ j u, c[j]? = some u → w.cell? (ad.add (i.toNat * 1 + j)) = some u := hc0
 obtain ⟨A0, c0, rfl, l0, g0⟩ := hK
 exact ⟨ad, A0, c0, e, (by have hq := hc 0 _ rfl; rwa [Nat.mul_one, Nat.add_zero] at hq), l0, g0⟩
/-! #### struct type 34 -/
structure S34 where
 f0 : (List S89)
def z34 : S34 := ⟨([] : List S89)⟩
def k34 : Kd S34 := Kd.iso (Kd.slice 89 k89) (fun x : S34 => x.f0)
theorem k34_open {w : World} {x : S34} {cs : List Value} (h : k34.K w x cs) : ∃ A0 c0, cs = [.slice A0 x.f0.length c0] ∧ x.f0.length ≤ c0 ∧ k89.C w A0 x.f0.length x.f0 := by
 obtain ⟨A0, c0, rfl, l0, g0⟩ := h
 exact ⟨A0, c0, rfl, l0, g0⟩
theorem k34_openM {w : World} {base : Nat} {ok : Nat → Prop} {x : S34} {cs : List Value} (h : k34.M w base ok x cs) : ∃ v0, cs = [v0] ∧ k89.R 89 w base ok v0 x.f0 := by
 obtain ⟨v0, rfl, g0⟩ := h
 exact ⟨v0, rfl, g0⟩
theorem k34_mk (w : World) (x : S34) {A0 : Option Addr} {c0 : Nat} (l0 : x.f0.length ≤ c0) (g0 : k89.C w A0 x.f0.length x.f0) : k34.K w x [.slice A0 x.f0.length c0] := ⟨A0, c0, rfl, l0, g0⟩
theorem k34_mkM (w : World) (base : Nat) (ok : Nat → Prop) (x : S34) {v0 : Value} (g0 : k89.R 89 w base ok v0 x.f0) : k34.M w base ok x [v0] := ⟨v0, rfl, g0⟩
def rd_T34 (xs : List S34) (i : Int) : S34 := xs.getD i.toNat z34
theorem at_T34 {w : World} {A : Option Addr} {n : Nat} {xs : List S34} (h : Kd.C k34 w A n xs) (i : Int) (h0 : 0 ≤ i) (h1 : i < n) : ∃ ad A0 c0, A = some ad ∧ w.cell? (ad.add i.toNat) = some (.slice A0 (rd_T34 xs i).f0.length c0) ∧ (rd_T34 xs i).f0.length ≤ c0 ∧ k89.C w A0 (rd_T34 xs i).f0.length (rd_T34 xs i).f0 := by
 obtain ⟨ad, c, e, _, hK, hc0⟩ := Kd.C_get h z34 i h0 h1
 have hc : ∀ j u, c[j]? = some u → w.cell? (ad.add (i.toNat * 1 + j)) = some u := hc0
 obtain ⟨A0, c0, rfl, l0, g0⟩ := k34_open hK
 exact ⟨ad, A0, c0, e, (by have hq := hc 0 _ rfl; rwa [Nat.mul_one, Nat.add_zero] at hq), l0, g0⟩
theorem rd1_T87 (x : S87) : rd_T87 [x] 0 = x := rfl
theorem rp_T87 {w : World} {A : Option Addr} {n : Nat} {xs : List S87} (h : Kd.C k87 w A n xs) (h1 : 0 < (xs.length : Int)) : ∃ (ad : Addr), A = some ad ∧ w.cell? ad = some (.int .i16 ((rd_T87 xs 0).f0)) ∧ w.cell? ⟨ad.block, ad.off + 1, none⟩ = some (.int .i16 ((rd_T87 xs 0).f1)) ∧ w.cell? ⟨ad.block, ad.off + 2, none⟩ = some (.int .i16 ((rd_T87 xs 0).f2)) := by
 obtain ⟨ad, e, h0, h1, h2⟩ := at_T87 h 0 (Int.le_refl 0) (by rw [← h.1]; exact h1)
 rw [show ((0 : Int)).toNat * 3 = 0 from rfl, Addr.add_zero'] at h0 h1 h2
 exact ⟨ad, e, h0, h1, h2⟩
theorem rd1_T158 (x : S158) : rd_T158 [x] 0 = x := rfl
theorem rp_T158 {w : World} {A : Option Addr} {n : Nat} {xs : List S158} (h : Kd.C k158 w A n xs) (h1 : 0 < (xs.length : Int)) : ∃ (ad : Addr), A = some ad ∧ w.cell? ad = some (.int .i8 ((rd_T158 xs 0).f0)) ∧ w.cell? ⟨ad.block, ad.off + 1, none⟩ = some (.int .i8 ((rd_T158 xs 0).f1)) ∧ w.cell? ⟨ad.block, ad.off + 2, none⟩ = some (.int .i16 ((rd_T158 xs 0).f2.f0)) ∧ w.cell? ⟨ad.block, ad.off + 3, none⟩ = some (.int .i16 ((rd_T158 xs 0).f2.f1)) ∧ w.cell? ⟨ad.block, ad.off + 4, none⟩ = some (.int .i16 ((rd_T158 xs 0).f2.f2)) := by
 obtain ⟨ad, e, h0, h1, h2, h3, h4⟩ := at_T158 h 0 (Int.le_refl 0) (by rw [← h.1]; exact h1)
 rw [show ((0 : Int)).toNat * 5 = 0 from rfl, Addr.add_zero'] at h0 h1 h2 h3 h4
 exact ⟨ad, e, h0, h1, h2, h3, h4⟩
theorem rd1_T89 (x : S89) : rd_T89 [x] 0 = x := rfl
theorem rp_T89 {w : World} {A : Option Addr} {n : Nat} {xs : List S89} (h : Kd.C k89 w A n xs) (h1 : 0 < (xs.length : Int)) : ∃ (ad : Addr), A = some ad ∧ w.cell? ad = some (.int .i8 ((rd_T89 xs 0).f0)) ∧ w.cell? ⟨ad.block, ad.off + 1, none⟩ = some (.int .i8 ((rd_T89 xs 0).f1)) ∧ w.cell? ⟨ad.block, ad.off + 2, none⟩ = some (.int .i16 ((rd_T89 xs 0).f2.f0)) ∧ w.cell? ⟨ad.block, ad.off + 3, none⟩ = some (.int .i16 ((rd_T89 xs 0).f2.f1)) ∧ w.cell? ⟨ad.block, ad.off + 4, none⟩ = some (.int .i16 ((rd_T89 xs 0).f2.f2)) := by
 obtain ⟨ad, e, h0, h1, h2, h3, h4⟩ := at_T89 h 0 (Int.le_refl 0) (by rw [← h.1]; exact h1)
 rw [show ((0 : Int)).toNat * 5 = 0 from rfl, Addr.add_zero'] at h0 h1 h2 h3 h4
 exact ⟨ad, e, h0, h1, h2, h3, h4⟩
theorem rd1_T34 (x : S34) : rd_T34 [x] 0 = x := rfl
theorem rp_T34 {w : World} {A : Option Addr} {n : Nat} {xs : List S34} (h : Kd.C k34 w A n xs) (h1 : 0 < (xs.length : Int)) : ∃ (ad : Addr) (A0 : Option Addr) (c0 : Nat), A = some ad ∧ w.cell? ad = some (.slice A0 (rd_T34 xs 0).f0.length c0) ∧ ((rd_T34 xs 0).f0.length ≤ c0) ∧ Kd.C k89 w A0 (rd_T34 xs 0).f0.length (rd_T34 xs 0).f0 := by
 obtain ⟨ad, A0, c0, e, h0, l0, g0⟩ := at_T34 h 0 (Int.le_refl 0) (by rw [← h.1]; exact h1)
 rw [show ((0 : Int)).toNat = 0 from rfl, Addr.add_zero'] at h0
 exact ⟨ad, A0, c0, e, h0, l0, g0⟩
end Go.Proofs.Ytpfnohdnaocpdaa.PT

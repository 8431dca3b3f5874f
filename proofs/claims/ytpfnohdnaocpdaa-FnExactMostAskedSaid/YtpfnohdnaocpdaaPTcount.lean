/- counter.count by hand: a recursion with a memo, a map keyed by pairs of numbers. -/
import Derived.Test.YtpfnohdnaocpdaaPTx3
import Derived.Test.YtpfnohdnaocpdaaPTfound
import Derived.Maps.OwnSet
import Derived.WalkArith
import Derived.DeepKeys4
namespace Go.Proofs.Ytpfnohdnaocpdaa.PT
open Go.RowKit Go.Proofs.YtpfnohdnaocpdaaW.PrintWords Go.Proofs.YtpfnohdnaocpdaaW.PrintLast Go.Proofs.YtpfnohdnaocpdaaW.PrintMore Go.Lib Go.Proofs.YtpfnohdnaocpdaaRP
set_option linter.unusedVariables false
set_option linter.unusedSimpArgs false

theorem keyT205 : Try.prog.keyType 205 = true := by kernel_rfl
theorem cells205 : Try.prog.cellsOf 205 = 2 := by kernel_rfl
theorem cells2 : Try.prog.cellsOf 2 = 1 := by kernel_rfl
theorem types_size : ∃ n, Try.prog.types.size = n + 1 := ⟨Try.prog.types.size - 1, by
  have : 0 < Try.prog.types.size := of_decide_eq_true (by kernel_rfl)
  omega⟩
theorem row205 : (205 : TypeId) < Try.prog.types.size := of_decide_eq_true (by kernel_rfl)
theorem laidOut205 : laidOutB Try.prog = true := by kernel_rfl
theorem law205 : Go.Maps.Keyed Try.prog 205 := Go.Maps.Keyed.of_law (deep_law_laid laidOut205 (m := 2) (by omega) row205 (by kernel_rfl) (by kernel_rfl))
theorem zeroE2 (w : World) : (zeroValue 2).run Try.prog w = .ok (.int .i64 0) w := by kernel_rfl
theorem key205 (a b : Int) (ha : (Lit.int .i64 a).wf = true) (hb : (Lit.int .i64 b).wf = true) : ∃ kl, keyOf Try.prog 205 (.agg #[.int .i64 a, .int .i64 b]) = some kl := by
  obtain ⟨n, hn⟩ := types_size
  unfold keyOf
  rw [Try.underlying205]
  simp only [keyT205, Bool.true_and]
  have hf : (Value.agg #[.int .i64 a, .int .i64 b]).formed Try.prog 205 = true := by simp [Value.formed, Try.underlying205, cells205]
  rw [if_pos hf, hn]
  have hc : (Value.agg #[.int .i64 a, .int .i64 b]).cells.toList = [.int .i64 a, .int .i64 b] := rfl
  have h1 : Try.prog.keyLits (n + 1) 2 [.int .i64 a] = some [.int .i64 a] := by simp [Program.keyLits, Try.underlying2, ha]
  have h2 : Try.prog.keyLits (n + 1) 2 [.int .i64 b] = some [.int .i64 b] := by simp [Program.keyLits, Try.underlying2, hb]
  have h3 : Try.prog.keyLits (n + 1 + 1) 205 [.int .i64 a, .int .i64 b] = some [.int .i64 a, .int .i64 b] := by
    rw [Program.keyLits.eq_def]
    simp only [Try.underlying205, cells205, cells2]
    simp [List.range, List.range.loop, h1, h2]
  rw [hc, h3]
  exact ⟨_, rfl⟩

def best (most : Bool) (o v : Int) : Int := if (decide (o < v) == most && v != o) = true then v else o
def cnt (l : List S89) (most : Bool) : Nat → Int → Int → Option Int
  | 0, _, _ => none
  | k + 1, a, n => if n = 0 then some 0 else if (rd_T89 l a).f0 = 2 then cnt l most k (rd_T89 l a).f2.f0 (n - 1) else (cnt l most k (rd_T89 l a).f2.f0 n).bind fun v0 => (cnt l most k (rd_T89 l a).f2.f1 n).bind fun v1 => (cnt l most k (rd_T89 l a).f2.f2 n).bind fun v2 => some (best most (best most (wrap64 (v0 + 1)) (wrap64 (v1 + 1))) (wrap64 (v2 + 1)))
theorem cnt_succ (l : List S89) (most : Bool) (k : Nat) (a n : Int) : cnt l most (k + 1) a n = if n = 0 then some 0 else if (rd_T89 l a).f0 = 2 then cnt l most k (rd_T89 l a).f2.f0 (n - 1) else (cnt l most k (rd_T89 l a).f2.f0 n).bind fun v0 => (cnt l most k (rd_T89 l a).f2.f1 n).bind fun v1 => (cnt l most k (rd_T89 l a).f2.f2 n).bind fun v2 => some (best most (best most (wrap64 (v0 + 1)) (wrap64 (v1 + 1))) (wrap64 (v2 + 1))) := rfl
theorem cnt_mono (l : List S89) (most : Bool) : ∀ (k : Nat) (a n : Int), LeO (cnt l most k a n) (cnt l most (k + 1) a n) := by
  intro k
  induction k with
  | zero => intro a n; exact LeO.none _
  | succ k ih =>
    intro a n
    rw [cnt_succ, cnt_succ l most (k + 1)]
    exact LeO.ite (LeO.refl _) (LeO.ite (ih _ _) (LeO.bind (ih _ _) fun _ => LeO.bind (ih _ _) fun _ => LeO.bind (ih _ _) fun _ => LeO.refl _))
theorem cnt_up (l : List S89) (most : Bool) (k d : Nat) (a n v : Int) (h : cnt l most k a n = some v) : cnt l most (k + d) a n = some v := by
  induction d with
  | zero => exact h
  | succ d ih => exact cnt_mono l most (k + d) a n v ih
theorem cnt_one (l : List S89) (most : Bool) {k k' : Nat} {a n v v' : Int} (h : cnt l most k a n = some v) (h' : cnt l most k' a n = some v') : v = v' := by
  have h1 := cnt_up l most k k' a n v h
  have h2 := cnt_up l most k' k a n v' h'
  rw [Nat.add_comm] at h2
  rw [h1] at h2
  exact Option.some.inj h2
def I64 (v : Int) : Prop := -9223372036854775808 ≤ v ∧ v ≤ 9223372036854775807
theorem wrap_I64 (x : Int) : I64 (wrap64 x) := by unfold I64 wrap64; omega
theorem best_I64 {most : Bool} {o v : Int} (h : I64 o) (h' : I64 v) : I64 (best most o v) := by unfold best; split <;> assumption
theorem cnt_I64 (l : List S89) (most : Bool) : ∀ (k : Nat) (a n v : Int), cnt l most k a n = some v → I64 v := by
  intro k
  induction k with
  | zero => intro a n v h; exact absurd h (by simp [cnt])
  | succ k ih =>
    intro a n v h
    rw [cnt_succ] at h
    by_cases c : n = 0
    · rw [if_pos c] at h
      obtain rfl := Option.some.inj h
      exact ⟨by omega, by omega⟩
    · rw [if_neg c] at h
      by_cases c2 : (rd_T89 l a).f0 = 2
      · rw [if_pos c2] at h; exact ih _ _ _ h
      · rw [if_neg c2] at h
        obtain ⟨v0, _, h⟩ := Option.bind_eq_some_iff.mp h
        obtain ⟨v1, _, h⟩ := Option.bind_eq_some_iff.mp h
        obtain ⟨v2, _, h⟩ := Option.bind_eq_some_iff.mp h
        obtain rfl := Option.some.inj h
        exact best_I64 (best_I64 (wrap_I64 _) (wrap_I64 _)) (wrap_I64 _)
theorem wf_of {v : Int} (h : I64 v) : (Lit.int .i64 v).wf = true := WalkArith.wf_i64 ⟨h.1, by have := h.2; omega⟩
noncomputable def keyL (a b : Int) : Lit := @Classical.epsilon Lit ⟨.bool true⟩ fun kl => keyOf Try.prog 205 (.agg #[.int .i64 a, .int .i64 b]) = some kl
def Kr (a b : Int) : Prop := 0 ≤ a ∧ a < 60 ∧ 0 ≤ b ∧ b ≤ 60
theorem keyL_of {a b : Int} (h : Kr a b) : keyOf Try.prog 205 (.agg #[.int .i64 a, .int .i64 b]) = some (keyL a b) := by
  obtain ⟨h0, h1, h2, h3⟩ := h
  exact Classical.epsilon_spec (key205 a b (wf_of ⟨by omega, by omega⟩) (wf_of ⟨by omega, by omega⟩))
theorem keyL_inj {a b a' b' : Int} (h : Kr a b) (h' : Kr a' b') (e : keyL a b = keyL a' b') : a = a' ∧ b = b' := by
  have h1 := keyL_of h
  have h2 := keyL_of h'
  rw [← e] at h2
  have := law205.inj h1 h2
  simp only [Value.agg.injEq, Array.mk.injEq, List.cons.injEq, Value.int.injEq, true_and, and_true] at this
  simpa using this
theorem keyL_key {a b : Int} (h : Kr a b) : WideAt.IsKeyLit (keyL a b) := @Go.Maps.Keyed.key Try.prog 205 law205 (.agg #[.int .i64 a, .int .i64 b]) (keyL a b) (keyL_of h)
noncomputable def cand : List Lit := (List.range 60).flatMap fun (i : Nat) => (List.range 61).map fun (j : Nat) => keyL (i : Int) (j : Int)
theorem cand_len : cand.length = 3660 := by
  unfold cand
  rw [List.length_flatMap]
  simp only [List.length_map, List.length_range]
  decide
theorem cand_mem {a b : Int} (h : Kr a b) : keyL a b ∈ cand := by
  obtain ⟨h0, h1, h2, h3⟩ := h
  unfold cand
  rw [List.mem_flatMap]
  refine ⟨a.toNat, List.mem_range.2 (by omega), List.mem_map.2 ⟨b.toNat, List.mem_range.2 (by omega), ?_⟩⟩
  rw [Int.toNat_of_nonneg h0, Int.toNat_of_nonneg h2]
noncomputable def miss (D : DataW Nat) : Nat := cand.countP fun x => !Go.Maps.has D x
theorem countP_lt {α : Type} (p q : α → Bool) : ∀ (L : List α), (∀ x ∈ L, q x = true → p x = true) → ∀ y ∈ L, p y = true → q y = false → L.countP q + 1 ≤ L.countP p := by
  intro L
  induction L with
  | nil => intro _ y hy; cases hy
  | cons x L ih =>
    intro h y hy py qy
    have hm : L.countP q ≤ L.countP p := List.countP_mono_left fun z hz => h z (List.mem_cons_of_mem _ hz)
    rw [List.countP_cons, List.countP_cons]
    rcases List.mem_cons.1 hy with rfl | hy
    · simp only [py, qy, if_true, Bool.false_eq_true, if_false]; omega
    · have h2 := ih (fun z hz => h z (List.mem_cons_of_mem _ hz)) y hy py qy
      have h3 := h x List.mem_cons_self
      cases hq : q x with
      | false => simp only [Bool.false_eq_true, if_false]; omega
      | true => rw [h3 hq]; simp only [if_true]; omega
structure Memo (l : List S89) (most : Bool) (D : DataW Nat) : Prop where
  tidy : Go.Maps.Tidy D
  room : Go.Maps.size D + miss D ≤ 3660
  val : ∀ a b, Kr a b → Go.Maps.has D (keyL a b) = true → ∃ k v, cnt l most k a b = some v ∧ D.atKey (keyL a b) (.lit (.int .i64 0)) = .lit (.int .i64 v)
theorem Memo.start (l : List S89) (most : Bool) : Memo l most (.map []) := by
  refine ⟨Go.Maps.tidy_empty, ?_, fun a b _ h => absurd h (by simp [Go.Maps.has_eq])⟩
  have : miss (.map []) ≤ cand.length := List.countP_le_length
  rw [cand_len] at this
  rw [Go.Maps.size_eq]
  simpa using this
theorem Memo.put {l : List S89} {most : Bool} {D : DataW Nat} (h : Memo l most D) {a b : Int} (hr : Kr a b) {k : Nat} {v : Int} (hv : cnt l most k a b = some v) : Memo l most (D.put (keyL a b) (.lit (.int .i64 v))) := by
  have hkl := keyL_key hr
  refine ⟨h.tidy.put hkl _, ?_, ?_⟩
  · rw [Go.Maps.size_put h.tidy]
    have hr2 := h.room
    have hput : ∀ x, (!Go.Maps.has (D.put (keyL a b) (.lit (.int .i64 v))) x) = true → (!Go.Maps.has D x) = true := by
      intro x hx
      by_cases e : x = keyL a b
      · rw [e, Go.Maps.has_put_same h.tidy.isMap hkl] at hx; exact absurd hx (by simp)
      · rw [Go.Maps.has_put_other e] at hx; exact hx
    cases hh : Go.Maps.has D (keyL a b) with
    | true =>
      rw [if_pos rfl]
      have : miss (D.put (keyL a b) (.lit (.int .i64 v))) ≤ miss D := List.countP_mono_left fun x _ hx => hput x hx
      omega
    | false =>
      rw [if_neg (by simp)]
      have : miss (D.put (keyL a b) (.lit (.int .i64 v))) + 1 ≤ miss D := countP_lt _ _ cand (fun x _ hx => hput x hx) (keyL a b) (cand_mem hr) (by rw [hh]; rfl) (by rw [Go.Maps.has_put_same h.tidy.isMap hkl]; rfl)
      omega
  · intro a' b' hr' hh
    by_cases e : keyL a' b' = keyL a b
    · obtain ⟨rfl, rfl⟩ := keyL_inj hr' hr e
      exact ⟨k, v, hv, Go.Maps.atKey_put_same h.tidy.isMap hkl _ _⟩
    · rw [Go.Maps.has_put_other e] at hh
      obtain ⟨k2, v2, h1, h2⟩ := h.val a' b' hr' hh
      exact ⟨k2, v2, h1, by rw [Go.Maps.atKey_put_other e]; exact h2⟩
theorem own_exact {w : World} {bm n : Nat} {D : DataW Nat} (h : w.ownsMap Try.prog 205 (plainElem Try.prog 2) bm n D) : w.ownsMap Try.prog 205 (plainElem Try.prog 2) bm (Go.Maps.size D) D := by
  obtain ⟨es, clock, hb, F, hs, hD⟩ := h
  refine ⟨es, clock, hb, F, ?_, hD⟩
  rw [hD, Go.Maps.size_eq, length_read]
  exact Nat.le_refl _
theorem below_grown {w0 w w' : World} {bm : Nat} (h : Below w0.heap.size w0 w) (hg : w.grownBy w' (some bm)) (hb : w0.heap.size ≤ bm) : Below w0.heap.size w0 w' := h.grown hg h.size (fun j hj => by cases hj; exact hb)
theorem cell_grown {w w' : World} {bm g o : Nat} {v : Value} (hg : w.grownBy w' (some bm)) (hne : g ≠ bm) (h : w.cell? ⟨g, o, none⟩ = some v) : w'.cell? ⟨g, o, none⟩ = some v := by
  have hlt := World.block_lt_of_cell? w _ h
  have := hg.block g hlt (fun e => hne (by injection e))
  unfold World.cell? at h ⊢
  simp only at h ⊢
  rw [this]
  exact h
theorem grown_drew {w W : World} {row : Option Nat} (h : w.grownBy W row) : w.grownBy W.drew row := ⟨h.os, h.tape, h.output, h.size, h.block⟩
def Ov (most : Bool) (V : Nat → Int) : Nat → Int
  | 0 => 0
  | 1 => wrap64 (V 0 + 1)
  | j + 2 => best most (Ov most V (j + 1)) (wrap64 (V (j + 1) + 1))
theorem best_1 {most : Bool} {o v : Int} (h : (decide (o < v) == most) = true) (h2 : (v != o) = true) : best most o v = v := by unfold best; rw [h, h2]; rfl
theorem best_2 {most : Bool} {o v : Int} (h : (decide (o < v) == most) = false) : best most o v = o := by unfold best; rw [h]; rfl
theorem best_3 {most : Bool} {o v : Int} (h2 : (v != o) = false) : best most o v = o := by unfold best; rw [h2, Bool.and_false]; rfl

def CntPost (l : List S89) (most : Bool) (bm : Nat) (w : World) (v : Int) (e : Ending) (w' : World) : Prop := e = .returned (.int .i64 v) ∧ ∃ D', Memo l most D' ∧ w'.ownsMap Try.prog 205 (plainElem Try.prog 2) bm (Go.Maps.size D') D' ∧ w.grownBy w' (some bm)
set_option maxHeartbeats 8000000 in
set_option maxRecDepth 100000 in
theorem count_calls (l : List S89) (hk : okT l = true) (hl : l.length ≤ 60) (most : Bool) (w0 : World) (A0 : Option Addr) (c0 : Nat) (hr0 : Kd.C k89 w0 A0 l.length l) (hc0 : l.length ≤ c0) (gc bm : Nat) (hbm : w0.heap.size ≤ bm) (hne : gc ≠ bm) :
    ∀ (k : Nat) (a n v : Int) (w : World) (D : DataW Nat), 0 ≤ a → a < l.length → 0 ≤ n → n ≤ 60 → cnt l most k a n = some v → Below w0.heap.size w0 w →
      w.cell? ⟨gc, 0, none⟩ = some (.slice A0 l.length c0) → w.cell? ⟨gc, 1, none⟩ = some (.bool most) → w.cell? ⟨gc, 2, none⟩ = some (.map (some bm)) → Memo l most D → w.ownsMap Try.prog 205 (plainElem Try.prog 2) bm (Go.Maps.size D) D →
      Calls Try.prog 120 #[.pointer (some ⟨gc, 0, none⟩), .int .i16 a, .int .i64 n] w fun e w' => CntPost l most bm w v e w' := by
  have HK := Aside0.mk hk
  have HLN := Aside0.mk hl
  have HR0 := Aside0.mk hr0
  have HC0 := Aside0.mk hc0
  have HBM := Aside0.mk hbm
  have HNE := Aside0.mk hne
  clear hk hl hr0 hc0 hbm hne
  intro k
  induction k with
  | zero => intro a n v w D _ _ _ _ h; exact absurd h (by simp [cnt])
  | succ k ih =>
    intro a n v w D a0 a1 n0 n1 h hb hc1 hc2 hc3 hM hO
    have IH := Aside0.mk ih
    clear ih
    rw [cnt_succ] at h
    have HB := Aside0.mk hb
    have HM := Aside0.mk hM
    have HO := Aside0.mk hO
    have C1 := Aside0.mk hc1
    have C2 := Aside0.mk hc2
    have C3 := Aside0.mk hc3
    clear hb hM hO hc1 hc2 hc3
    by_cases cn : n = 0
    · rw [if_pos cn] at h
      obtain rfl := Option.some.inj h
      subst cn
      clear h
      go_enter Try.func120, Try.ntmps120
      go_wp2
      go_ret
      exact ⟨rfl, D, HM.out, HO.out, ⟨rfl, rfl, rfl, Nat.le_refl _, fun i _ _ => rfl⟩⟩
    · have en : (n == 0) = false := beq_eq_false_iff_ne.mpr cn
      have HV0 := Aside0.mk ((cnt_succ l most k a n).trans h : cnt l most (k + 1) a n = some v)
      rw [if_neg cn] at h
      have HV := Aside0.mk h
      have hr : Kr a n := ⟨a0, by have := HLN.out; omega, n0, n1⟩
      have HKR := Aside0.mk hr
      have HKEY := Aside0.mk (keyL_of hr)
      have hwa : IntKind.i64.wrap a = a := IntWalk.i64_in _ (by have := HLN.out; omega)
      clear h hr
      go_enter Try.func120, Try.ntmps120
      go_wp2
      have hlt : bm < w.heap.size := HO.out.lt
      generalize hwA : World.alloc w _ = wA
      have hkb0 : wA.cell? ⟨w.heap.size, 0, none⟩ = some (.int .i64 a) := by rw [← hwA]; simp
      have hkb1 : wA.cell? ⟨w.heap.size, 1, none⟩ = some (.int .i64 n) := by rw [← hwA]; simp
      have hgA : w.grownBy wA (some bm) := by rw [← hwA]; exact World.grownBy_alloc _ _ _
      have hOA : wA.ownsMap Try.prog 205 (plainElem Try.prog 2) bm (Go.Maps.size D) D := by rw [← hwA]; exact HO.out.alloc _
      have hkb : w.heap.size ≠ bm := by omega
      clear hwA hlt
      have GA := Aside0.mk hgA
      have OA := Aside0.mk hOA
      have BA := Aside0.mk (below_grown HB.out hgA HBM.out)
      have hc1 := cell_grown hgA HNE.out C1.out
      have hc2 := cell_grown hgA HNE.out C2.out
      have hc3 := cell_grown hgA HNE.out C3.out
      generalize w.heap.size = kb at hkb0 hkb1 hkb ⊢
      obtain ⟨z0, ps, hrun, hz⟩ := (hOA.drew).look_ok law205 Try.underlying168 (zeroE2 _) (plainElem_int Try.underlying2 (by decide)) HKEY.out
      obtain ⟨c, rfl, hc, hcw⟩ := plainElem_int_inv Try.underlying2 hz
      simp only [Prod.mk.injEq] at hc
      clear hgA hOA hz
      have HAT := Aside0.mk hc.1
      clear hc
      cases hh : Go.Maps.has D (keyL a n) with
      | true =>
        rw [hh] at hrun
        obtain ⟨k2, v2, h1, h2⟩ := HM.out.val a n HKR.out hh
        have hcv : c = v := by
          have h3 := HAT.out
          rw [h2] at h3
          have h4 : v2 = c := by simpa using h3
          rw [← h4]
          exact cnt_one l most h1 HV0.out
        subst hcv
        clear h1 h2
        go_region
        go_wp2
        go_ret
        exact ⟨rfl, D, HM.out, OA.out, grown_drew GA.out⟩
      | false =>
        rw [hh] at hrun
        have HH := Aside0.mk hh
        clear hh
        go_region
        generalize hwB : World.drew wA = wB
        have n1_ := Aside0.mk (show w.grownBy wB (some bm) from by rw [← hwB]; exact grown_drew GA.out)
        have n2_ := Aside0.mk (show wB.ownsMap Try.prog 205 (plainElem Try.prog 2) bm (Go.Maps.size D) D from by rw [← hwB]; exact OA.out)
        have n3_ := Aside0.mk (show Below w0.heap.size w0 wB from by rw [← hwB]; exact below_drew1 BA.out)
        have m1 : wB.cell? ⟨gc, 0, none⟩ = some (.slice A0 l.length c0) := by rw [← hwB]; exact hc1
        have m2 : wB.cell? ⟨gc, 1, none⟩ = some (.bool most) := by rw [← hwB]; exact hc2
        have m3 : wB.cell? ⟨gc, 2, none⟩ = some (.map (some bm)) := by rw [← hwB]; exact hc3
        have m4 : wB.cell? ⟨kb, 0, none⟩ = some (.int .i64 a) := by rw [← hwB]; exact hkb0
        have m5 : wB.cell? ⟨kb, 1, none⟩ = some (.int .i64 n) := by rw [← hwB]; exact hkb1
        clear GA OA BA hc1 hc2 hc3 hkb0 hkb1 hrun hwB
        have GA := n1_
        have OA := n2_
        have BA := n3_
        clear n1_ n2_ n3_
        have hko := okT_rd HK.out a a0 a1
        obtain ⟨adL, eL, _⟩ := at_T89 HR0.out a a0 a1
        cases eL
        have HRX := Aside0.mk (show Kd.C k89 w0 (some (Addr.add adL (a.toNat * 5))) [rd_T89 l a].length [rd_T89 l a] from Kd.C_el k89 z89 HR0.out a a0 a1)
        obtain ⟨x, hx⟩ : ∃ x, x = rd_T89 l a := ⟨_, rfl⟩
        rw [← hx] at HV HRX hko
        clear hx
        obtain ⟨adx, ex, hx0, hx1, hx2, _⟩ := rp_T89 HRX.out (by simp)
        cases ex
        rw [rd1_T89] at hx0 hx2
        clear hx1
        replace hx0 := (BA.out.cell (World.block_lt_of_cell? w0 _ hx0)).trans hx0
        replace hx2 := (BA.out.cell (World.block_lt_of_cell? w0 _ hx2)).trans hx2
        have t0 := eq_true a0
        have t1 := eq_true a1
        have d0 : decide (0 ≤ a) = true := decide_eq_true a0
        have d1 : decide (a < (l.length : Int)) = true := decide_eq_true a1
        have hmr : Go.Maps.size D ≤ 3660 := by have := HM.out.room; omega
        by_cases ck : x.f0 = 2
        · have HVn := HV.out
          rw [if_pos ck] at HVn
          have HV2 := Aside0.mk HVn
          clear HVn HV
          rw [ck] at hx0
          have hn1 : IntKind.i64.wrap (n - 1) = n - 1 := IntWalk.i64_in _ (by omega)
          have hn2 : wrap64 (n - 1) = n - 1 := by unfold wrap64; omega
          go_wp2_with (first | (go_at_call 120; (with_reducible refine (IH.out x.f2.f0 (n - 1) v wB D hko.2.1.1 hko.2.1.2 ?i1 ?i2 HV2.out BA.out m1 m2 m3 HM.out OA.out).mono ?_); (case i1 => omega); (case i2 => omega); rintro e w2 ⟨rfl, D2, hM2, hO2, hg2⟩))
          obtain ⟨w3, hrun3, hO3, hg3⟩ := (hO2.drew).update law205 Try.underlying168 (show Go.Maps.size D2 < maxLen by have := hM2.room; unfold maxLen; omega) HKEY.out (plainElem_int Try.underlying2 (wf_of (cnt_I64 l most (k + 1) a n v HV0.out)))
          have p3 := cell_grown hg2 HNE.out m3
          have p4 := cell_grown hg2 hkb m4
          have p5 := cell_grown hg2 hkb m5
          go_region
          go_wp2
          go_ret
          exact ⟨rfl, _, hM2.put HKR.out HV0.out, own_exact hO3, (GA.out.trans hg2).trans ((grown_drew (World.grownBy.refl _ _)).trans hg3)⟩
        · have e2 : (x.f0 == 2) = false := beq_eq_false_iff_ne.mpr ck
          have hx1 : x.f0 = 1 := by rcases hko.1 with h | h; exact h; exact absurd h ck
          have HVn := HV.out
          rw [if_neg ck] at HVn
          obtain ⟨v0, e0, HVn⟩ := Option.bind_eq_some_iff.mp HVn
          obtain ⟨v1, e1, HVn⟩ := Option.bind_eq_some_iff.mp HVn
          obtain ⟨v2, e3, HVn⟩ := Option.bind_eq_some_iff.mp HVn
          have hv := Option.some.inj HVn
          clear HVn HV
          have HRW := Aside0.mk (waysR w0 (Addr.add adL (a.toNat * 5)) x HRX.out)
          have hws := ways_1 x hx1
          obtain ⟨V, hV⟩ : ∃ V : Nat → Int, V = fun j => if j = 0 then v0 else if j = 1 then v1 else v2 := ⟨_, rfl⟩
          have hcall : ∀ j : Nat, j < 3 → cnt l most k (rd (waysL x) (j : Int)) n = some (V j) ∧ 0 ≤ rd (waysL x) (j : Int) ∧ rd (waysL x) (j : Int) < l.length := by
            intro j hj
            rw [hws, hV]
            match j, hj with
            | 0, _ => exact ⟨e0, hko.2.1.1, hko.2.1.2⟩
            | 1, _ => exact ⟨e1, hko.2.2.1.1, hko.2.2.1.2⟩
            | 2, _ => exact ⟨e3, hko.2.2.2.1, hko.2.2.2.2⟩
          have hOv : Ov most V 3 = v := by rw [← hv, hV]; rfl
          have hwl : (waysL x).length = 3 := by rw [hws]; rfl
          have HCALL := Aside0.mk hcall
          have HOV := Aside0.mk hOv
          have HWL := Aside0.mk hwl
          clear hcall hOv hv hV e0 e1 e3 hws hwl hx2
          go_wp2_with (first | (go_at_call 124; refine (ways_x (Addr.add adL (a.toNat * 5)) x _ hx0).mono ?_; rintro e wC ⟨rfl, rfl⟩))
          rw [HWL.out]
          generalize Addr.add adL (a.toNat * 5) = P at HRX HRW hx0 ⊢
          clear hx0
          have M1 := Aside0.mk m1
          have M2 := Aside0.mk m2
          have M3 := Aside0.mk m3
          have M4 := Aside0.mk m4
          have M5 := Aside0.mk m5
          clear m1 m2 m3 m4 m5
          go_loopw [11, 56] (fun v11 v56 wr => ∃ (j : Nat) (Dj : DataW Nat), v56 = .int .i64 (j : Int) ∧ v11 = .int .i64 (Ov most V j) ∧ Aside0 (j ≤ 3) ∧ Aside0 (Memo l most Dj) ∧ Aside0 (wr.ownsMap Try.prog 205 (plainElem Try.prog 2) bm (Go.Maps.size Dj) Dj) ∧ Aside0 (wC.grownBy wr (some bm))) (fun _ v _ => 3 - (intOf v).toNat)
          case atStart => exact ⟨0, D, rfl, rfl, ⟨by omega⟩, HM, OA, ⟨World.grownBy.refl _ _⟩⟩
          case round =>
            obtain ⟨j, Dj, rfl, rfl, HJ, HMj, HOj, HGj⟩ := hrel
            have m1 := cell_grown HGj.out HNE.out M1.out
            have m2 := cell_grown HGj.out HNE.out M2.out
            have m3 := cell_grown HGj.out HNE.out M3.out
            have BJ := Aside0.mk (below_grown BA.out HGj.out HBM.out)
            by_cases hj : j < 3
            · obtain ⟨hc, r0, r1⟩ := HCALL.out j hj
              obtain ⟨adw, ew, hxw⟩ := Kd.at_int HRW.out (j : Int) (by omega) (by rw [HWL.out]; omega)
              cases ew
              rw [Int.toNat_natCast] at hxw
              (first | simp only [add_at] at hxw | simp only [add_plain] at hxw | simp only [Addr.add] at hxw)
              replace hxw := (BJ.out.cell (World.block_lt_of_cell? w0 _ hxw)).trans hxw
              generalize rd (waysL x) (j : Int) = y at hc r0 r1 hxw
              have d2 : decide ((j : Int) < 3) = true := decide_eq_true (by omega)
              have t2 := eq_true (show (j : Int) < 3 by omega)
              have j3 : (j : Int) < 3 := by omega
              have arm : True := trivial
              cases j with
              | zero =>
                go_wp2_with (first | (go_at_call 120; (with_reducible refine (IH.out y n (V 0) wr Dj r0 r1 n0 n1 hc BJ.out m1 m2 m3 HMj.out HOj.out).mono ?_); rintro e w2 ⟨rfl, D2, hM2, hO2, hg2⟩; have m2b := cell_grown hg2 HNE.out m2))
                refine ⟨⟨_, _, _, _, _, _, _, _, _, _, _, _, _, _, _, _, _, _, _, _, _, _, _, _, _, _, _, _, _, _, _, _, _, ?rel, rfl⟩, ?measure⟩
                case rel => exact ⟨1, D2, by go_num, by first | rfl | simp [Ov], ⟨by omega⟩, ⟨hM2⟩, ⟨hO2⟩, ⟨HGj.out.trans hg2⟩⟩
                case measure => first | (simp [intOf]; done) | (simp [intOf]; omega)
              | succ j =>
                have ej : (((j + 1 : Nat) : Int) == 0) = false := beq_eq_false_iff_ne.mpr (by omega)
                have ejn : ¬ ((j + 1 : Nat) : Int) = 0 := by omega
                obtain ⟨o, ho⟩ : ∃ o, o = Ov most V (j + 1) := ⟨_, rfl⟩
                have hO3 : Ov most V (j + 1 + 1) = best most o (wrap64 (V (j + 1) + 1)) := by rw [ho]; rfl
                rw [← ho]
                clear ho
                have HO3 := Aside0.mk hO3
                clear hO3
                cases h1 : (decide (o < wrap64 (V (j + 1) + 1)) == most) with
                | false =>
                  go_wp2_with (first | (go_at_call 120; (with_reducible refine (IH.out y n (V (j + 1)) wr Dj r0 r1 n0 n1 hc BJ.out m1 m2 m3 HMj.out HOj.out).mono ?_); rintro e w2 ⟨rfl, D2, hM2, hO2, hg2⟩; have m2b := cell_grown hg2 HNE.out m2))
                  refine ⟨⟨_, _, _, _, _, _, _, _, _, _, _, _, _, _, _, _, _, _, _, _, _, _, _, _, _, _, _, _, _, _, _, _, _, ?rel, rfl⟩, ?measure⟩
                  case rel => exact ⟨j + 1 + 1, D2, by go_num, by rw [HO3.out, best_2 h1], ⟨by omega⟩, ⟨hM2⟩, ⟨hO2⟩, ⟨HGj.out.trans hg2⟩⟩
                  case measure => first | (simp [intOf]; done) | (simp [intOf]; omega)
                | true =>
                  cases h2 : (wrap64 (V (j + 1) + 1) != o) with
                  | false =>
                    go_wp2_with (first | (go_at_call 120; (with_reducible refine (IH.out y n (V (j + 1)) wr Dj r0 r1 n0 n1 hc BJ.out m1 m2 m3 HMj.out HOj.out).mono ?_); rintro e w2 ⟨rfl, D2, hM2, hO2, hg2⟩; have m2b := cell_grown hg2 HNE.out m2))
                    refine ⟨⟨_, _, _, _, _, _, _, _, _, _, _, _, _, _, _, _, _, _, _, _, _, _, _, _, _, _, _, _, _, _, _, _, _, ?rel, rfl⟩, ?measure⟩
                    case rel => exact ⟨j + 1 + 1, D2, by go_num, by rw [HO3.out, best_3 h2], ⟨by omega⟩, ⟨hM2⟩, ⟨hO2⟩, ⟨HGj.out.trans hg2⟩⟩
                    case measure => first | (simp [intOf]; done) | (simp [intOf]; omega)
                  | true =>
                    go_wp2_with (first | (go_at_call 120; (with_reducible refine (IH.out y n (V (j + 1)) wr Dj r0 r1 n0 n1 hc BJ.out m1 m2 m3 HMj.out HOj.out).mono ?_); rintro e w2 ⟨rfl, D2, hM2, hO2, hg2⟩; have m2b := cell_grown hg2 HNE.out m2))
                    refine ⟨⟨_, _, _, _, _, _, _, _, _, _, _, _, _, _, _, _, _, _, _, _, _, _, _, _, _, _, _, _, _, _, _, _, _, ?rel, rfl⟩, ?measure⟩
                    case rel => exact ⟨j + 1 + 1, D2, by go_num, by rw [HO3.out, best_1 h1 h2], ⟨by omega⟩, ⟨hM2⟩, ⟨hO2⟩, ⟨HGj.out.trans hg2⟩⟩
                    case measure => first | (simp [intOf]; done) | (simp [intOf]; omega)
            · have hj3 : j = 3 := by have := HJ.out; omega
              subst hj3
              rw [HOV.out]
              go_wp2
              obtain ⟨w3, hrun3, hO3, hg3⟩ := (HOj.out.drew).update law205 Try.underlying168 (show Go.Maps.size Dj < maxLen by have := HMj.out.room; unfold maxLen; omega) HKEY.out (plainElem_int Try.underlying2 (wf_of (cnt_I64 l most (k + 1) a n v HV0.out)))
              have p3 := cell_grown HGj.out HNE.out M3.out
              have p4 := cell_grown HGj.out hkb M4.out
              have p5 := cell_grown HGj.out hkb M5.out
              go_region
              go_wp2
              go_ret
              exact ⟨rfl, _, HMj.out.put HKR.out HV0.out, own_exact hO3, (GA.out.trans HGj.out).trans ((grown_drew (World.grownBy.refl _ _)).trans hg3)⟩
end Go.Proofs.Ytpfnohdnaocpdaa.PT

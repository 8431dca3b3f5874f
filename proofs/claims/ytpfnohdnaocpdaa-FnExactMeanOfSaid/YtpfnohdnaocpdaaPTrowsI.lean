/- Tree.rows by hand: a recursion that puts rows behind others. -/
import Derived.Test.YtpfnohdnaocpdaaPTx2
import Derived.Test.YtpfnohdnaocpdaaPTokT
import Derived.Test.YtpfnohdnaocpdaaPTha
import Derived.Test.YtpfnohdnaocpdaaPTks
import Derived.Test.YtpfnohdnaocpdaaPTclone8
import Derived.IntWalk
namespace Go.Proofs.Ytpfnohdnaocpdaa.PT
open Go.RowKit Go.Proofs.YtpfnohdnaocpdaaW.PrintWords Go.Proofs.YtpfnohdnaocpdaaW.PrintLast Go.Proofs.YtpfnohdnaocpdaaW.PrintMore Go.Lib Go.Proofs.YtpfnohdnaocpdaaRP
set_option linter.unusedVariables false
set_option linter.unusedSimpArgs false
def okR (l : List S89) (out : List S151) (a : Int) (qs ts : List Int) : Prop := qs.length ≤ 100000 ∧ ts.length ≤ 100000 ∧ out.length ≤ 100000 ∧ 0 ≤ a ∧ a < l.length
instance (l : List S89) (out : List S151) (a : Int) (qs ts : List Int) : Decidable (okR l out a qs ts) := by unfold okR; exact inferInstance
def restI (rec : List S151 → Int → List Int → Option (List S151 × Bool)) (qs : List Int) : List (Int × Int) → List S151 → Option (List S151 × Bool)
  | [], o => some (o, true)
  | (d, b) :: r, o => (rec o b (qs ++ [d])).bind fun t => if t.2 = true then restI rec qs r t.1 else some ([], false)
theorem restI_cons (rec : List S151 → Int → List Int → Option (List S151 × Bool)) (qs : List Int) (d b : Int) (r : List (Int × Int)) (o : List S151) : restI rec qs ((d, b) :: r) o = (rec o b (qs ++ [d])).bind fun t => if t.2 = true then restI rec qs r t.1 else some ([], false) := rfl
def waysI (x : S89) : List (Int × Int) := [(-1, x.f2.f0), (0, x.f2.f1), (1, x.f2.f2)]
def rowsI : Nat → List S89 → List S151 → Int → Int → List Int → List Int → Option (List S151 × Bool)
  | 0, _, _, _, _, _, _ => none
  | k + 1, l, out, a, n, qs, ts =>
    if okR l out a qs ts then
      if (ts.length : Int) = n then some (out ++ [⟨qs, ts⟩], decide ((out.length : Int) + 1 ≤ 729))
      else if (rd_T89 l a).f0 = 2 then rowsI k l out (rd_T89 l a).f2.f0 n qs (ts ++ [(rd_T89 l a).f1])
      else restI (fun o b q => rowsI k l o b n q ts) qs (waysI (rd_T89 l a)) out
    else none
theorem rowsI_succ (k : Nat) (l : List S89) (out : List S151) (a n : Int) (qs ts : List Int) : rowsI (k + 1) l out a n qs ts = if okR l out a qs ts then
      if (ts.length : Int) = n then some (out ++ [⟨qs, ts⟩], decide ((out.length : Int) + 1 ≤ 729))
      else if (rd_T89 l a).f0 = 2 then rowsI k l out (rd_T89 l a).f2.f0 n qs (ts ++ [(rd_T89 l a).f1])
      else restI (fun o b q => rowsI k l o b n q ts) qs (waysI (rd_T89 l a)) out
    else none := rfl
theorem infoRow : (Try.prog.info? 151).map (fun i => (i.zero, i.size, i.bytes)) = some (some (.agg #[.slice none 0 0, .slice none 0 0]), 2, 48) := by kernel_rfl
abbrev T_ : Nat → Prop := fun _ => True
abbrev RI (w : World) (b0 : Nat) (v : Value) (xs : List Int) : Prop := Kd.R (Kd.int .i8) 86 w b0 T_ v xs
abbrev RR (w : World) (b0 : Nat) (v : Value) (xs : List S151) : Prop := Kd.S k151 151 w b0 T_ v xs
theorem clone_some {xs : List Int} (h : xs.length ≤ 100000) : slices_Clone8.f xs = some xs := by unfold slices_Clone8.f; rw [if_pos (by omega)]
/-- What is new is none of what was there. -/
theorem R_fresh {α : Type} {d : Kd α} {e : Nat} {w : World} {b : Nat} {v : Value} {xs : List α} (h : Kd.R d e w b T_ v xs) : Kd.R d e w b (fun k => b ≤ k) v xs := Kd.R_mono (Kd.R_bound h) (fun k hk => hk.2.1)
def RowsPost (b0 : Nat) (r1 : List S151) (r2 : Bool) (W0 w : World) (e : Ending) (w' : World) : Prop := ∃ v, e = .returned (.tuple #[v, .bool r2]) ∧ (r2 = true → RR w' b0 v r1) ∧ Below b0 W0 w' ∧ Ks [151] w w' ∧ w.heap.size ≤ w'.heap.size
/-- A copy of a row, and a literal of one digit, in either order. -/
def Lit_ (wp w' : World) (A : Option Addr) (xs : List Int) (c b : Nat) (d : Int) : Prop := Kd.R (Kd.int .i8) 86 w' wp.heap.size (fun k => k ≠ b) (.slice A xs.length c) xs ∧ w'.heap[b]? = some (.cells #[.int .i8 d] 86 (0, 0)) ∧ wp.heap.size ≤ b ∧ Below wp.heap.size wp w'
theorem Lit_after {wp w3 : World} {A : Option Addr} {xs : List Int} {c : Nat} (d : Int) (hR : Kd.R (Kd.int .i8) 86 w3 wp.heap.size T_ (.slice A xs.length c) xs) (hb : Below wp.heap.size wp w3) : Lit_ wp (w3.alloc (.cells #[.int .i8 d] 86)) A xs c w3.heap.size d :=
  ⟨Kd.R_mono (Kd.R_alloc (Kd.R_bound hR) _) (fun k hk => by have := hk.2.2.1; omega), ha_at w3 _ rfl, hb.size, below_alloc hb _⟩
theorem Lit_before {wp w3 : World} {A : Option Addr} {xs : List Int} {c : Nat} (d : Int) (hR : Kd.R (Kd.int .i8) 86 w3 (World.drew (wp.alloc (.cells #[.int .i8 d] 86))).heap.size T_ (.slice A xs.length c) xs) (hb : Below (World.drew (wp.alloc (.cells #[.int .i8 d] 86))).heap.size (World.drew (wp.alloc (.cells #[.int .i8 d] 86))) w3) : Lit_ (World.drew wp) w3 A xs c wp.heap.size d := by
  have h1 : Below wp.heap.size (World.drew wp) (World.drew (wp.alloc (.cells #[.int .i8 d] 86))) := (below_alloc (Below.refl (World.drew wp).heap.size (World.drew wp)) (.cells #[.int .i8 d] 86) : Below (World.drew wp).heap.size (World.drew wp) ((World.drew wp).alloc (.cells #[.int .i8 d] 86)))
  have h2 : (World.drew (wp.alloc (.cells #[.int .i8 d] 86))).heap.size = wp.heap.size + 1 := by show (wp.alloc (.cells #[.int .i8 d] 86)).heap.size = _; simp
  exact ⟨Kd.R_lower (Kd.R_mono (R_fresh hR) (fun k hk => by have : k ≠ wp.heap.size := by omega
                                                            exact this)) h1.size, (hb.block _ (by omega)).trans (show (wp.alloc (.cells #[.int .i8 d] 86)).heap[wp.heap.size]? = _ from ha_at wp _ rfl), Nat.le_refl _, h1.trans (hb.mono h1.size)⟩
theorem one_C {w : World} {b : Nat} {d : Int} (h : w.heap[b]? = some (.cells #[.int .i8 d] 86 (0, 0))) : Kd.C (Kd.int .i8) w (some ⟨b, 0, none⟩) 1 [d] := by
  have h0 : w.cell? ⟨b, 0, none⟩ = some (.int .i8 d) := (blk_cell h 0).trans rfl
  refine ⟨rfl, by omega, fun _ => ⟨_, rfl, fun j p hj => ⟨[.int .i8 p], rfl, rfl, fun q u hu => ?_⟩⟩⟩
  match j, q with
  | 0, 0 =>
    obtain rfl : d = p := by simpa using hj
    obtain rfl : (Value.int .i8 d) = u := by simpa using hu
    simpa [Addr.add] using h0
  | 0, q + 1 => simp at hu
  | j + 1, _ => simp at hj
set_option maxHeartbeats 8000000 in
set_option maxRecDepth 100000 in
theorem rowsI_base (l : List S89) (W0 : World) (A0 : Option Addr) (c0 : Nat) (out : List S151) (a n : Int) (qs ts : List Int) (vo va vt : Value) (w : World) (h : okR l out a qs ts) (hn : (ts.length : Int) = n)
    (ho : RR w W0.heap.size vo out) (ha : RI w W0.heap.size va qs) (ht : RI w W0.heap.size vt ts) (hb : Below W0.heap.size W0 w) :
    Calls Try.prog 103 #[.agg #[.slice A0 l.length c0], vo, .int .i16 a, .int .i64 n, va, vt] w fun e w' => RowsPost W0.heap.size (out ++ [⟨qs, ts⟩]) (decide ((out.length : Int) + 1 ≤ 729)) W0 w e w' := by
  obtain ⟨h0, h1, h2, _⟩ := h
  obtain ⟨Ao, co, rfl⟩ := Kd.S_slice ho
  obtain ⟨Aa, ca, rfl⟩ := Kd.R_slice ha
  obtain ⟨At, ct, rfl⟩ := Kd.R_slice ht
  obtain ⟨_, la, ra⟩ := Kd.R_reads' ha
  obtain ⟨_, lt, rt⟩ := Kd.R_reads' ht
  have CA := Aside0.mk (clone_some h0)
  have CT := Aside0.mk (clone_some h1)
  have HO := Aside0.mk ho
  have HA := Aside0.mk ra
  have HT := Aside0.mk rt
  have LA := Aside0.mk la
  have LT := Aside0.mk lt
  have HB := Aside0.mk hb
  have L2 := Aside0.mk h2
  have e0 : ((ts.length : Int) == n) = true := beq_iff_eq.mpr hn
  clear h0 h1 h2 ho ha ht la lt ra rt hb hn
  go_enter Try.func103, Try.ntmps103
  go_wp2_with (first
    | (go_at_call 137
       (with_reducible refine (slices_Clone8.calls Aa ca qs qs _ ?s1 ?s2 CA.out).mono ?_)
       (case s1 => exact Kd.C_alloc HA.out _)
       (case s2 => exact LA.out)
       rintro e w1 ⟨v1, rfl, hR1, hb1⟩
       obtain ⟨A1, c1, rfl⟩ := Kd.R_slice hR1
       have R1 := Aside0.mk (Kd.R_mono (R_fresh hR1) (fun k hk => Nat.le_trans (below_alloc (Below.refl _ _) _ : Below w.heap.size w _).size hk))
       have B1 := Aside0.mk (Below.trans (below_alloc (Below.refl _ _) _ : Below w.heap.size w _) (hb1.mono (below_alloc (Below.refl _ _) _ : Below w.heap.size w _).size))
       clear hR1 hb1)
    | (go_at_call 137
       (with_reducible refine (slices_Clone8.calls At ct ts ts _ ?s1 ?s2 CT.out).mono ?_)
       (case s1 => exact Kd.C_below HT.out B1.out)
       (case s2 => exact LT.out)
       rintro e w2 ⟨v2, rfl, hR2, hb2⟩
       obtain ⟨A2, c2, rfl⟩ := Kd.R_slice hR2
       have hs0 := HB.out.size
       have hs1 := B1.out.size
       have BW := Aside0.mk (B1.out.trans (hb2.mono hs1))
       have BB := Aside0.mk (HB.out.trans (BW.out.mono hs0))
       have SB := Aside0.mk BB.out.size
       have RO2 := Aside0.mk (Kd.S_mono (Kd.S_below (Kd.S_bound HO.out) BW.out) (ok' := fun k => T_ k ∧ ¬ (w.heap.size ≤ k)) (fun k hk => ⟨trivial, by have := hk.2.2.1; omega⟩))
       have G1 := Aside0.mk (Kd.R_lower (Kd.R_mono (R_fresh hR2) (fun k hk => Nat.le_trans hs1 hk)) (Nat.le_trans hs0 hs1))
       have G0 := Aside0.mk (Kd.R_below (Kd.R_lower R1.out (Nat.le_trans hs0 (below_alloc (Below.refl _ _) _ : Below w.heap.size w _).size)) hb2)
       have AK := Aside0.mk (fun k (hk : w.heap.size ≤ k) => (⟨trivial, fun e => absurd (Kd.S_lt HO.out k e.symm) (by omega)⟩ : T_ k ∧ some k ≠ (Value.slice Ao out.length co).ownBlock))
       clear hR2 hb2 R1 B1 hs0 hs1)
    | ((with_reducible refine gate_builtin (b := .append) (xs := #[.tmp 22, .tmp 28]) rfl ?_); at_builtin
       refine Kd.S_append k151 (w0 := W0) (W := w2) W0.heap.size rfl (.tmp 22) (.tmp 28) 65 151 (.agg #[.slice none 0 0, .slice none 0 0]) 48 rfl Try.underlying65 infoRow rfl (by decide) (by decide) (.slice Ao out.length co) out ⟨qs, ts⟩ [.slice A1 qs.length c1, .slice A2 ts.length c2] T_ (fun k => w.heap.size ≤ k) rfl rfl (k151_mkM _ _ _ ⟨qs, ts⟩ G0.out G1.out) AK.out (fun _ _ => trivial) RO2.out BB.out SB.out (by have := L2.out; omega) ?_
       intro v3 w3 hR3 hb3 hg3 hat3
       obtain ⟨A3, c3, rfl⟩ := Kd.S_slice hR3
       have R3 := Aside0.mk hR3
       have B3 := Aside0.mk hb3
       have KS := Aside0.mk ((Ks.below (T := [151]) BW.out).trans (Ks.grown hg3 (fun k c q fz e hk => by
         obtain ⟨cells, hc⟩ := Kd.S_typed RO2.out k e
         rw [hc] at hk; injection hk with hk; injection hk with _ hk; rw [← hk]; simp)))
       clear hR3 hb3 hg3 hat3 G0 G1 RO2)
    | fail)
  go_ret2
  exact ⟨_, rfl, fun _ => (by have h := R3.out; rw [List.length_append, List.length_singleton] at h; exact h), B3.out, KS.out, KS.out.1⟩
set_option maxHeartbeats 8000000 in
set_option maxRecDepth 100000 in
theorem rowsI_tell (l : List S89) (W0 : World) (A0 : Option Addr) (c0 : Nat) (hr0 : Kd.C k89 W0 A0 l.length l) (out : List S151) (a n : Int) (qs ts : List Int) (vo va vt : Value) (r1 : List S151) (r2 : Bool) (w : World) (q1 : ts.length ≤ 100000) (i0 : 0 ≤ a) (i1 : a < l.length) (hn : ¬ (ts.length : Int) = n) (hx : (rd_T89 l a).f0 = 2)
    (ho : RR w W0.heap.size vo out) (ha : RI w W0.heap.size va qs) (ht : RI w W0.heap.size vt ts) (hb : Below W0.heap.size W0 w)
    (hrec : ∀ (v : Value) (w' : World), RR w' W0.heap.size vo out → RI w' W0.heap.size va qs → RI w' W0.heap.size v (ts ++ [(rd_T89 l a).f1]) → Below W0.heap.size W0 w' → Calls Try.prog 103 #[.agg #[.slice A0 l.length c0], vo, .int .i16 (rd_T89 l a).f2.f0, .int .i64 n, va, v] w' fun e w2 => RowsPost W0.heap.size r1 r2 W0 w' e w2) :
    Calls Try.prog 103 #[.agg #[.slice A0 l.length c0], vo, .int .i16 a, .int .i64 n, va, vt] w fun e w' => RowsPost W0.heap.size r1 r2 W0 w e w' := by
  obtain ⟨Ao, co, rfl⟩ := Kd.S_slice ho
  obtain ⟨Aa, ca, rfl⟩ := Kd.R_slice ha
  obtain ⟨At, ct, rfl⟩ := Kd.R_slice ht
  obtain ⟨ad0, e0, x0, x1, x2, x3, x4⟩ := at_T89 hr0 a i0 i1
  cases e0
  obtain ⟨X, hX⟩ : ∃ X, X = rd_T89 l a := ⟨_, rfl⟩
  rw [← hX] at x0 x1 x2 x3 x4 hx hrec
  clear hX
  replace x0 := cel hb x0; replace x1 := cel hb x1; replace x2 := cel hb x2; replace x3 := cel hb x3; replace x4 := cel hb x4
  obtain ⟨X0, X1, X2, X3, X4⟩ := X
  simp only at x0 x1 x2 x3 x4 hx hrec
  subst hx
  obtain ⟨_, lt, rt⟩ := Kd.R_reads' ht
  have HT := Aside0.mk rt
  have LT := Aside0.mk lt
  have HO := Aside0.mk ho
  have HA := Aside0.mk ha
  have HB := Aside0.mk hb
  have L1 := Aside0.mk q1
  have HREC := Aside0.mk hrec
  have e0 : ((ts.length : Int) == n) = false := beq_eq_false_iff_ne.mpr hn
  have D1 := decide_eq_true i0
  have D2 := decide_eq_true i1
  clear ho ha ht lt rt hb hn q1 hrec hr0
  have l0 : (Addr.add ad0 (a.toNat * 5)).block < w.heap.size := World.block_lt_of_cell? w _ x0
  have hu34 := Try.underlying34
  have hu89 := Try.underlying89
  go_enter Try.func103, Try.ntmps103
  go_upto_region 6 with (fail)
  generalize hwp : World.alloc (World.alloc w _) _ = wp
  have bp : Below w.heap.size w wp := by rw [← hwp]; exact below_alloc (below_alloc (Below.refl _ _) _) _
  have K0 : wp.heap[w.heap.size]? = some (.cells #[.slice (some ad0) l.length c0] 34 (0, 0)) := by rw [← hwp]; exact ha_old _ (ha_at w _ rfl)
  have K1 : wp.heap[w.heap.size + 1]? = some (.cells #[.int .i8 2, .int .i8 X1, .int .i16 X2, .int .i16 X3, .int .i16 X4] 89 (0, 0)) := by rw [← hwp]; exact ha_at (w.alloc _) _ (by simp)
  have pb : wp.cell? ⟨w.heap.size, 0, none⟩ = some (.slice (some ad0) l.length c0) := (blk_cell K0 0).trans rfl
  have p1 : wp.cell? ⟨w.heap.size + 1, 1, none⟩ = some (.int .i8 X1) := (bc5 K1).2.1
  have p2 : wp.cell? ⟨w.heap.size + 1, 2, none⟩ = some (.int .i16 X2) := (bc5 K1).2.2.1
  have BW := Aside0.mk bp
  have KP := Aside0.mk (Ks.below (T := [151]) bp)
  have SP := Aside0.mk (Nat.le_trans HB.out.size bp.size)
  have BP := Aside0.mk (HB.out.trans (bp.mono HB.out.size))
  have RO := Aside0.mk (Kd.S_below HO.out bp)
  have RA := Aside0.mk (Kd.R_below HA.out bp)
  clear hwp bp K0 K1 x0 x1 x2 x3 x4
  have GB : Aside0 (w.heap.size = w.heap.size) := ⟨rfl⟩
  generalize hgX : w.heap.size + 1 = gX at p1 p2 ⊢
  generalize hgB : w.heap.size = gB at pb ⊢
  clear GB
  refine start_ (n := 18) (S := fun w' => w'.cell? ⟨gB, 0, none⟩ = some (.slice (some ad0) l.length c0) ∧ w'.cell? ⟨gX, 2, none⟩ = some (.int .i16 X2) ∧ w'.cell? ⟨gX, 1, none⟩ = some (.int .i8 X1)) (ds := [13]) #[false, false, false, false, false, false, false, false, false, false, false, false, false, false, false, false, false, false] (by kernel_rfl) rfl rfl ⟨pb, p2, p1⟩ (fun hHeld => ?_)
  refine pure_ (i := 1) (N := some 43) (v := ?_) (a' := ?_) #[false, true, false, false, false, false, false, false, false, false, false, false, false, false, false, false, false, false] rfl rfl (by kernel_rfl) (fun _ _ _ h => h) (Or.inl ⟨by rfl, ?_⟩) ?_ ?_
  rotate_left
  · intro w'
    go_simp
    with_reducible rfl
  rotate_left
  · simp only [Act.put, List.setIfInBounds_toArray, List.set_cons_zero, List.set_cons_succ, i64_w, i32_w]
    rfl
  refine pure_ (i := 2) (N := some 44) (v := ?_) (a' := ?_) #[false, true, true, false, false, false, false, false, false, false, false, false, false, false, false, false, false, false] rfl rfl (by kernel_rfl) (fun _ _ _ h => h) (Or.inl ⟨by rfl, ?_⟩) ?_ ?_
  rotate_left
  · intro w'
    go_simp
    with_reducible rfl
  rotate_left
  · simp only [Act.put, List.setIfInBounds_toArray, List.set_cons_zero, List.set_cons_succ, i64_w, i32_w]
    rfl
  refine pure_ (i := 3) (N := some 45) (v := ?_) (a' := ?_) #[false, true, true, true, false, false, false, false, false, false, false, false, false, false, false, false, false, false] rfl rfl (by kernel_rfl) (fun _ _ _ h => h) (Or.inl ⟨by rfl, ?_⟩) ?_ ?_
  rotate_left
  · intro w'
    go_simp
    with_reducible rfl
  rotate_left
  · simp only [Act.put, List.setIfInBounds_toArray, List.set_cons_zero, List.set_cons_succ, i64_w, i32_w]
    rfl
  refine pure_ (i := 5) (N := some 47) (v := ?_) (a' := ?_) #[false, true, true, true, false, true, false, false, false, false, false, false, false, false, false, false, false, false] rfl rfl (by kernel_rfl) (fun _ _ _ h => h) (Or.inl ⟨by rfl, ?_⟩) ?_ ?_
  rotate_left
  · intro w'
    go_simp
    with_reducible rfl
  rotate_left
  · simp only [Act.put, List.setIfInBounds_toArray, List.set_cons_zero, List.set_cons_succ, i64_w, i32_w]
    rfl
  refine pure_ (i := 6) (N := some 48) (v := ?_) (a' := ?_) #[false, true, true, true, false, true, true, false, false, false, false, false, false, false, false, false, false, false] rfl rfl (by kernel_rfl) (fun _ _ _ h => h) (Or.inl ⟨by rfl, ?_⟩) ?_ ?_
  rotate_left
  · intro w'
    go_simp
    with_reducible rfl
  rotate_left
  · simp only [Act.put, List.setIfInBounds_toArray, List.set_cons_zero, List.set_cons_succ, i64_w, i32_w]
    rfl
  refine pure_ (i := 7) (N := some 49) (v := ?_) (a' := ?_) #[false, true, true, true, false, true, true, true, false, false, false, false, false, false, false, false, false, false] rfl rfl (by kernel_rfl) (fun _ _ _ h => h) (Or.inl ⟨by rfl, ?_⟩) ?_ ?_
  rotate_left
  · intro w'
    go_simp
    with_reducible rfl
  rotate_left
  · simp only [Act.put, List.setIfInBounds_toArray, List.set_cons_zero, List.set_cons_succ, i64_w, i32_w]
    rfl
  refine pure_ (i := 9) (N := some 51) (v := ?_) (a' := ?_) #[false, true, true, true, false, true, true, true, false, true, false, false, false, false, false, false, false, false] rfl rfl (by kernel_rfl) (fun _ _ _ h => h) (Or.inl ⟨by rfl, ?_⟩) ?_ ?_
  rotate_left
  · intro w'
    go_simp
    with_reducible rfl
  rotate_left
  · simp only [Act.put, List.setIfInBounds_toArray, List.set_cons_zero, List.set_cons_succ, i64_w, i32_w]
    rfl
  refine take_ (i := 0) (N := some 42) (v := ?_) (a' := ?_) #[true, true, true, true, false, true, true, true, false, true, false, false, false, false, false, false, false, false] rfl rfl (by kernel_rfl) (fun _ _ _ h => h) (Or.inl ⟨by rfl, ?_⟩) hHeld ?_ ?_
  rotate_left
  · rintro w' ⟨s0, s1, s2⟩
    go_simp
    with_reducible rfl
  rotate_left
  · simp only [Act.put, List.setIfInBounds_toArray, List.set_cons_zero, List.set_cons_succ, i64_w, i32_w]
    rfl
  refine take_ (i := 4) (N := some 46) (v := ?_) (a' := ?_) #[true, true, true, true, true, true, true, true, false, true, false, false, false, false, false, false, false, false] rfl rfl (by kernel_rfl) (fun _ _ _ h => h) (Or.inl ⟨by rfl, ?_⟩) hHeld ?_ ?_
  rotate_left
  · rintro w' ⟨s0, s1, s2⟩
    go_simp
    with_reducible rfl
  rotate_left
  · simp only [Act.put, List.setIfInBounds_toArray, List.set_cons_zero, List.set_cons_succ, i64_w, i32_w]
    rfl
  refine take_ (i := 10) (N := some 52) (v := ?_) (a' := ?_) #[true, true, true, true, true, true, true, true, false, true, true, false, false, false, false, false, false, false] rfl rfl (by kernel_rfl) (fun _ _ _ h => h) (Or.inl ⟨by rfl, ?_⟩) hHeld ?_ ?_
  rotate_left
  · rintro w' ⟨s0, s1, s2⟩
    go_simp
    with_reducible rfl
  rotate_left
  · simp only [Act.put, List.setIfInBounds_toArray, List.set_cons_zero, List.set_cons_succ, i64_w, i32_w]
    rfl
  refine join_ (σ := Option Addr × Nat × Nat) 6 #[true, true, true, true, true, true, true, true, true, true, true, true, false, false, false, false, false, false] (fun s => [(50, .slice s.1 ts.length s.2.1), (53, .slice (some ⟨s.2.2, 0, none⟩) 1 1)]) (fun s w' => Lit_ (World.drew wp) w' s.1 ts s.2.1 s.2.2 X1) ?_ ?_
  rotate_left
  · intro hCont
    refine two_ (i := 8) (j := 11) (Ni := some 50) (Nj := some 53) #[true, true, true, true, true, true, true, true, true, true, true, false, false, false, false, false, false, false] #[true, true, true, true, true, true, true, true, false, true, true, true, false, false, false, false, false, false] rfl rfl rfl rfl (by kernel_rfl) (by decide) (by decide) (fun K hK => ?_) (fun K hK => ?_)
    · skip
      refine goes_ Try.func137 (by kernel_rfl) rfl #[.slice At ts.length ct] (by rfl) rfl rfl (by simp only [List.map_toArray, List.map_cons, List.map_nil]; rfl) ?_
      with_reducible refine (slices_Clone8.calls At ct ts ts (World.drew wp) (Kd.C_below HT.out (Below.trans BW.out (((below_drew1 (Below.refl _ _)) : Below wp.heap.size wp _).mono BW.out.size))) LT.out (clone_some L1.out)).mono ?_
      rintro e w3 ⟨v3, rfl, hR3, hb3⟩
      refine ⟨_, rfl, ?_⟩
      obtain ⟨A3, m3, rfl⟩ := Kd.R_slice hR3
      have R3 := Aside0.mk hR3
      have B3 := Aside0.mk hb3
      clear hR3 hb3
      refine hK.out _ _ ⟨(cel (w := World.drew wp) B3.out pb), (cel (w := World.drew wp) B3.out p2), (cel (w := World.drew wp) B3.out p1)⟩ (fun hHeld => ?_)
      clear hK K
      refine norm_ (a' := ?_) ?_ ?_
      rotate_left
      · show Act.put _ (some 50) _ = _
        simp only [Act.put, List.setIfInBounds_toArray, List.set_cons_zero, List.set_cons_succ, i64_w, i32_w]
        rfl
      refine one_ (i := 11) (N := some 53) #[true, true, true, true, true, true, true, true, true, true, true, true, false, false, false, false, false, false] rfl rfl (by kernel_rfl) (by decide) (fun K hK => ?_)
      refine value_ (w1 := ?_) (v := ?_) (by rfl) rfl ?_ ?_
      rotate_left 2
      · go_simp
        constructor
        · rfl
        · rfl
      refine hK.out _ _ ⟨(cel (w := World.drew wp) (below_alloc B3.out _) pb), (cel (w := World.drew wp) (below_alloc B3.out _) p2), (cel (w := World.drew wp) (below_alloc B3.out _) p1)⟩ (fun hHeld => ?_)
      clear hK K
      refine norm_ (a' := ?_) ?_ ?_
      rotate_left
      · show Act.put _ (some 53) _ = _
        simp only [Act.put, List.setIfInBounds_toArray, List.set_cons_zero, List.set_cons_succ, i64_w, i32_w]
        rfl
      exact norm_ (by simp only [putAll, Act.put, List.setIfInBounds_toArray, List.set_cons_zero, List.set_cons_succ]) (hCont (A3, m3, w3.heap.size) _ (Lit_after (wp := (World.drew wp)) X1 R3.out B3.out))
    · skip
      refine value_ (w1 := ?_) (v := ?_) (by rfl) rfl ?_ ?_
      rotate_left 2
      · go_simp
        constructor
        · rfl
        · rfl
      refine hK.out _ _ ⟨(cel (w := World.drew wp) (below_alloc (Below.refl _ _) _) pb), (cel (w := World.drew wp) (below_alloc (Below.refl _ _) _) p2), (cel (w := World.drew wp) (below_alloc (Below.refl _ _) _) p1)⟩ (fun hHeld => ?_)
      clear hK K
      refine norm_ (a' := ?_) ?_ ?_
      rotate_left
      · show Act.put _ (some 53) _ = _
        simp only [Act.put, List.setIfInBounds_toArray, List.set_cons_zero, List.set_cons_succ, i64_w, i32_w]
        rfl
      refine one_ (i := 8) (N := some 50) #[true, true, true, true, true, true, true, true, true, true, true, true, false, false, false, false, false, false] rfl rfl (by kernel_rfl) (by decide) (fun K hK => ?_)
      refine goes_ Try.func137 (by kernel_rfl) rfl #[.slice At ts.length ct] (by rfl) rfl rfl (by simp only [List.map_toArray, List.map_cons, List.map_nil]; rfl) ?_
      with_reducible refine (slices_Clone8.calls At ct ts ts (World.drew (World.alloc wp (.cells #[.int .i8 X1] 86))) (Kd.C_below HT.out (Below.trans BW.out (((below_drew1 (below_alloc (Below.refl _ _) _)) : Below wp.heap.size wp _).mono BW.out.size))) LT.out (clone_some L1.out)).mono ?_
      rintro e w3 ⟨v3, rfl, hR3, hb3⟩
      refine ⟨_, rfl, ?_⟩
      obtain ⟨A3, m3, rfl⟩ := Kd.R_slice hR3
      have hL3 := Aside0.mk (Lit_before (wp := wp) X1 hR3 hb3)
      clear hR3 hb3
      refine hK.out _ _ ⟨(cel (w := World.drew wp) hL3.out.2.2.2 pb), (cel (w := World.drew wp) hL3.out.2.2.2 p2), (cel (w := World.drew wp) hL3.out.2.2.2 p1)⟩ (fun hHeld => ?_)
      clear hK K
      refine norm_ (a' := ?_) ?_ ?_
      rotate_left
      · show Act.put _ (some 50) _ = _
        simp only [Act.put, List.setIfInBounds_toArray, List.set_cons_zero, List.set_cons_succ, i64_w, i32_w]
        rfl
      exact norm_ (by simp only [putAll, Act.put, List.setIfInBounds_toArray, List.set_cons_zero, List.set_cons_succ]) (hCont (A3, m3, wp.heap.size) _ hL3.out)
  rintro ⟨A5, m5, kb⟩ w5 hL5
  replace hL5 : Lit_ (World.drew wp) w5 A5 ts m5 kb X1 := hL5
  have L5 := Aside0.mk hL5
  clear hL5
  have hHeld : w5.cell? ⟨gB, 0, none⟩ = some (.slice (some ad0) l.length c0) ∧ w5.cell? ⟨gX, 2, none⟩ = some (.int .i16 X2) ∧ w5.cell? ⟨gX, 1, none⟩ = some (.int .i8 X1) := ⟨(cel (w := World.drew wp) L5.out.2.2.2 pb), (cel (w := World.drew wp) L5.out.2.2.2 p2), (cel (w := World.drew wp) L5.out.2.2.2 p1)⟩
  refine norm_ (a' := ?_) ?_ ?_
  rotate_left
  · simp only [putAll, Act.put, List.setIfInBounds_toArray, List.set_cons_zero, List.set_cons_succ]
    rfl
  refine one_ (i := 12) (N := some 54) #[true, true, true, true, true, true, true, true, true, true, true, true, true, false, false, false, false, false] rfl rfl (by kernel_rfl) (by decide) (fun K hK => ?_)
  refine Kd.R_append_rows_step (Kd.int .i8) (w0 := (World.drew wp)) (W := w5) wp.heap.size (by first | assumption | rfl) (.tmp 50) (.tmp 53) 25 86 (.int .i8 0) 1 rfl Try.underlying25 infoC8 rfl (by decide) (by decide) (.slice A5 ts.length m5) ts [X1] (some ⟨kb, 0, none⟩) 1 1 (fun k => k ≠ kb) (fun _ => False) rfl rfl L5.out.1 (one_C L5.out.2.1) (fun _ _ h => h) (fun _ h => h.elim) (fun k hk => by have := blk_lt_ L5.out.2.1; omega) L5.out.2.2.2 L5.out.2.2.2.size (by have := L1.out; omega) ?_
  intro v6 w6 hR6 hb6 hg6 hat6
  have R6 := Aside0.mk (Kd.R_lower (Kd.R_mono (ok' := T_) hR6 (fun _ _ => trivial)) SP.out)
  have B6 := Aside0.mk hb6
  have BB6 := Aside0.mk (BP.out.trans ((Below.trans (below_drew1 (Below.refl _ _)) hb6).mono SP.out))
  clear hR6 hb6 hg6 hat6 L5
  refine hK.out _ _ ⟨(cel (w := World.drew wp) B6.out pb), (cel (w := World.drew wp) B6.out p2), (cel (w := World.drew wp) B6.out p1)⟩ (fun hHeld => ?_)
  clear hK K
  refine norm_ (a' := ?_) ?_ ?_
  rotate_left
  · show Act.put _ (some 54) _ = _
    simp only [Act.put, List.setIfInBounds_toArray, List.set_cons_zero, List.set_cons_succ, i64_w, i32_w]
    rfl
  refine last_ (i := 13) (N := some 55) #[true, true, true, true, true, true, true, true, true, true, true, true, true, true, false, false, false, false] rfl rfl (by kernel_rfl) (by decide) (fun K hK => ?_)
  refine goes_ Try.func103 (by kernel_rfl) rfl #[.agg #[.slice (some ad0) l.length c0], .slice Ao out.length co, .int .i16 X2, .int .i64 n, .slice Aa qs.length ca, v6] (by rfl) rfl rfl (by simp only [List.map_toArray, List.map_cons, List.map_nil]; rfl) ?_
  with_reducible refine (HREC.out v6 w6 (Kd.S_below RO.out (Below.trans (below_drew1 (Below.refl _ _)) B6.out)) (Kd.R_below RA.out (Below.trans (below_drew1 (Below.refl _ _)) B6.out)) R6.out BB6.out).mono ?_
  rintro e w7 ⟨v7, rfl, hR7, hb7, hk7, hs7⟩
  refine ⟨_, rfl, ?_⟩
  have R7 := Aside0.mk hR7
  have B7 := Aside0.mk hb7
  have J7 := Aside0.mk ((Ks.below (T := [151]) (Below.trans (below_drew1 (Below.refl _ _)) B6.out : Below wp.heap.size wp w6)).trans hk7)
  have K7 := Aside0.mk (KP.out.trans J7.out)
  clear hR7 hb7 hk7 hs7
  refine hK.out _ _ ?_
  clear hK K
  refine norm_ (a' := ?_) ?_ ?_
  rotate_left
  · show Act.put _ (some 55) _ = _
    simp only [Act.put, List.setIfInBounds_toArray, List.set_cons_zero, List.set_cons_succ, i64_w, i32_w]
    rfl
  refine pure_ (i := 14) (N := some 56) (v := ?_) (a' := ?_) #[true, true, true, true, true, true, true, true, true, true, true, true, true, true, true, false, false, false] rfl rfl (by kernel_rfl) (fun _ _ _ h => h) (Or.inl ⟨by rfl, ?_⟩) ?_ ?_
  rotate_left
  · intro w'
    go_simp
    with_reducible rfl
  rotate_left
  · simp only [Act.put, List.setIfInBounds_toArray, List.set_cons_zero, List.set_cons_succ, i64_w, i32_w]
    rfl
  refine pure_ (i := 15) (N := some 57) (v := ?_) (a' := ?_) #[true, true, true, true, true, true, true, true, true, true, true, true, true, true, true, true, false, false] rfl rfl (by kernel_rfl) (fun _ _ _ h => h) (Or.inl ⟨by rfl, ?_⟩) ?_ ?_
  rotate_left
  · intro w'
    go_simp
    with_reducible rfl
  rotate_left
  · simp only [Act.put, List.setIfInBounds_toArray, List.set_cons_zero, List.set_cons_succ, i64_w, i32_w]
    rfl
  refine pure_ (i := 16) (N := some 12) (v := ?_) (a' := ?_) #[true, true, true, true, true, true, true, true, true, true, true, true, true, true, true, true, true, false] rfl rfl (by kernel_rfl) (fun _ _ _ h => h) (Or.inl ⟨by rfl, ?_⟩) ?_ ?_
  rotate_left
  · intro w'
    go_simp
    with_reducible rfl
  rotate_left
  · simp only [Act.put, List.setIfInBounds_toArray, List.set_cons_zero, List.set_cons_succ, i64_w, i32_w]
    rfl
  refine pure_ (i := 17) (N := some 13) (v := ?_) (a' := ?_) #[true, true, true, true, true, true, true, true, true, true, true, true, true, true, true, true, true, true] rfl rfl (by kernel_rfl) (fun _ _ _ h => h) (Or.inl ⟨by rfl, ?_⟩) ?_ ?_
  rotate_left
  · intro w'
    go_simp
    with_reducible rfl
  rotate_left
  · simp only [Act.put, List.setIfInBounds_toArray, List.set_cons_zero, List.set_cons_succ, i64_w, i32_w]
    rfl
  refine done_ (by kernel_rfl) ?_

  go_wp2
  go_ret2
  exact ⟨_, rfl, R7.out, B7.out, K7.out, K7.out.1⟩
end Go.Proofs.Ytpfnohdnaocpdaa.PT

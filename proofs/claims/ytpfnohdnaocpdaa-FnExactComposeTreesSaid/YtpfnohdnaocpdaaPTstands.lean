/- stands by hand: two drawn regions that make variables. -/
import Derived.Test.YtpfnohdnaocpdaaPTx4
import Derived.Test.YtpfnohdnaocpdaaPTokT
import Derived.Test.YtpfnohdnaocpdaaPTvalidTree
import Derived.BigRegion
import Derived.Laws.Rows
import Derived.WalkArith
namespace Go.Proofs.Ytpfnohdnaocpdaa.PT
open Go.RowKit Go.Proofs.YtpfnohdnaocpdaaW.PrintWords Go.Proofs.YtpfnohdnaocpdaaW.PrintLast Go.Proofs.YtpfnohdnaocpdaaW.PrintMore Go.Lib Go.Proofs.YtpfnohdnaocpdaaRP
set_option linter.unusedVariables false
set_option linter.unusedSimpArgs false

theorem ha_at (w : World) (o : Obj) {n : Nat} (h : n = w.heap.size) : (w.alloc o).heap[n]? = some o := by
  subst h
  show (w.heap.push o)[w.heap.size]? = _
  simp
theorem ha_old {w : World} (o : Obj) {n : Nat} {x : Obj} (h : w.heap[n]? = some x) : (w.alloc o).heap[n]? = some x := (Below.heap_alloc w o n (Array.getElem?_eq_some_iff.1 h).1).trans h
theorem keep_alloc {w : World} (o : Obj) {p : Addr} {v : Value} (h : w.cell? p = some v) : (w.alloc o).cell? p = some v := cel (below_alloc (Below.refl _ _) o) h
theorem keep_set {w : World} {p q : Addr} {u v : Value} (h : w.cell? p = some v) (hne : p.block ≠ q.block) : (w.setCell q u).cell? p = some v := (World.cell?_of_block (Below.heap_setCell w q u p.block hne)).trans h
theorem keep_drew {w : World} {p : Addr} {v : Value} (h : w.cell? p = some v) : w.drew.cell? p = some v := h
theorem hs_ne {w : World} {n : Nat} {x : Obj} {p : Addr} (u : Value) (h : w.heap[n]? = some x) (hne : n ≠ p.block) : (w.setCell p u).heap[n]? = some x := (Below.heap_setCell w p u n hne).trans h
def digT (l : List S89) : Prop := ∀ i : Int, 0 ≤ i → i < l.length → -1 ≤ (rd_T89 l i).f1 ∧ (rd_T89 l i).f1 ≤ 1
def way3 (x : S89) (d : Int) : Int := rd [x.f2.f0, x.f2.f1, x.f2.f2] (d + 1)
def standsN (l m : List S89) : Nat → Int → Int → S98 × Bool
  | 0, a, b => (⟨a, b⟩, false)
  | k + 1, a, b => if (rd_T89 l a).f0 = 2 ∨ (rd_T89 m b).f0 = 1 then (⟨a, b⟩, true) else standsN l m k (way3 (rd_T89 l a) (rd_T89 m b).f1) (rd_T89 m b).f2.f0
theorem standsN_succ (l m : List S89) (k : Nat) (a b : Int) : standsN l m (k + 1) a b = if (rd_T89 l a).f0 = 2 ∨ (rd_T89 m b).f0 = 1 then (⟨a, b⟩, true) else standsN l m k (way3 (rd_T89 l a) (rd_T89 m b).f1) (rd_T89 m b).f2.f0 := rfl
theorem way3_in {l : List S89} (hk : okT l = true) (i : Int) (h0 : 0 ≤ i) (h1 : i < l.length) (d : Int) (hd : -1 ≤ d ∧ d ≤ 1) : 0 ≤ way3 (rd_T89 l i) d ∧ way3 (rd_T89 l i) d < l.length := by
  obtain ⟨_, g0, g1, g2⟩ := okT_rd hk i h0 h1
  unfold way3
  rcases (show d = -1 ∨ d = 0 ∨ d = 1 by omega) with rfl | rfl | rfl
  · exact g0
  · exact g1
  · exact g2
def InR (l m : List S89) (a b : Int) : Prop := 0 ≤ a ∧ a < l.length ∧ 0 ≤ b ∧ b < m.length
theorem standsN_in {l m : List S89} (hk : okT l = true) (hm : okT m = true) (hd : digT m) : ∀ (k : Nat) (a b : Int), InR l m a b → InR l m (standsN l m k a b).1.f0 (standsN l m k a b).1.f1 := by
  intro k
  induction k with
  | zero => intro a b h; exact h
  | succ k ih =>
    intro a b h
    rw [standsN_succ]
    split
    · exact h
    · obtain ⟨h0, h1, h2, h3⟩ := h
      have hw := way3_in hk a h0 h1 _ (hd b h2 h3)
      obtain ⟨_, g0, _⟩ := okT_rd hm b h2 h3
      exact ih _ _ ⟨hw.1, hw.2, g0.1, g0.2⟩
def nsN (l m : List S89) : Nat := l.length * m.length + 1
theorem nsN_le {l m : List S89} (hl : l.length ≤ 60) (hm : m.length ≤ 60) : nsN l m ≤ 3601 := by
  have : l.length * m.length ≤ 60 * 60 := Nat.mul_le_mul hl hm
  unfold nsN
  omega
abbrev O89 : Obj := .cells #[.int .i8 0, .int .i8 0, .int .i16 0, .int .i16 0, .int .i16 0] 89 (0, 0)
set_option maxHeartbeats 8000000 in
set_option maxRecDepth 100000 in
theorem stands_calls (l m : List S89) (hk : okT l = true) (hkm : okT m = true) (hd : digT m) (hl : l.length ≤ 60) (hlm : m.length ≤ 60) (A0 A1 : Option Addr) (c0 c1 : Nat) (w : World)
    (hr0 : Kd.C k89 w A0 l.length l) (hc0 : l.length ≤ c0) (hr1 : Kd.C k89 w A1 m.length m) (hc1 : m.length ≤ c1) (a b : Int) (hi : InR l m a b) :
    Calls Try.prog 69 #[.agg #[.slice A0 l.length c0], .agg #[.slice A1 m.length c1], .agg #[.int .i16 a, .int .i16 b]] w fun e w' =>
      e = .returned (.tuple #[.agg #[.int .i16 (standsN l m (nsN l m) a b).1.f0, .int .i16 (standsN l m (nsN l m) a b).1.f1], .bool (standsN l m (nsN l m) a b).2]) ∧ Below w.heap.size w w' := by
  obtain ⟨r, hr⟩ : ∃ r, r = standsN l m (nsN l m) a b := ⟨_, rfl⟩
  rw [← hr]
  have HW : Aside0 (wrap64 (wrap64 ((l.length : Int) * (m.length : Int)) + 1) = (nsN l m : Int)) := ⟨by
    have h1 : (l.length : Int) * (m.length : Int) = ((l.length * m.length : Nat) : Int) := by rw [Int.natCast_mul]
    have h2 : l.length * m.length ≤ 60 * 60 := Nat.mul_le_mul hl hlm
    rw [h1]
    unfold nsN wrap64
    omega⟩
  have HN := Aside0.mk (nsN_le hl hlm)
  generalize nsN l m = N at hr HW HN
  have HR := Aside0.mk hr
  have HK := Aside0.mk hk
  have HKM := Aside0.mk hkm
  have HD := Aside0.mk hd
  have HI := Aside0.mk hi
  have HR0 := Aside0.mk hr0
  have HC0 := Aside0.mk hc0
  have HR1 := Aside0.mk hr1
  have HC1 := Aside0.mk hc1
  clear hr hk hkm hd hi hr0 hc0 hr1 hc1 hl hlm
  go_enter Try.func69, Try.ntmps69
  go_upto_region 1 with (fail)
  generalize hw1 : World.alloc (World.alloc (World.alloc (World.alloc w _) _) _) _ = w1
  have K0 : w1.heap[w.heap.size]? = some (.cells #[.slice A0 l.length c0] 34 (0, 0)) := by rw [← hw1]; exact ha_old _ (ha_old _ (ha_old _ (ha_at _ _ rfl)))
  have K1 : w1.heap[w.heap.size + 1]? = some (.cells #[.slice A1 m.length c1] 34 (0, 0)) := by rw [← hw1]; exact ha_old _ (ha_old _ (ha_at _ _ (by simp)))
  have K2 : w1.heap[w.heap.size + 1 + 1]? = some (.cells #[.int .i16 a, .int .i16 b] 101 (0, 0)) := by rw [← hw1]; exact ha_old _ (ha_at _ _ (by simp))
  have K3 : w1.heap[w.heap.size + 1 + 1 + 1]? = some (.cells #[.int .i16 0, .int .i16 0] 101 (0, 0)) := by rw [← hw1]; exact ha_at _ _ (by simp)
  have HB : Aside0 (Below w.heap.size w w1) := ⟨by rw [← hw1]; exact below_alloc (below_alloc (below_alloc (below_alloc (Below.refl _ _) _) _) _) _⟩
  clear hw1
  generalize hB : w.heap.size = B at K0 K1 K2 K3 HB ⊢
  have HBB := Aside0.mk hB
  clear hB
  have hca : w1.cell? ⟨B, 0, none⟩ = some (.slice A0 l.length c0) := (blk_cell K0 0).trans rfl
  have hcc : w1.cell? ⟨B + 1, 0, none⟩ = some (.slice A1 m.length c1) := (blk_cell K1 0).trans rfl
  go_wp2
  rw [HW.out]
  have G0 := Aside0.mk K0
  have G1 := Aside0.mk K1
  have G2 := Aside0.mk K2
  have G3 := Aside0.mk K3
  clear K0 K1 K2 K3 hca hcc
  go_loopw [18] (fun v18 wr => ∃ (j : Nat) (pa pb : Int), v18 = .int .i64 (j : Int) ∧ Aside0 (j ≤ N) ∧ Aside0 (r = standsN l m (N - j) pa pb) ∧ Aside0 (InR l m pa pb) ∧ Aside0 (wr.heap[B]? = some (.cells #[.slice A0 l.length c0] 34 (0, 0))) ∧ Aside0 (wr.heap[B + 1]? = some (.cells #[.slice A1 m.length c1] 34 (0, 0))) ∧ Aside0 (wr.heap[B + 1 + 1]? = some (.cells #[.int .i16 pa, .int .i16 pb] 101 (0, 0))) ∧ Aside0 (wr.heap[B + 1 + 1 + 1]? = some (.cells #[.int .i16 0, .int .i16 0] 101 (0, 0))) ∧ Aside0 (Below B w wr)) (fun v _ => N - (intOf v).toNat)
  case atStart => exact ⟨0, a, b, rfl, ⟨by omega⟩, HR, HI, G0, G1, G2, G3, HB⟩
  case round =>
    clear HR HI G0 G1 G2 G3 HB
    obtain ⟨j, pa, pb, rfl, HJ, HR, HI, G0, G1, G2, G3, HB⟩ := hrel
    have K2 := bc2 G2.out
    by_cases hj : j < N
    · obtain ⟨i0, i1, i2, i3⟩ := HI.out
      have d1 : decide ((j : Int) < (N : Int)) = true := decide_eq_true (by omega)
      obtain ⟨ad0, e0, x0, x1, x2, x3, x4⟩ := at_T89 HR0.out pa i0 i1
      obtain ⟨ad1, e1, y0, y1, y2, y3, y4⟩ := at_T89 HR1.out pb i2 i3
      cases e0
      cases e1
      have hko := okT_rd HK.out pa i0 i1
      have hkp := okT_rd HKM.out pb i2 i3
      have hdd := HD.out pb i2 i3
      obtain ⟨X, hX⟩ : ∃ X, X = rd_T89 l pa := ⟨_, rfl⟩
      obtain ⟨Y, hY⟩ : ∃ Y, Y = rd_T89 m pb := ⟨_, rfl⟩
      have HX := Aside0.mk hX
      have HY := Aside0.mk hY
      rw [← hX] at x0 x1 x2 x3 x4 hko
      rw [← hY] at y0 y1 y2 y3 y4 hkp hdd
      clear hX hY
      have bw : Below w.heap.size w wr := by rw [HBB.out]; exact HB.out
      replace x0 := cel bw x0; replace x1 := cel bw x1; replace x2 := cel bw x2; replace x3 := cel bw x3; replace x4 := cel bw x4
      replace y0 := cel bw y0; replace y1 := cel bw y1; replace y2 := cel bw y2; replace y3 := cel bw y3; replace y4 := cel bw y4
      have c0_ : wr.cell? ⟨B, 0, none⟩ = some (.slice (some ad0) l.length c0) := (blk_cell G0.out 0).trans rfl
      have c1_ : wr.cell? ⟨B + 1, 0, none⟩ = some (.slice (some ad1) m.length c1) := (blk_cell G1.out 0).trans rfl
      have p0 : wr.cell? ⟨B + 1 + 1, 0, none⟩ = some (.int .i16 pa) := K2.1
      have p1 : wr.cell? ⟨B + 1 + 1, 1, none⟩ = some (.int .i16 pb) := K2.2
      obtain ⟨ko, kw0, kw1, kw2⟩ := hko
      obtain ⟨kp, kv0, kv1, kv2⟩ := hkp
      have l0 : (Addr.add ad0 (pa.toNat * 5)).block < wr.heap.size := World.block_lt_of_cell? wr _ x0
      have l1 : (Addr.add ad1 (pb.toNat * 5)).block < wr.heap.size := World.block_lt_of_cell? wr _ y0
      have l2 : B + 1 + 1 < wr.heap.size := blk_lt G2.out
      have D1 := decide_eq_true i0
      have D2 := decide_eq_true i1
      have D3 := decide_eq_true i2
      have D4 := decide_eq_true i3
      go_wp2
      go_region_held3 (fun w' => w'.cell? (Addr.add ad0 (pa.toNat * 5)) = some (.int .i8 X.f0) ∧ w'.cell? ⟨(Addr.add ad0 (pa.toNat * 5)).block, (Addr.add ad0 (pa.toNat * 5)).off + 1, none⟩ = some (.int .i8 X.f1) ∧ w'.cell? ⟨(Addr.add ad0 (pa.toNat * 5)).block, (Addr.add ad0 (pa.toNat * 5)).off + 2, none⟩ = some (.int .i16 X.f2.f0) ∧ w'.cell? ⟨(Addr.add ad0 (pa.toNat * 5)).block, (Addr.add ad0 (pa.toNat * 5)).off + 3, none⟩ = some (.int .i16 X.f2.f1) ∧ w'.cell? ⟨(Addr.add ad0 (pa.toNat * 5)).block, (Addr.add ad0 (pa.toNat * 5)).off + 4, none⟩ = some (.int .i16 X.f2.f2) ∧ w'.cell? (Addr.add ad1 (pb.toNat * 5)) = some (.int .i8 Y.f0) ∧ w'.cell? ⟨(Addr.add ad1 (pb.toNat * 5)).block, (Addr.add ad1 (pb.toNat * 5)).off + 1, none⟩ = some (.int .i8 Y.f1) ∧ w'.cell? ⟨(Addr.add ad1 (pb.toNat * 5)).block, (Addr.add ad1 (pb.toNat * 5)).off + 2, none⟩ = some (.int .i16 Y.f2.f0) ∧ w'.cell? ⟨(Addr.add ad1 (pb.toNat * 5)).block, (Addr.add ad1 (pb.toNat * 5)).off + 3, none⟩ = some (.int .i16 Y.f2.f1) ∧ w'.cell? ⟨(Addr.add ad1 (pb.toNat * 5)).block, (Addr.add ad1 (pb.toNat * 5)).off + 4, none⟩ = some (.int .i16 Y.f2.f2) ∧ w'.cell? ⟨B, 0, none⟩ = some (.slice (some ad0) l.length c0) ∧ w'.cell? ⟨B + 1, 0, none⟩ = some (.slice (some ad1) m.length c1) ∧ w'.cell? ⟨B + 1 + 1, 0, none⟩ = some (.int .i16 pa) ∧ w'.cell? ⟨B + 1 + 1, 1, none⟩ = some (.int .i16 pb)) (go_keep) (fail)
      all_goals (rename_i hS; clear hS)
      generalize hgW : World.drew (World.alloc (World.alloc wr (.cells #[.int .i8 X.f0, .int .i8 X.f1, .int .i16 X.f2.f0, .int .i16 X.f2.f1, .int .i16 X.f2.f2] 89 (0, 0))) (.cells #[.int .i8 Y.f0, .int .i8 Y.f1, .int .i16 Y.f2.f0, .int .i16 Y.f2.f1, .int .i16 Y.f2.f2] 89 (0, 0))) = W8
      have hW : W8.heap = (World.alloc (World.alloc wr (.cells #[.int .i8 X.f0, .int .i8 X.f1, .int .i16 X.f2.f0, .int .i16 X.f2.f1, .int .i16 X.f2.f2] 89 (0, 0))) (.cells #[.int .i8 Y.f0, .int .i8 Y.f1, .int .i16 Y.f2.f0, .int .i16 Y.f2.f1, .int .i16 Y.f2.f2] 89 (0, 0))).heap := by rw [← hgW]; rfl
      have bW : Below wr.heap.size wr W8 := by rw [← hgW]; exact below_drew1 (below_alloc (below_alloc (Below.refl _ _) _) _)
      have BW : Below B w W8 := HB.out.trans (bW.mono (by have h1 := HB.out.size; have h2 := HBB.out; omega))
      have M9 : W8.heap[wr.heap.size + 1]? = some (.cells #[.int .i8 Y.f0, .int .i8 Y.f1, .int .i16 Y.f2.f0, .int .i16 Y.f2.f1, .int .i16 Y.f2.f2] 89 (0, 0)) := by rw [hW]; exact ha_at (World.alloc wr _) _ (by simp)
      have M8 : W8.heap[wr.heap.size]? = some (.cells #[.int .i8 X.f0, .int .i8 X.f1, .int .i16 X.f2.f0, .int .i16 X.f2.f1, .int .i16 X.f2.f2] 89 (0, 0)) := by rw [hW]; exact ha_old _ (ha_at wr _ rfl)
      have Q0 := (bW.block _ (blk_lt G0.out)).trans G0.out
      have Q1 := (bW.block _ (blk_lt G1.out)).trans G1.out
      have Q2 := (bW.block _ (blk_lt G2.out)).trans G2.out
      have Q3 := (bW.block _ (blk_lt G3.out)).trans G3.out
      clear hgW bW hW
      generalize wr.heap.size + 1 = g9 at M9 ⊢
      generalize wr.heap.size = g8 at M8 ⊢
      rotate_left
      generalize hgW : World.drew (World.alloc (World.alloc wr (.cells #[.int .i8 Y.f0, .int .i8 Y.f1, .int .i16 Y.f2.f0, .int .i16 Y.f2.f1, .int .i16 Y.f2.f2] 89 (0, 0))) (.cells #[.int .i8 X.f0, .int .i8 X.f1, .int .i16 X.f2.f0, .int .i16 X.f2.f1, .int .i16 X.f2.f2] 89 (0, 0))) = W8
      have hW : W8.heap = (World.alloc (World.alloc wr (.cells #[.int .i8 Y.f0, .int .i8 Y.f1, .int .i16 Y.f2.f0, .int .i16 Y.f2.f1, .int .i16 Y.f2.f2] 89 (0, 0))) (.cells #[.int .i8 X.f0, .int .i8 X.f1, .int .i16 X.f2.f0, .int .i16 X.f2.f1, .int .i16 X.f2.f2] 89 (0, 0))).heap := by rw [← hgW]; rfl
      have bW : Below wr.heap.size wr W8 := by rw [← hgW]; exact below_drew1 (below_alloc (below_alloc (Below.refl _ _) _) _)
      have BW : Below B w W8 := HB.out.trans (bW.mono (by have h1 := HB.out.size; have h2 := HBB.out; omega))
      have M8 : W8.heap[wr.heap.size + 1]? = some (.cells #[.int .i8 X.f0, .int .i8 X.f1, .int .i16 X.f2.f0, .int .i16 X.f2.f1, .int .i16 X.f2.f2] 89 (0, 0)) := by rw [hW]; exact ha_at (World.alloc wr _) _ (by simp)
      have M9 : W8.heap[wr.heap.size]? = some (.cells #[.int .i8 Y.f0, .int .i8 Y.f1, .int .i16 Y.f2.f0, .int .i16 Y.f2.f1, .int .i16 Y.f2.f2] 89 (0, 0)) := by rw [hW]; exact ha_old _ (ha_at wr _ rfl)
      have Q0 := (bW.block _ (blk_lt G0.out)).trans G0.out
      have Q1 := (bW.block _ (blk_lt G1.out)).trans G1.out
      have Q2 := (bW.block _ (blk_lt G2.out)).trans G2.out
      have Q3 := (bW.block _ (blk_lt G3.out)).trans G3.out
      clear hgW bW hW
      generalize wr.heap.size + 1 = g8 at M8 ⊢
      generalize wr.heap.size = g9 at M9 ⊢
      all_goals
        clear x0 x1 x2 x3 x4 y0 y1 y2 y3 y4 l0 l1 l2 c0_ c1_ p0 p1 K2 bw HB G0 G1 G2 G3
        have HRn := HR.out
        rw [show N - j = (N - (j + 1)) + 1 by omega, standsN_succ, ← HX.out, ← HY.out] at HRn
        have hw3 := way3_in HK.out pa i0 i1 Y.f1 hdd
        rw [← HX.out] at hw3
        have HWX := Aside0.mk hw3
        have HV0 := Aside0.mk kv0
        clear HR HX HY hw3 kv0 kw0 kw1 kw2 kv1 kv2 HI
        obtain ⟨X0, X1, X2, X3, X4⟩ := X
        obtain ⟨Y0, Y1, Y2, Y3, Y4⟩ := Y
        simp only at HRn HWX HV0 ko kp hdd M8 M9 ⊢
        have HB := Aside0.mk BW
        have G0 := Aside0.mk Q0
        have G1 := Aside0.mk Q1
        have G2 := Aside0.mk Q2
        have G3 := Aside0.mk Q3
        have m8 := bc5 M8
        have m9 := bc5 M9
        have q2 := bc2 Q2
        have q3 := bc2 Q3
        have z2 := bf2 Q2
        have z3 := bf2 Q3
        have h8 : Aside0 (g8 ≠ B + 1 + 1) := ⟨fun e => by rw [e, G2.out] at M8; injection M8 with M8; injection M8 with _ M8; exact absurd M8 (by decide)⟩
        have h9 : Aside0 (g9 ≠ B + 1 + 1) := ⟨fun e => by rw [e, G2.out] at M9; injection M9 with M9; injection M9 with _ M9; exact absurd M9 (by decide)⟩
        clear BW Q0 Q1 Q2 Q3 M8 M9
        by_cases cx : X0 = 2
        · subst cx
          rw [if_pos (Or.inl rfl)] at HRn
          have HR := Aside0.mk HRn
          clear HRn
          go_wp2
          rw [HR.out]
          exact bodyPost_ret (results_ct rfl _ _ (B + 1 + 1 + 1) 101 #[.int .i16 pa, .int .i16 pb] (0, 0) _ rfl (blk_put (blk_put G3.out 0 _ rfl) 1 _ rfl) Try.underlying101 rfl (by kernel_rfl)) rfl ⟨rfl, by rw [HBB.out]; exact (HB.out.setCell (p := ⟨B + 1 + 1 + 1, 0, none⟩) (by show B ≤ B + 1 + 1 + 1; omega) _).setCell (p := ⟨B + 1 + 1 + 1, 1, none⟩) (by show B ≤ B + 1 + 1 + 1; omega) _⟩
        · have ex : (X0 == 2) = false := beq_eq_false_iff_ne.mpr cx
          by_cases cy : Y0 = 1
          · subst cy
            rw [if_pos (Or.inr rfl)] at HRn
            have HR := Aside0.mk HRn
            clear HRn
            go_wp2
            rw [HR.out]
            exact bodyPost_ret (results_ct rfl _ _ (B + 1 + 1 + 1) 101 #[.int .i16 pa, .int .i16 pb] (0, 0) _ rfl (blk_put (blk_put G3.out 0 _ rfl) 1 _ rfl) Try.underlying101 rfl (by kernel_rfl)) rfl ⟨rfl, by rw [HBB.out]; exact (HB.out.setCell (p := ⟨B + 1 + 1 + 1, 0, none⟩) (by show B ≤ B + 1 + 1 + 1; omega) _).setCell (p := ⟨B + 1 + 1 + 1, 1, none⟩) (by show B ≤ B + 1 + 1 + 1; omega) _⟩
          · have ey : (Y0 == 1) = false := beq_eq_false_iff_ne.mpr cy
            rw [if_neg (by simp [cx, cy])] at HRn
            have HR := Aside0.mk HRn
            have HC := Aside0.mk (And.intro cx cy)
            clear HRn ko cx cy
            have hwj : wrap64 ((j : Int) + 1) = ((j + 1 : Nat) : Int) := by have := HN.out; unfold wrap64; omega
            rcases (show Y1 = -1 ∨ Y1 = 0 ∨ Y1 = 1 by omega) with rfl | rfl | rfl
            all_goals clear hdd
            · have e : way3 ⟨X0, X1, ⟨X2, X3, X4⟩⟩ (-1) = X2 := rfl
              rw [e] at HR HWX
              go_wp2
              go_region_held (fun w' => w'.cell? ⟨g9, 1, none⟩ = some (.int .i8 (-1)) ∧ w'.cell? ⟨g9, 2, none⟩ = some (.int .i16 Y2) ∧ w'.cell? ⟨g8, 2, none⟩ = some (.int .i16 X2)) (first | (go_keep; done) | exact ⟨keep_drew (keep_set (keep_set m9.2.1 h9.out) h9.out), keep_drew (keep_set (keep_set m9.2.2.1 h9.out) h9.out), keep_drew (keep_set (keep_set m8.2.2.1 h8.out) h8.out)⟩) (fail)
              rename_i hS
              clear hS
              go_wp2
              go_round
              case rel => exact ⟨j + 1, X2, Y2, by first | (with_reducible rfl) | (rw [hwj]; done) | go_num, ⟨by omega⟩, HR, ⟨⟨HWX.out.1, HWX.out.2, HV0.out.1, HV0.out.2⟩⟩, ⟨hs_ne _ (hs_ne _ G0.out (by show B ≠ B + 1 + 1; omega)) (by show B ≠ B + 1 + 1; omega)⟩, ⟨hs_ne _ (hs_ne _ G1.out (by show B + 1 ≠ B + 1 + 1; omega)) (by show B + 1 ≠ B + 1 + 1; omega)⟩, ⟨blk_put (blk_put G2.out 0 _ rfl) 1 _ rfl⟩, ⟨hs_ne _ (hs_ne _ G3.out (by show B + 1 + 1 + 1 ≠ B + 1 + 1; omega)) (by show B + 1 + 1 + 1 ≠ B + 1 + 1; omega)⟩, ⟨Below.drew ((HB.out.setCell (p := ⟨B + 1 + 1, 0, none⟩) (by show B ≤ B + 1 + 1; omega) _).setCell (p := ⟨B + 1 + 1, 1, none⟩) (by show B ≤ B + 1 + 1; omega) _)⟩⟩
              case measure => (rw [hwj]; exact (show N - (j + 1) < N - j by omega))
            · have e : way3 ⟨X0, X1, ⟨X2, X3, X4⟩⟩ 0 = X3 := rfl
              rw [e] at HR HWX
              go_wp2
              go_region_held (fun w' => w'.cell? ⟨g9, 1, none⟩ = some (.int .i8 0) ∧ w'.cell? ⟨g9, 2, none⟩ = some (.int .i16 Y2) ∧ w'.cell? ⟨g8, 3, none⟩ = some (.int .i16 X3)) (first | (go_keep; done) | exact ⟨keep_drew (keep_set (keep_set m9.2.1 h9.out) h9.out), keep_drew (keep_set (keep_set m9.2.2.1 h9.out) h9.out), keep_drew (keep_set (keep_set m8.2.2.2.1 h8.out) h8.out)⟩) (fail)
              rename_i hS
              clear hS
              go_wp2
              go_round
              case rel => exact ⟨j + 1, X3, Y2, by first | (with_reducible rfl) | (rw [hwj]; done) | go_num, ⟨by omega⟩, HR, ⟨⟨HWX.out.1, HWX.out.2, HV0.out.1, HV0.out.2⟩⟩, ⟨hs_ne _ (hs_ne _ G0.out (by show B ≠ B + 1 + 1; omega)) (by show B ≠ B + 1 + 1; omega)⟩, ⟨hs_ne _ (hs_ne _ G1.out (by show B + 1 ≠ B + 1 + 1; omega)) (by show B + 1 ≠ B + 1 + 1; omega)⟩, ⟨blk_put (blk_put G2.out 0 _ rfl) 1 _ rfl⟩, ⟨hs_ne _ (hs_ne _ G3.out (by show B + 1 + 1 + 1 ≠ B + 1 + 1; omega)) (by show B + 1 + 1 + 1 ≠ B + 1 + 1; omega)⟩, ⟨Below.drew ((HB.out.setCell (p := ⟨B + 1 + 1, 0, none⟩) (by show B ≤ B + 1 + 1; omega) _).setCell (p := ⟨B + 1 + 1, 1, none⟩) (by show B ≤ B + 1 + 1; omega) _)⟩⟩
              case measure => (rw [hwj]; exact (show N - (j + 1) < N - j by omega))
            · have e : way3 ⟨X0, X1, ⟨X2, X3, X4⟩⟩ 1 = X4 := rfl
              rw [e] at HR HWX
              go_wp2
              go_region_held (fun w' => w'.cell? ⟨g9, 1, none⟩ = some (.int .i8 1) ∧ w'.cell? ⟨g9, 2, none⟩ = some (.int .i16 Y2) ∧ w'.cell? ⟨g8, 4, none⟩ = some (.int .i16 X4)) (first | (go_keep; done) | exact ⟨keep_drew (keep_set (keep_set m9.2.1 h9.out) h9.out), keep_drew (keep_set (keep_set m9.2.2.1 h9.out) h9.out), keep_drew (keep_set (keep_set m8.2.2.2.2 h8.out) h8.out)⟩) (fail)
              rename_i hS
              clear hS
              go_wp2
              go_round
              case rel => exact ⟨j + 1, X4, Y2, by first | (with_reducible rfl) | (rw [hwj]; done) | go_num, ⟨by omega⟩, HR, ⟨⟨HWX.out.1, HWX.out.2, HV0.out.1, HV0.out.2⟩⟩, ⟨hs_ne _ (hs_ne _ G0.out (by show B ≠ B + 1 + 1; omega)) (by show B ≠ B + 1 + 1; omega)⟩, ⟨hs_ne _ (hs_ne _ G1.out (by show B + 1 ≠ B + 1 + 1; omega)) (by show B + 1 ≠ B + 1 + 1; omega)⟩, ⟨blk_put (blk_put G2.out 0 _ rfl) 1 _ rfl⟩, ⟨hs_ne _ (hs_ne _ G3.out (by show B + 1 + 1 + 1 ≠ B + 1 + 1; omega)) (by show B + 1 + 1 + 1 ≠ B + 1 + 1; omega)⟩, ⟨Below.drew ((HB.out.setCell (p := ⟨B + 1 + 1, 0, none⟩) (by show B ≤ B + 1 + 1; omega) _).setCell (p := ⟨B + 1 + 1, 1, none⟩) (by show B ≤ B + 1 + 1; omega) _)⟩⟩
              case measure => (rw [hwj]; exact (show N - (j + 1) < N - j by omega))
    · have K3 := bc2 G3.out
      have Z3 := bf2 G3.out
      have hjN : j = N := by have := HJ.out; omega
      subst hjN
      have hr := HR.out
      rw [Nat.sub_self] at hr
      have d1 : decide ((j : Int) < (j : Int)) = false := decide_eq_false (by omega)
      go_wp2
      rw [hr]
      exact bodyPost_ret (results_ct rfl _ _ (B + 1 + 1 + 1) 101 #[.int .i16 pa, .int .i16 pb] (0, 0) _ rfl (blk_put (blk_put G3.out 0 _ rfl) 1 _ rfl) Try.underlying101 rfl (by kernel_rfl)) rfl ⟨rfl, by rw [HBB.out]; exact (HB.out.setCell (p := ⟨B + 1 + 1 + 1, 0, none⟩) (by show B ≤ B + 1 + 1 + 1; omega) _).setCell (p := ⟨B + 1 + 1 + 1, 1, none⟩) (by show B ≤ B + 1 + 1 + 1; omega) _⟩
end Go.Proofs.Ytpfnohdnaocpdaa.PT

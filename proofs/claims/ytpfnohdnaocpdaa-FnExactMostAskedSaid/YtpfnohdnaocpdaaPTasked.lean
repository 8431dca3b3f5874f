/- Tree.asked by hand: it makes the memo and counts. -/
import Derived.Test.YtpfnohdnaocpdaaPTx8
import Derived.Test.YtpfnohdnaocpdaaPTprod
import Derived.Test.YtpfnohdnaocpdaaPTcount
import Derived.Test.YtpfnohdnaocpdaaPTvalidTree
namespace Go.Proofs.Ytpfnohdnaocpdaa.PT
open Go.RowKit Go.Proofs.YtpfnohdnaocpdaaW.PrintWords Go.Proofs.YtpfnohdnaocpdaaW.PrintLast Go.Proofs.YtpfnohdnaocpdaaW.PrintMore Go.Lib Go.Proofs.YtpfnohdnaocpdaaRP
set_option linter.unusedVariables false
set_option linter.unusedSimpArgs false

def impl_asked.f (k : Nat) (l : List S89) (n : Int) (most : Bool) : Option (Int × Int) := (impl_ValidTree.f l).bind fun t => if t = true then ((impl_within.f n 0 60).bind fun u => if u = true then (if okT l = true ∧ l.length ≤ 60 ∧ 0 < l.length ∧ 0 ≤ n ∧ n ≤ 60 then ((impl_productive.f k l).bind fun p => if p = true then ((cnt l most k 0 n).bind fun v => some (v, 0)) else some (0, 4)) else none) else some (0, 2)) else some (0, 1)
theorem impl_asked.mono : ∀ a0 a1 a2 k, LeO (impl_asked.f k a0 a1 a2) (impl_asked.f (k + 1) a0 a1 a2) := by
  intro a0 a1 a2 k
  unfold impl_asked.f
  refine LeO.bind (LeO.refl _) fun _ => LeO.ite (LeO.bind (LeO.refl _) fun _ => LeO.ite (LeO.ite (LeO.bind (impl_productive.mono _ _) fun _ => LeO.ite (LeO.bind (cnt_mono _ _ _ _ _) fun _ => LeO.refl _) (LeO.refl _)) (LeO.refl _)) (LeO.refl _)) (LeO.refl _)
set_option maxHeartbeats 8000000 in
set_option maxRecDepth 100000 in
theorem impl_asked.calls (k : Nat) (A0 : Option Addr) (c0 : Nat) (l : List S89) (n : Int) (most : Bool) (r1 r2 : Int) (w : World) (hr0 : Kd.C k89 w A0 l.length l) (hc0 : l.length ≤ c0) (h : impl_asked.f k l n most = some (r1, r2)) :
    Calls Try.prog 76 #[.agg #[.slice A0 l.length c0], .int .i64 n, .bool most] w fun e w' => e = .returned (.tuple #[.int .i64 r1, .int .i64 r2]) ∧ Below w.heap.size w w' := by
  have HR0 := Aside0.mk hr0
  have HC0 := Aside0.mk hc0
  clear hr0 hc0
  unfold impl_asked.f at h
  obtain ⟨t, ht, h⟩ := Option.bind_eq_some_iff.mp h
  have A60 := Aside0.mk ht
  clear ht
  by_cases c1 : t = true
  case neg =>
    have c1 : t = false := by simpa using c1
    subst c1
    rw [if_neg (by simp)] at h
    simp only [Option.some.injEq, Prod.mk.injEq] at h
    obtain ⟨rfl, rfl⟩ := h
    go_enter Try.func76, Try.ntmps76
    go_upto_region 1 with (fail)
    generalize hw1 : World.alloc w _ = w1
    have hbx1 : w1.cell? ⟨w.heap.size, 0, none⟩ = some (.slice A0 l.length c0) := by rw [← hw1]; simp
    have hgx : w.heap.size < w1.heap.size := by rw [← hw1]; simp
    have hbw : Below w.heap.size w w1 := by rw [← hw1]; exact below_alloc (Below.refl _ _) _
    have n0_ := Aside0.mk (show Kd.C k89 w1 A0 l.length l from by rw [← hw1]; exact Kd.C_alloc HR0.out _)
    clear HR0 hw1
    have HR0 := n0_
    clear n0_
    have HBX := Aside0.mk hbx1
    have HGX := Aside0.mk hgx
    have HBW := Aside0.mk hbw
    clear hbx1 hgx hbw
    have HB := Aside0.mk (Below.refl w1.heap.size w1)
    have hbx := HBX.out

    go_wp2_with (first | (go_at_call 60; (with_reducible refine (impl_ValidTree.calls A0 c0 l false _ ?s1 ?s2 A60.out).mono ?_); (case s1 => repeat (first | exact (Kd.C_below HR0.out HB.out) | (with_reducible refine Kd.C_alloc ?_ _) | (with_reducible refine Kd.C_drewN ?_ _) | (with_reducible refine Kd.C_drew ?_))); (case s2 => exact HC0.out); rintro e w7 ⟨rfl, hb⟩; have n1_ := Aside0.mk (below_step (by repeat (first | exact HB.out | apply below_alloc | apply pw_below_drewN | apply below_drew1)) hb); clear HB; have HB := n1_; clear n1_ hb; have hbx := (HB.out.cell (p := ⟨w.heap.size, 0, none⟩) HGX.out).trans HBX.out))
    go_ret2
    exact ⟨rfl, below_step HBW.out HB.out⟩
  rw [if_pos c1] at h
  subst c1
  obtain ⟨u, hu, h⟩ := Option.bind_eq_some_iff.mp h
  have A62 := Aside0.mk hu
  clear hu
  by_cases c2 : u = true
  case neg =>
    have c2 : u = false := by simpa using c2
    subst c2
    rw [if_neg (by simp)] at h
    simp only [Option.some.injEq, Prod.mk.injEq] at h
    obtain ⟨rfl, rfl⟩ := h
    go_enter Try.func76, Try.ntmps76
    go_upto_region 1 with (fail)
    generalize hw1 : World.alloc w _ = w1
    have hbx1 : w1.cell? ⟨w.heap.size, 0, none⟩ = some (.slice A0 l.length c0) := by rw [← hw1]; simp
    have hgx : w.heap.size < w1.heap.size := by rw [← hw1]; simp
    have hbw : Below w.heap.size w w1 := by rw [← hw1]; exact below_alloc (Below.refl _ _) _
    have n0_ := Aside0.mk (show Kd.C k89 w1 A0 l.length l from by rw [← hw1]; exact Kd.C_alloc HR0.out _)
    clear HR0 hw1
    have HR0 := n0_
    clear n0_
    have HBX := Aside0.mk hbx1
    have HGX := Aside0.mk hgx
    have HBW := Aside0.mk hbw
    clear hbx1 hgx hbw
    have HB := Aside0.mk (Below.refl w1.heap.size w1)
    have hbx := HBX.out

    go_wp2_with (first | (go_at_call 60; (with_reducible refine (impl_ValidTree.calls A0 c0 l true _ ?s1 ?s2 A60.out).mono ?_); (case s1 => repeat (first | exact (Kd.C_below HR0.out HB.out) | (with_reducible refine Kd.C_alloc ?_ _) | (with_reducible refine Kd.C_drewN ?_ _) | (with_reducible refine Kd.C_drew ?_))); (case s2 => exact HC0.out); rintro e w7 ⟨rfl, hb⟩; have n1_ := Aside0.mk (below_step (by repeat (first | exact HB.out | apply below_alloc | apply pw_below_drewN | apply below_drew1)) hb); clear HB; have HB := n1_; clear n1_ hb; have hbx := (HB.out.cell (p := ⟨w.heap.size, 0, none⟩) HGX.out).trans HBX.out) | (go_at_call 62; (with_reducible refine (impl_within.calls n 0 60 false _ A62.out).mono ?_); rintro e w' ⟨rfl, ⟨nd, rfl⟩⟩; have n1_ := Aside0.mk (pw_below_drewN HB.out nd); clear HB; have HB := n1_; clear n1_; have hbx := (HB.out.cell (p := ⟨w.heap.size, 0, none⟩) HGX.out).trans HBX.out))
    go_ret2
    exact ⟨rfl, below_step HBW.out HB.out⟩
  rw [if_pos c2] at h
  subst c2
  by_cases c3 : okT l = true ∧ l.length ≤ 60 ∧ 0 < l.length ∧ 0 ≤ n ∧ n ≤ 60
  case neg => rw [if_neg c3] at h; exact absurd h (by simp)
  rw [if_pos c3] at h
  obtain ⟨p, hp, h⟩ := Option.bind_eq_some_iff.mp h
  have A102 := Aside0.mk hp
  clear hp
  by_cases c4 : p = true
  case neg =>
    have c4 : p = false := by simpa using c4
    subst c4
    rw [if_neg (by simp)] at h
    simp only [Option.some.injEq, Prod.mk.injEq] at h
    obtain ⟨rfl, rfl⟩ := h
    clear c3
    go_enter Try.func76, Try.ntmps76
    go_upto_region 1 with (fail)
    generalize hw1 : World.alloc w _ = w1
    have hbx1 : w1.cell? ⟨w.heap.size, 0, none⟩ = some (.slice A0 l.length c0) := by rw [← hw1]; simp
    have hgx : w.heap.size < w1.heap.size := by rw [← hw1]; simp
    have hbw : Below w.heap.size w w1 := by rw [← hw1]; exact below_alloc (Below.refl _ _) _
    have n0_ := Aside0.mk (show Kd.C k89 w1 A0 l.length l from by rw [← hw1]; exact Kd.C_alloc HR0.out _)
    clear HR0 hw1
    have HR0 := n0_
    clear n0_
    have HBX := Aside0.mk hbx1
    have HGX := Aside0.mk hgx
    have HBW := Aside0.mk hbw
    clear hbx1 hgx hbw
    have HB := Aside0.mk (Below.refl w1.heap.size w1)
    have hbx := HBX.out

    go_wp2_with (first | (go_at_call 60; (with_reducible refine (impl_ValidTree.calls A0 c0 l true _ ?s1 ?s2 A60.out).mono ?_); (case s1 => repeat (first | exact (Kd.C_below HR0.out HB.out) | (with_reducible refine Kd.C_alloc ?_ _) | (with_reducible refine Kd.C_drewN ?_ _) | (with_reducible refine Kd.C_drew ?_))); (case s2 => exact HC0.out); rintro e w7 ⟨rfl, hb⟩; have n1_ := Aside0.mk (below_step (by repeat (first | exact HB.out | apply below_alloc | apply pw_below_drewN | apply below_drew1)) hb); clear HB; have HB := n1_; clear n1_ hb; have hbx := (HB.out.cell (p := ⟨w.heap.size, 0, none⟩) HGX.out).trans HBX.out) | (go_at_call 62; (with_reducible refine (impl_within.calls n 0 60 true _ A62.out).mono ?_); rintro e w' ⟨rfl, ⟨nd, rfl⟩⟩; have n1_ := Aside0.mk (pw_below_drewN HB.out nd); clear HB; have HB := n1_; clear n1_; have hbx := (HB.out.cell (p := ⟨w.heap.size, 0, none⟩) HGX.out).trans HBX.out) | (go_at_call 102; (with_reducible refine (impl_productive.calls k A0 c0 l false _ ?s1 ?s2 A102.out).mono ?_); (case s1 => repeat (first | exact (Kd.C_below HR0.out HB.out) | (with_reducible refine Kd.C_alloc ?_ _) | (with_reducible refine Kd.C_drewN ?_ _) | (with_reducible refine Kd.C_drew ?_))); (case s2 => exact HC0.out); rintro e w8 ⟨rfl, hb⟩; have n1_ := Aside0.mk (below_step (by repeat (first | exact HB.out | apply below_alloc | apply pw_below_drewN | apply below_drew1)) hb); clear HB; have HB := n1_; clear n1_ hb; have hbx := (HB.out.cell (p := ⟨w.heap.size, 0, none⟩) HGX.out).trans HBX.out))
    go_ret2
    exact ⟨rfl, below_step HBW.out HB.out⟩
  rw [if_pos c4] at h
  subst c4
  obtain ⟨v, hv, h⟩ := Option.bind_eq_some_iff.mp h
  simp only [Option.some.injEq, Prod.mk.injEq] at h
  obtain ⟨rfl, rfl⟩ := h
  have HV := Aside0.mk hv
  have HG := Aside0.mk c3
  clear hv c3
  go_enter Try.func76, Try.ntmps76
  go_upto_region 1 with (fail)
  generalize hw1 : World.alloc w _ = w1
  have hbx1 : w1.cell? ⟨w.heap.size, 0, none⟩ = some (.slice A0 l.length c0) := by rw [← hw1]; simp
  have hgx : w.heap.size < w1.heap.size := by rw [← hw1]; simp
  have hbw : Below w.heap.size w w1 := by rw [← hw1]; exact below_alloc (Below.refl _ _) _
  have n0_ := Aside0.mk (show Kd.C k89 w1 A0 l.length l from by rw [← hw1]; exact Kd.C_alloc HR0.out _)
  clear HR0 hw1
  have HR0 := n0_
  clear n0_
  have HBX := Aside0.mk hbx1
  have HGX := Aside0.mk hgx
  have HBW := Aside0.mk hbw
  clear hbx1 hgx hbw
  have HB := Aside0.mk (Below.refl w1.heap.size w1)
  have hbx := HBX.out

  have hmm := @run_makeMap Try.prog
  go_upto_region 8 with (first | (go_at_call 60; (with_reducible refine (impl_ValidTree.calls A0 c0 l true _ ?s1 ?s2 A60.out).mono ?_); (case s1 => repeat (first | exact (Kd.C_below HR0.out HB.out) | (with_reducible refine Kd.C_alloc ?_ _) | (with_reducible refine Kd.C_drewN ?_ _) | (with_reducible refine Kd.C_drew ?_))); (case s2 => exact HC0.out); rintro e w7 ⟨rfl, hb⟩; have n1_ := Aside0.mk (below_step (by repeat (first | exact HB.out | apply below_alloc | apply pw_below_drewN | apply below_drew1)) hb); clear HB; have HB := n1_; clear n1_ hb; have hbx := (HB.out.cell (p := ⟨w.heap.size, 0, none⟩) HGX.out).trans HBX.out) | (go_at_call 62; (with_reducible refine (impl_within.calls n 0 60 true _ A62.out).mono ?_); rintro e w' ⟨rfl, ⟨nd, rfl⟩⟩; have n1_ := Aside0.mk (pw_below_drewN HB.out nd); clear HB; have HB := n1_; clear n1_; have hbx := (HB.out.cell (p := ⟨w.heap.size, 0, none⟩) HGX.out).trans HBX.out) | (go_at_call 102; (with_reducible refine (impl_productive.calls k A0 c0 l true _ ?s1 ?s2 A102.out).mono ?_); (case s1 => repeat (first | exact (Kd.C_below HR0.out HB.out) | (with_reducible refine Kd.C_alloc ?_ _) | (with_reducible refine Kd.C_drewN ?_ _) | (with_reducible refine Kd.C_drew ?_))); (case s2 => exact HC0.out); rintro e w8 ⟨rfl, hb⟩; have n1_ := Aside0.mk (below_step (by repeat (first | exact HB.out | apply below_alloc | apply pw_below_drewN | apply below_drew1)) hb); clear HB; have HB := n1_; clear n1_ hb; have hbx := (HB.out.cell (p := ⟨w.heap.size, 0, none⟩) HGX.out).trans HBX.out))
  obtain ⟨g1, g2, g3, g4, g5⟩ := HG.out
  have HR8 := Kd.C_below HR0.out HB.out
  have hown0 := World.ownsMap_made w8 Try.prog 205 (plainElem (H := Nat) Try.prog 2)
  have hgrow1 : w8.grownBy (World.alloc w8 (.map #[] 0)) none := World.grownBy_alloc _ _ _
  generalize hwM : World.alloc w8 (.map #[] 0) = wM at hown0 hgrow1 ⊢
  have hsz : wM.heap.size = w8.heap.size + 1 := by rw [← hwM]; simp
  generalize hwC : World.alloc wM _ = wC
  have m1 : wC.cell? ⟨wM.heap.size, 0, none⟩ = some (.slice A0 l.length c0) := by rw [← hwC]; simp
  have m2 : wC.cell? ⟨wM.heap.size, 1, none⟩ = some (.bool most) := by rw [← hwC]; simp
  have m3 : wC.cell? ⟨wM.heap.size, 2, none⟩ = some (.map (some w8.heap.size)) := by rw [← hwC]; simp
  have hO : wC.ownsMap Try.prog 205 (plainElem (H := Nat) Try.prog 2) w8.heap.size (Go.Maps.size (.map [] : DataW Nat)) (.map []) := by
    rw [← hwC, Go.Maps.size_eq]
    exact hown0.alloc _
  have B8 : Below w8.heap.size w8 wC := by
    rw [← hwC, ← hwM]
    exact below_alloc (below_alloc (Below.refl _ _) _) _
  have hne : wM.heap.size ≠ w8.heap.size := by omega
  rw [hsz] at m1 m2 m3 hne
  generalize w8.heap.size + 1 = gc at m1 m2 m3 hne ⊢
  clear hwM hwC hown0 hgrow1 hmm
  have HRx := Aside0.mk HR8
  have HOx := Aside0.mk hO
  have HBx := Aside0.mk B8
  clear HR8 hO B8
  go_wp2_with (first | (go_at_call 120; (with_reducible refine (count_calls l g1 g2 most w8 A0 c0 HRx.out HC0.out gc w8.heap.size (Nat.le_refl _) hne k 0 n v wC (.map []) (Int.le_refl 0) ?i1 g4 g5 HV.out HBx.out m1 m2 m3 (Memo.start l most) HOx.out).mono ?_); (case i1 => omega); rintro e w2 ⟨rfl, D2, hM2, hO2, hg2⟩; have HB2 := Aside0.mk (below_grown HBx.out hg2 (Nat.le_refl _)); clear hO2 hM2 hg2))
  go_ret2
  exact ⟨rfl, below_step HBW.out (below_step HB.out HB2.out)⟩
end Go.Proofs.Ytpfnohdnaocpdaa.PT

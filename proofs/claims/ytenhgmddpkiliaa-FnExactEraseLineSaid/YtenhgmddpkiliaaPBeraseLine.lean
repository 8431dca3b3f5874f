/- impl.EraseLine by hand: it cuts a row in two and joins what is left. -/
import Derived.Test.YtenhgmddpkiliaaPBx10
import Derived.Test.YtenhgmddpkiliaaPBusersOf
import Derived.Test.YtenhgmddpkiliaaPBconcat
import Derived.Deep.RegionWith
import Derived.IntWalk
namespace Go.Proofs.Ytenhgmddpkiliaa.PB
open Go.RowKit Go.Proofs.YtenhgmddpkiliaaW.PrintWords Go.Proofs.YtenhgmddpkiliaaW.PrintLast Go.Proofs.YtenhgmddpkiliaaW.PrintMore Go.Lib Go.Proofs.YtenhgmddpkiliaaRP
set_option linter.unusedVariables false
set_option linter.unusedSimpArgs false

def impl_EraseLine.f (k : Nat) (l0 : List S45) (a1 : ByteArray) : Option (List S45 × Int) := (impl_namesOk.f k l0 0 0 [a1]).bind fun c => if c = 0 then ((impl_usersOf.f k l0 a1).bind fun u => if 0 < u.length then some ([], 4) else if l0.length ≤ 1000 ∧ 0 ≤ findL l0 a1 ∧ findL l0 a1 < l0.length then some (l0.take (findL l0 a1).toNat ++ l0.drop ((findL l0 a1).toNat + 1), 0) else none) else some ([], c)
theorem impl_EraseLine.mono : ∀ a0 a1 k, LeO (impl_EraseLine.f k a0 a1) (impl_EraseLine.f (k + 1) a0 a1) := by
  intro a0 a1 k
  unfold impl_EraseLine.f
  refine LeO.bind (impl_namesOk.mono _ _ _ _ _) (fun _ => LeO.ite (LeO.bind (impl_usersOf.mono _ _ _) (fun _ => LeO.refl _)) (LeO.refl _))
set_option maxHeartbeats 8000000 in
set_option maxRecDepth 100000 in
theorem impl_EraseLine.calls (k : Nat) (A0 : Option Addr) (c0 : Nat) (l0 : List S45) (a1 : ByteArray) (r1 : List S45) (r2 : Int) (w : World) (hr0 : Kd.C k45 w A0 l0.length l0) (hc0 : l0.length ≤ c0) (h : impl_EraseLine.f k l0 a1 = some (r1, r2)) :
    Calls Try.prog 43 #[.slice A0 l0.length c0, .string a1] w fun e w' => ∃ v0_ : Value, e = .returned (.tuple #[v0_, .int .i64 r2]) ∧ Kd.R k45 45 w' w.heap.size (fun _ => True) v0_ r1 ∧ Below w.heap.size w w' := by
  have HR0 := Aside0.mk hr0
  have HC0 := Aside0.mk hc0
  clear hr0 hc0
  have HB := Aside0.mk (Below.refl w.heap.size w)
  unfold impl_EraseLine.f at h
  obtain ⟨c, hc, h⟩ := Option.bind_eq_some_iff.mp h
  obtain ⟨y3, hy3⟩ : ∃ y_ : List ByteArray, y_ = [a1] := ⟨_, rfl⟩
  rw [← hy3] at hc
  have A3 := Aside0.mk hc
  have Ny3 := Aside0.mk hy3
  clear hc hy3
  by_cases c4 : c = 0
  · rw [if_pos c4] at h
    subst c4
    obtain ⟨u, hu, h⟩ := Option.bind_eq_some_iff.mp h
    have A5 := Aside0.mk hu
    clear hu
    by_cases c5 : 0 < u.length
    · rw [if_pos c5] at h
      simp only [Option.some.injEq, Prod.mk.injEq] at h
      obtain ⟨rfl, rfl⟩ := h
      have q1 : decide (0 < (u.length : Int)) = true := decide_eq_true (by omega)
      have q2 : decide (0 < u.length) = true := decide_eq_true c5
      clear c5
      go_enter Try.func43, Try.ntmps43
      go_wp2_with (first | ((with_reducible refine gate_dst (N := 10) rfl ?_); refine Kd.R_lit Kd.string _ 9 ?hg (N := 10) ?hd (xs := ([a1] : List ByteArray)) (inner := [.string a1]) (ok := fun _ => True) (okp := fun _ => True) ?hr ?hp (fun _ hk => hk) trivial (Below.refl _ _) (Nat.le_refl _) (by simp) ?_; (case hd => rfl); (case hg => rfl); (case hr => first | (go_simp; done) | (go_simp; rfl)); (case hp => exact (Reps.one (show Kd.M Kd.string _ _ _ a1 [.string a1] from rfl) (Reps.none _ _))); intro v341 w6 ho7 hb hg_ hnew_; clear hg_ hnew_; rw [← Ny3.out] at ho7; have HO342 := Aside0.mk ho7; have n1_ := Aside0.mk (below_step (by repeat (first | exact HB.out | apply below_alloc)) hb); clear HB; have HB := n1_; clear n1_; clear hb ho7; obtain ⟨Ao8, co8, eo8⟩ := Kd.R_slice HO342.out; subst eo8) | (go_at_call 83; (with_reducible refine (impl_namesOk.calls k _ _ l0 0 0 _ _ y3 0 _ ?side1 ?side2 ?side3 ?side4 A3.out).mono ?_); (case side1 => repeat (first | exact (Kd.C_below HR0.out HB.out) | (with_reducible refine Kd.C_alloc ?_ _))); (case side2 => exact HC0.out); (case side3 => repeat (first | exact (Kd.R_reads' HO342.out).2.2 | (with_reducible refine Kd.C_alloc ?_ _))); (case side4 => exact (Kd.R_reads' HO342.out).2.1); rintro e w9 ⟨rfl, hb⟩; have n1_ := Aside0.mk (below_step (by repeat (first | exact HB.out | apply below_alloc)) hb); clear HB HO342; have HB := n1_; clear n1_ hb) | (go_at_call 87; (with_reducible refine (impl_usersOf.calls k _ _ l0 a1 u _ ?side1 ?side2 A5.out).mono ?_); (case side1 => repeat (first | exact (Kd.C_below HR0.out HB.out) | (with_reducible refine Kd.C_alloc ?_ _))); (case side2 => exact HC0.out); rintro e w11 ⟨v, rfl, ho0, hb⟩; have n1_ := Aside0.mk (below_step (by repeat (first | exact HB.out | apply below_alloc)) hb); clear HB; have HB := n1_; clear n1_ hb; obtain ⟨Ao9, co9, eo9⟩ := Kd.R_slice ho0; subst eo9; clear ho0))
      go_ret2
      exact ⟨_, rfl, Kd.R_nil _ _ _ _ _, HB.out⟩
    · rw [if_neg c5] at h
      by_cases c6 : l0.length ≤ 1000 ∧ 0 ≤ findL l0 a1 ∧ findL l0 a1 < l0.length
      case neg => rw [if_neg c6] at h; exact absurd h (by simp)
      rw [if_pos c6] at h
      have q1 : decide (0 < (u.length : Int)) = false := decide_eq_false (by omega)
      have q2 : decide (0 < u.length) = false := decide_eq_false c5
      clear c5
      obtain ⟨y, hy⟩ : ∃ y, y = (findL l0 a1).toNat := ⟨_, rfl⟩
      have hline : impl_lineOf.f l0 a1 = some (y : Int) := by rw [hy, Int.toNat_of_nonneg c6.2.1]; rfl
      rw [← hy] at h
      have A6 := Aside0.mk hline
      have hlt : y < l0.length := by have := c6.2; omega
      have L6 := Aside0.mk c6.1
      have LY := Aside0.mk hlt
      clear hline hy c6
      obtain ⟨i0, hi0, _, hsz, _⟩ := info_parts info45
      have hsz' : i0.size = 6 := hsz
      have hcut1 := cut_to (P := Try.prog) 25 45 .i64 Try.underlying25 hi0 A0 l0.length c0 (y : Int) (by omega) (by omega) HC0.out
      have hcut2 := cut_from (P := Try.prog) 25 45 .i64 Try.underlying25 hi0 6 hsz' A0 l0.length c0 ((y : Int) + 1) (by omega) (by omega)
      have e1 : ((y : Int)).toNat = y := by omega
      have e2 : ((y : Int) + 1).toNat = y + 1 := by omega
      rw [e1] at hcut1
      rw [e2] at hcut2
      have hw1 : wrap64 ((y : Int) + 1) = (y : Int) + 1 := by unfold wrap64; have := L6.out; omega
      have hw2 : IntKind.i64.wrap ((y : Int) + 1) = (y : Int) + 1 := IntWalk.i64_in _ (by have := L6.out; omega)
      obtain ⟨A2, hA2⟩ : ∃ A2, A2 = (if c0 = y + 1 then A0 else A0.map (·.add ((y + 1) * 6))) := ⟨_, rfl⟩
      rw [← hA2] at hcut2
      have NA2 := Aside0.mk hA2
      clear hA2 hi0 hsz hsz' e1 e2
      go_enter Try.func43, Try.ntmps43
      go_wp2_with (first | ((with_reducible refine gate_dst (N := 10) rfl ?_); refine Kd.R_lit Kd.string _ 9 ?hg (N := 10) ?hd (xs := ([a1] : List ByteArray)) (inner := [.string a1]) (ok := fun _ => True) (okp := fun _ => True) ?hr ?hp (fun _ hk => hk) trivial (Below.refl _ _) (Nat.le_refl _) (by simp) ?_; (case hd => rfl); (case hg => rfl); (case hr => first | (go_simp; done) | (go_simp; rfl)); (case hp => exact (Reps.one (show Kd.M Kd.string _ _ _ a1 [.string a1] from rfl) (Reps.none _ _))); intro v341 w6 ho7 hb hg_ hnew_; clear hg_ hnew_; rw [← Ny3.out] at ho7; have HO342 := Aside0.mk ho7; have n1_ := Aside0.mk (below_step (by repeat (first | exact HB.out | apply below_alloc)) hb); clear HB; have HB := n1_; clear n1_; clear hb ho7; obtain ⟨Ao8, co8, eo8⟩ := Kd.R_slice HO342.out; subst eo8) | (go_at_call 83; (with_reducible refine (impl_namesOk.calls k _ _ l0 0 0 _ _ y3 0 _ ?side1 ?side2 ?side3 ?side4 A3.out).mono ?_); (case side1 => repeat (first | exact (Kd.C_below HR0.out HB.out) | (with_reducible refine Kd.C_alloc ?_ _))); (case side2 => exact HC0.out); (case side3 => repeat (first | exact (Kd.R_reads' HO342.out).2.2 | (with_reducible refine Kd.C_alloc ?_ _))); (case side4 => exact (Kd.R_reads' HO342.out).2.1); rintro e w9 ⟨rfl, hb⟩; have n1_ := Aside0.mk (below_step (by repeat (first | exact HB.out | apply below_alloc)) hb); clear HB HO342; have HB := n1_; clear n1_ hb) | (go_at_call 87; (with_reducible refine (impl_usersOf.calls k _ _ l0 a1 u _ ?side1 ?side2 A5.out).mono ?_); (case side1 => repeat (first | exact (Kd.C_below HR0.out HB.out) | (with_reducible refine Kd.C_alloc ?_ _))); (case side2 => exact HC0.out); rintro e w11 ⟨v, rfl, ho0, hb⟩; have n1_ := Aside0.mk (below_step (by repeat (first | exact HB.out | apply below_alloc)) hb); clear HB; have HB := n1_; clear n1_ hb; obtain ⟨Ao9, co9, eo9⟩ := Kd.R_slice ho0; subst eo9; clear ho0) | (go_at_call 79; (with_reducible refine (impl_lineOf.calls _ _ l0 a1 y _ ?side1 ?side2 A6.out).mono ?_); (case side1 => repeat (first | exact (Kd.C_below HR0.out HB.out) | (with_reducible refine Kd.C_alloc ?_ _))); (case side2 => exact HC0.out); rintro e w10 ⟨rfl, hb⟩; have n1_ := Aside0.mk (below_step (by repeat (first | exact HB.out | apply below_alloc)) hb); clear HB; have HB := n1_; clear n1_ hb))
      go_region_with (first | (go_at_call 91; (refine (concat_cut A0 c0 l0 y LY.out L6.out A2 NA2.out w10.heap.size _ ?s1 HC0.out ?s2 ?s3).mono ?_; (case s1 => repeat (first | exact (Kd.C_below HR0.out HB.out) | (with_reducible refine Kd.C_alloc ?_ _) | (with_reducible refine Kd.C_drew ?_))); (case s2 => exact (show (World.alloc w10 _).cell? _ = _ by simp)); (case s3 => exact (show (World.alloc w10 _).cell? _ = _ by simp)); rintro e w12 ⟨v2, rfl, ho, hb⟩; have HOr := Aside0.mk (Kd.R_lower ho (below_size (by repeat (first | exact HB.out | apply below_alloc | apply below_drew1)))); have HBr := Aside0.mk (below_step (by repeat (first | exact HB.out | apply below_alloc | apply below_drew1)) hb); clear ho hb)))
      all_goals (go_wp2; go_ret2; simp only [Option.some.injEq, Prod.mk.injEq] at h; obtain ⟨rfl, rfl⟩ := h; exact ⟨_, rfl, HOr.out, HBr.out⟩)
  · rw [if_neg c4] at h
    simp only [Option.some.injEq, Prod.mk.injEq] at h
    obtain ⟨rfl, rfl⟩ := h
    have c4b1 : (c != 0) = true := bne_iff_ne.mpr c4
    have c4b0 : (c == 0) = false := beq_eq_false_iff_ne.mpr c4
    go_enter Try.func43, Try.ntmps43
    go_wp2_with (first | ((with_reducible refine gate_dst (N := 10) rfl ?_); refine Kd.R_lit Kd.string _ 9 ?hg (N := 10) ?hd (xs := ([a1] : List ByteArray)) (inner := [.string a1]) (ok := fun _ => True) (okp := fun _ => True) ?hr ?hp (fun _ hk => hk) trivial (Below.refl _ _) (Nat.le_refl _) (by simp) ?_; (case hd => rfl); (case hg => rfl); (case hr => first | (go_simp; done) | (go_simp; rfl)); (case hp => exact (Reps.one (show Kd.M Kd.string _ _ _ a1 [.string a1] from rfl) (Reps.none _ _))); intro v341 w6 ho7 hb hg_ hnew_; clear hg_ hnew_; rw [← Ny3.out] at ho7; have HO342 := Aside0.mk ho7; have n1_ := Aside0.mk (below_step (by repeat (first | exact HB.out | apply below_alloc)) hb); clear HB; have HB := n1_; clear n1_; clear hb ho7; obtain ⟨Ao8, co8, eo8⟩ := Kd.R_slice HO342.out; subst eo8) | (go_at_call 83; (with_reducible refine (impl_namesOk.calls k _ _ l0 0 0 _ _ y3 c _ ?side1 ?side2 ?side3 ?side4 A3.out).mono ?_); (case side1 => repeat (first | exact (Kd.C_below HR0.out HB.out) | (with_reducible refine Kd.C_alloc ?_ _))); (case side2 => exact HC0.out); (case side3 => repeat (first | exact (Kd.R_reads' HO342.out).2.2 | (with_reducible refine Kd.C_alloc ?_ _))); (case side4 => exact (Kd.R_reads' HO342.out).2.1); rintro e w9 ⟨rfl, hb⟩; have n1_ := Aside0.mk (below_step (by repeat (first | exact HB.out | apply below_alloc)) hb); clear HB HO342; have HB := n1_; clear n1_ hb))
    go_ret2
    exact ⟨_, rfl, Kd.R_nil _ _ _ _ _, HB.out⟩
end Go.Proofs.Ytenhgmddpkiliaa.PB

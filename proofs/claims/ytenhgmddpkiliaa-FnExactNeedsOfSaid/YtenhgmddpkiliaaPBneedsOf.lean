/- impl.NeedsOf by hand: it hands a closure to impl.names. -/
import Derived.Test.YtenhgmddpkiliaaPBx8
import Derived.Test.YtenhgmddpkiliaaPBx5
import Derived.Test.YtenhgmddpkiliaaPBlineOf
import Derived.Test.YtenhgmddpkiliaaPBnames
namespace Go.Proofs.Ytenhgmddpkiliaa.PB
open Go.RowKit Go.Proofs.YtenhgmddpkiliaaW.PrintWords Go.Proofs.YtenhgmddpkiliaaW.PrintLast Go.Proofs.YtenhgmddpkiliaaW.PrintMore Go.Lib Go.Proofs.YtenhgmddpkiliaaRP
set_option linter.unusedVariables false
set_option linter.unusedSimpArgs false

theorem needs_pred (m : List Bool) (A : Option Addr) (cap k : Nat) (hk : k < m.length) (B : Nat) (w : World) (hcell : w.cell? ⟨B, 0, none⟩ = some (.slice A m.length cap)) (hC : Kd.C Kd.bool w A m.length m) :
    Calls Try.prog 85 #[.int .i64 k, .pointer (some ⟨B, 0, none⟩)] w fun e w' => e = .returned (.bool (m.getD k false)) ∧ Below w.heap.size w w' := by
  obtain ⟨ad, e, h0⟩ := Kd.at_bool hC (k : Int) (by omega) (by omega)
  subst e
  rw [Int.toNat_natCast] at h0
  have e : rdOf false m (k : Int) = m.getD k false := by simp [rdOf]
  rw [e] at h0
  clear e hC
  generalize m.getD k false = b at h0 ⊢
  have hlt' : (k : Int) < (m.length : Int) := by omega
  go_enter Try.func85, Try.ntmps85
  go_wp2
  all_goals (go_ret; exact ⟨by simp_all, Below.refl _ _⟩)
def impl_NeedsOf.f (k : Nat) (l0 : List S45) (a1 : ByteArray) : Option (List ByteArray × Int) := (impl_namesOk.f k l0 0 0 [a1]).bind fun c => if c = 0 then (if l0.length ≤ 1000 then ((impl_needs.f k l0 (findL l0 a1)).bind fun m => if m.length = l0.length then some (namesL (fun i => m.getD i false) l0 0, 0) else none) else none) else some ([], c)
theorem impl_NeedsOf.mono : ∀ a0 a1 k, LeO (impl_NeedsOf.f k a0 a1) (impl_NeedsOf.f (k + 1) a0 a1) := by
  intro a0 a1 k
  unfold impl_NeedsOf.f
  refine LeO.bind (impl_namesOk.mono _ _ _ _ _) (fun _ => LeO.ite (LeO.ite (LeO.bind (impl_needs.mono _ _ _) (fun _ => LeO.refl _)) (LeO.refl _)) (LeO.refl _))
set_option maxHeartbeats 8000000 in
set_option maxRecDepth 100000 in
theorem impl_NeedsOf.calls (k : Nat) (A0 : Option Addr) (c0 : Nat) (l0 : List S45) (a1 : ByteArray) (r1 : List ByteArray) (r2 : Int) (w : World) (hr0 : Kd.C k45 w A0 l0.length l0) (hc0 : l0.length ≤ c0) (h : impl_NeedsOf.f k l0 a1 = some (r1, r2)) :
    Calls Try.prog 34 #[.slice A0 l0.length c0, .string a1] w fun e w' => ∃ v0_ : Value, e = .returned (.tuple #[v0_, .int .i64 r2]) ∧ Kd.R Kd.string 9 w' w.heap.size (fun _ => True) v0_ r1 ∧ Below w.heap.size w w' := by
  have HR0 := Aside0.mk hr0
  have HC0 := Aside0.mk hc0
  clear hr0 hc0
  have HB := Aside0.mk (Below.refl w.heap.size w)
  unfold impl_NeedsOf.f at h
  obtain ⟨c, hc, h⟩ := Option.bind_eq_some_iff.mp h
  obtain ⟨y3, hy3⟩ : ∃ y_ : List ByteArray, y_ = [a1] := ⟨_, rfl⟩
  rw [← hy3] at hc
  have A3 := Aside0.mk hc
  have Ny3 := Aside0.mk hy3
  clear hc hy3
  by_cases c4 : c = 0
  · rw [if_pos c4] at h
    by_cases c5 : l0.length ≤ 1000
    case neg => rw [if_neg c5] at h; exact absurd h (by simp)
    rw [if_pos c5] at h
    obtain ⟨m, hm, h⟩ := Option.bind_eq_some_iff.mp h
    by_cases c6 : m.length = l0.length
    case neg => rw [if_neg c6] at h; exact absurd h (by simp)
    rw [if_pos c6] at h
    simp only [Option.some.injEq, Prod.mk.injEq] at h
    obtain ⟨rfl, rfl⟩ := h
    have A5 := Aside0.mk hm
    have LE := Aside0.mk c6
    have L5 := Aside0.mk c5
    clear hm c6 c5
    subst c4
    have hx : ∃ y, y = findL l0 a1 := ⟨_, rfl⟩
    obtain ⟨y, hy⟩ := hx
    have hline : impl_lineOf.f l0 a1 = some y := by rw [hy]; rfl
    have A6 := Aside0.mk hline
    rw [← hy] at A5
    clear hline hy
    go_enter Try.func34, Try.ntmps34
    go_wp2_with (first | ((with_reducible refine gate_dst (N := 10) rfl ?_); refine Kd.R_lit Kd.string _ 9 ?hg (N := 10) ?hd (xs := ([a1] : List ByteArray)) (inner := [.string a1]) (ok := fun _ => True) (okp := fun _ => True) ?hr ?hp (fun _ hk => hk) trivial (Below.refl _ _) (Nat.le_refl _) (by simp) ?_; (case hd => rfl); (case hg => rfl); (case hr => first | (go_simp; done) | (go_simp; rfl)); (case hp => exact (Reps.one (show Kd.M Kd.string _ _ _ a1 [.string a1] from rfl) (Reps.none _ _))); intro v341 w6 ho7 hb hg_ hnew_; clear hg_ hnew_; rw [← Ny3.out] at ho7; have HO342 := Aside0.mk ho7; have n1_ := Aside0.mk (below_step (by repeat (first | exact HB.out | apply below_alloc)) hb); clear HB; have HB := n1_; clear n1_; clear hb ho7; obtain ⟨Ao8, co8, eo8⟩ := Kd.R_slice HO342.out; subst eo8) | (go_at_call 83; (with_reducible refine (impl_namesOk.calls k _ _ l0 0 0 _ _ y3 0 _ ?side1 ?side2 ?side3 ?side4 A3.out).mono ?_); (case side1 => repeat (first | exact (Kd.C_below HR0.out HB.out) | (with_reducible refine Kd.C_alloc ?_ _))); (case side2 => exact HC0.out); (case side3 => repeat (first | exact (Kd.R_reads' HO342.out).2.2 | (with_reducible refine Kd.C_alloc ?_ _))); (case side4 => exact (Kd.R_reads' HO342.out).2.1); rintro e w9 ⟨rfl, hb⟩; have n1_ := Aside0.mk (below_step (by repeat (first | exact HB.out | apply below_alloc)) hb); clear HB HO342; have HB := n1_; clear n1_ hb) | (go_at_call 79; (with_reducible refine (impl_lineOf.calls _ _ l0 a1 y _ ?side1 ?side2 A6.out).mono ?_); (case side1 => repeat (first | exact (Kd.C_below HR0.out HB.out) | (with_reducible refine Kd.C_alloc ?_ _))); (case side2 => exact HC0.out); rintro e w10 ⟨rfl, hb⟩; have n1_ := Aside0.mk (below_step (by repeat (first | exact HB.out | apply below_alloc)) hb); clear HB; have HB := n1_; clear n1_ hb) | (go_at_call 66; (with_reducible refine (impl_needs.calls k _ _ l0 y m _ ?side1 ?side2 A5.out).mono ?_); (case side1 => repeat (first | exact (Kd.C_below HR0.out HB.out) | (with_reducible refine Kd.C_alloc ?_ _))); (case side2 => exact HC0.out); rintro e w11 ⟨v, rfl, ho0, hb⟩; have HOm := Aside0.mk ho0; have n1_ := Aside0.mk (below_step (by repeat (first | exact HB.out | apply below_alloc)) hb); clear HB; have HB := n1_; clear n1_ hb ho0; obtain ⟨Ao9, co9, eo9⟩ := Kd.R_slice HOm.out; subst eo9) | (go_at_call 84; refine (names_85 (fun i => m.getD i false) (.pointer (some ⟨w11.heap.size, 0, none⟩)) _ _ l0 _ ?side1 ?side2 L5.out ?side3).mono ?_; (case side1 => repeat (first | exact (Kd.C_below HR0.out HB.out) | (with_reducible refine Kd.C_alloc ?_ _))); (case side2 => exact HC0.out); (case side3 => (intro i hi wr hb; have hc1 : wr.cell? ⟨w11.heap.size, 0, none⟩ = some (.slice Ao9 m.length co9) := (hb.cell (p := ⟨w11.heap.size, 0, none⟩) (by simp)).trans (by simp); have hC1 : Kd.C Kd.bool wr Ao9 m.length m := Kd.C_below (Kd.C_alloc (Kd.R_reads' HOm.out).2.2 _) hb; have hi1 : i < m.length := (by rw [LE.out]; exact hi); exact needs_pred m Ao9 co9 i hi1 w11.heap.size wr hc1 hC1)); rintro e w12 ⟨v2, rfl, ho, hb⟩; have HOr := Aside0.mk (Kd.R_lower ho (below_size (below_alloc HB.out _))); have HBr := Aside0.mk (below_step (below_alloc HB.out _) hb); clear ho hb))
    go_ret2
    exact ⟨_, rfl, HOr.out, HBr.out⟩
  · rw [if_neg c4] at h
    simp only [Option.some.injEq, Prod.mk.injEq] at h
    obtain ⟨rfl, rfl⟩ := h
    have c4b1 : (c != 0) = true := bne_iff_ne.mpr c4
    have c4b0 : (c == 0) = false := beq_eq_false_iff_ne.mpr c4
    go_enter Try.func34, Try.ntmps34
    go_wp2_with (first | ((with_reducible refine gate_dst (N := 10) rfl ?_); refine Kd.R_lit Kd.string _ 9 ?hg (N := 10) ?hd (xs := ([a1] : List ByteArray)) (inner := [.string a1]) (ok := fun _ => True) (okp := fun _ => True) ?hr ?hp (fun _ hk => hk) trivial (Below.refl _ _) (Nat.le_refl _) (by simp) ?_; (case hd => rfl); (case hg => rfl); (case hr => first | (go_simp; done) | (go_simp; rfl)); (case hp => exact (Reps.one (show Kd.M Kd.string _ _ _ a1 [.string a1] from rfl) (Reps.none _ _))); intro v341 w6 ho7 hb hg_ hnew_; clear hg_ hnew_; rw [← Ny3.out] at ho7; have HO342 := Aside0.mk ho7; have n1_ := Aside0.mk (below_step (by repeat (first | exact HB.out | apply below_alloc)) hb); clear HB; have HB := n1_; clear n1_; clear hb ho7; obtain ⟨Ao8, co8, eo8⟩ := Kd.R_slice HO342.out; subst eo8) | (go_at_call 83; (with_reducible refine (impl_namesOk.calls k _ _ l0 0 0 _ _ y3 c _ ?side1 ?side2 ?side3 ?side4 A3.out).mono ?_); (case side1 => repeat (first | exact (Kd.C_below HR0.out HB.out) | (with_reducible refine Kd.C_alloc ?_ _))); (case side2 => exact HC0.out); (case side3 => repeat (first | exact (Kd.R_reads' HO342.out).2.2 | (with_reducible refine Kd.C_alloc ?_ _))); (case side4 => exact (Kd.R_reads' HO342.out).2.1); rintro e w9 ⟨rfl, hb⟩; have n1_ := Aside0.mk (below_step (by repeat (first | exact HB.out | apply below_alloc)) hb); clear HB HO342; have HB := n1_; clear n1_ hb))
    go_ret2
    exact ⟨_, rfl, Kd.R_nil _ _ _ _ _, HB.out⟩
end Go.Proofs.Ytenhgmddpkiliaa.PB

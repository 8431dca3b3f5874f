/- slices.Grow of nothing, and slices.Concat of two rows of lines. -/
import Derived.Test.YtenhgmddpkiliaaPBx0
import Derived.Test.YtenhgmddpkiliaaRP
import Derived.Lib.SliceRun
namespace Go.Proofs.Ytenhgmddpkiliaa.PB
open Go.RowKit Go.Proofs.YtenhgmddpkiliaaW.PrintWords Go.Proofs.YtenhgmddpkiliaaW.PrintLast Go.Proofs.YtenhgmddpkiliaaW.PrintMore Go.Proofs.YtenhgmddpkiliaaRP
set_option linter.unusedVariables false
set_option linter.unusedSimpArgs false

set_option maxHeartbeats 4000000 in
theorem grow_nil (n : Int) (h0 : 0 ≤ n) (h1 : n ≤ 1000) (w : World) :
    Calls Try.prog 115 #[.slice none 0 0, .int .i64 n] w fun e w' => ∃ v0_ : Value, e = .returned v0_ ∧ Kd.R k45 45 w' w.heap.size (fun _ => True) v0_ ([] : List S45) ∧ Below w.heap.size w w' := by
  have HB := Aside0.mk (Below.refl w.heap.size w)
  by_cases c : n = 0
  · subst c
    go_enter Try.func115, Try.ntmps115
    go_wp2
    all_goals (go_ret; exact ⟨_, rfl, Kd.R_nil _ _ _ _ _, HB.out⟩)
  · have H0 := Aside0.mk h0
    have H1 := Aside0.mk h1
    obtain ⟨i0, hi0, _, hsz, _⟩ := info_parts info45
    have hcut1 := cut_to (P := Try.prog) 25 45 .i64 Try.underlying25 hi0 none 0 0 0 (by omega) (by omega) (by omega)
    have HI := Aside0.mk hi0
    clear hi0 hsz
    have c1 : decide (n < 0) = false := decide_eq_false (by omega)
    have c2 : decide (0 < n) = true := decide_eq_true (by omega)
    have hw : wrap64 n = n := by unfold wrap64; omega
    have hw2 : wrap64 (n - 0) = n := by unfold wrap64; omega
    obtain ⟨y, hy⟩ : ∃ y, y = List.replicate n.toNat z45 := ⟨_, rfl⟩
    have Ny := Aside0.mk hy
    clear hy c
    go_enter Try.func115, Try.ntmps115
    go_wp2_with (first | ((with_reducible refine gate_builtin (b := .append) (xs := #[.tmp 20, .tmp 21]) rfl ?_); at_builtin; refine Kd.R_append_zeros k45 (w0 := w) w.heap.size rfl (.tmp 20) (.tmp 21) 25 3 45 (.agg #[(.string ⟨#[]⟩), (.int .i8 0), (.string ⟨#[]⟩), (.string ⟨#[]⟩), (.int .i64 0), (.int .i64 0)]) 72 rfl Try.underlying25 Try.underlying3 info45 rfl (by decide) (by omega) (.slice none 0 0) ([] : List S45) z45 (n : Int) (fun _ => True) rfl rfl (k45_mkM _ _ _ z45) ?aF ?aO H0.out ?aB ?aS ?aL ?_; (case aF => exact (fun _ _ => trivial)); (case aO => exact Kd.R_nil _ _ _ _ _); (case aB => exact HB.out); (case aS => exact Nat.le_refl _); (case aL => have := H1.out; simp only [List.length_nil]; omega); intro v1 w1 ho hb hg hat; rw [List.nil_append, ← Ny.out] at ho; obtain ⟨Ao, co, eo⟩ := Kd.R_slice ho; subst eo; have hcut2 := cut_to (P := Try.prog) 25 45 .i64 Try.underlying25 HI.out Ao y.length co 0 (by omega) (by omega) (Kd.R_reads' ho).2.1; have HO := Aside0.mk (Kd.R_take (m := (0 : Int).toNat) ho (by simp)); have HB1 := Aside0.mk hb; clear ho hb hg hat))
    all_goals (go_ret; exact ⟨_, rfl, by simpa using HO.out, HB1.out⟩)
set_option maxHeartbeats 8000000 in
set_option maxRecDepth 100000 in
theorem concat_two (A1 A2 : Option Addr) (c1 c2 : Nat) (l1 l2 : List S45) (ad : Addr) (w : World) (hr1 : Kd.C k45 w A1 l1.length l1) (hc1 : l1.length ≤ c1) (hr2 : Kd.C k45 w A2 l2.length l2) (hc2 : l2.length ≤ c2)
    (hx0 : w.cell? ad = some (.slice A1 l1.length c1)) (hx1 : w.cell? (ad.add 1) = some (.slice A2 l2.length c2)) (hl : l1.length + l2.length ≤ 1000) :
    Calls Try.prog 91 #[.slice (some ad) 2 2] w fun e w' => ∃ v0_ : Value, e = .returned v0_ ∧ Kd.R k45 45 w' w.heap.size (fun _ => True) v0_ (l1 ++ l2) ∧ Below w.heap.size w w' := by
  have HB := Aside0.mk (Below.refl w.heap.size w)
  have HR1 := Aside0.mk hr1
  have HR2 := Aside0.mk hr2
  have HC1 := Aside0.mk hc1
  have HC2 := Aside0.mk hc2
  have HL := Aside0.mk hl
  have HX0 := Aside0.mk hx0
  have HX1 := Aside0.mk hx1
  have hx1' : w.cell? ⟨ad.block, ad.off + 1, none⟩ = some (.slice A2 l2.length c2) := by simpa [Addr.add] using hx1
  clear hr1 hr2 hc1 hc2 hx1
  go_enter Try.func91, Try.ntmps91
  go_wp2
  go_loop [3, 11] (fun s i => (s = .int .i64 0 ∧ i = .int .i64 0) ∨ (s = .int .i64 l1.length ∧ i = .int .i64 1) ∨ (s = .int .i64 ((l1.length : Int) + l2.length) ∧ i = .int .i64 2)) (fun _ i => 2 - (intOf i).toNat)
  case atStart => exact .inl ⟨rfl, rfl⟩
  case round =>
    rcases hrel with ⟨rfl, rfl⟩ | ⟨rfl, rfl⟩ | ⟨rfl, rfl⟩
    · have e1 : decide ((l1.length : Int) < 0) = false := decide_eq_false (by omega)
      go_wp2
      go_round
      case rel => exact .inr (.inl ⟨by go_num, by go_num⟩)
      case measure => simp [intOf]
    · have e1 : decide ((l1.length : Int) + l2.length < 0) = false := decide_eq_false (by omega)
      have e2 : wrap64 ((l1.length : Int) + l2.length) = (l1.length : Int) + l2.length := by unfold wrap64; omega
      go_wp2
      go_round
      case rel => exact .inr (.inr ⟨by go_num, by go_num⟩)
      case measure => simp [intOf]
    · go_wp2_with (first | (go_at_call 115; refine (grow_nil ((l1.length : Int) + l2.length) (by omega) (by have := HL.out; omega) _).mono ?_; rintro e w1 ⟨v, rfl, ho, hb⟩; have HO := Aside0.mk ho; have HB1 := Aside0.mk hb; clear ho hb))
      go_loopw [6, 27] (fun v i wr => Aside0 (Below w.heap.size w wr) ∧ ((i = .int .i64 0 ∧ Aside0 (Kd.R k45 45 wr w.heap.size (fun _ => True) v ([] : List S45))) ∨ (i = .int .i64 1 ∧ Aside0 (Kd.R k45 45 wr w.heap.size (fun _ => True) v l1)) ∨ (i = .int .i64 2 ∧ Aside0 (Kd.R k45 45 wr w.heap.size (fun _ => True) v (l1 ++ l2))))) (fun _ i _ => 2 - (intOf i).toNat)
      case atStart => exact ⟨HB1, .inl ⟨rfl, HO⟩⟩
      case round =>
        obtain ⟨HBr, hrel⟩ := hrel
        have g0 := (HBr.out.cell (World.block_lt_of_cell? w _ hx0)).trans hx0
        have g1 := (HBr.out.cell (World.block_lt_of_cell? w _ hx1')).trans hx1'
        rcases hrel with ⟨rfl, HOr⟩ | ⟨rfl, HOr⟩ | ⟨rfl, HOr⟩
        · go_wp2_with (first | ((with_reducible refine gate_builtin (b := .append) (xs := #[.tmp 31, .tmp 32]) rfl ?_); at_builtin; refine Kd.R_append_rows k45 (w0 := w) w.heap.size rfl (.tmp 31) (.tmp 32) 25 45 (.agg #[(.string ⟨#[]⟩), (.int .i8 0), (.string ⟨#[]⟩), (.string ⟨#[]⟩), (.int .i64 0), (.int .i64 0)]) 72 rfl Try.underlying25 info45 rfl (by decide) (by omega) u6 [] l1 _ _ _ (fun _ => True) (fun _ => False) rfl rfl ?aO ?aR (fun _ _ h => h) (fun _ h => h.elim) ?aF ?aB ?aS ?aL ?_; (case aR => exact Kd.C_below HR1.out HBr.out); (case aB => exact HBr.out); (case aF => exact (fun _ _ => trivial)); (case aO => exact HOr.out); (case aS => exact below_size HBr.out); (case aL => have := HL.out; (try simp only [List.length_nil]); omega); intro v2 w2 ho hb hg hat; have HO2 := Aside0.mk ho; have HB2 := Aside0.mk hb; clear ho hb hg hat))
          go_roundw
          case rel => exact ⟨HB2, .inr (.inl ⟨by go_num, HO2⟩)⟩
          case measure => simp [intOf]
        · go_wp2_with (first | ((with_reducible refine gate_builtin (b := .append) (xs := #[.tmp 31, .tmp 32]) rfl ?_); at_builtin; refine Kd.R_append_rows k45 (w0 := w) w.heap.size rfl (.tmp 31) (.tmp 32) 25 45 (.agg #[(.string ⟨#[]⟩), (.int .i8 0), (.string ⟨#[]⟩), (.string ⟨#[]⟩), (.int .i64 0), (.int .i64 0)]) 72 rfl Try.underlying25 info45 rfl (by decide) (by omega) u6 l1 l2 _ _ _ (fun _ => True) (fun _ => False) rfl rfl ?aO ?aR (fun _ _ h => h) (fun _ h => h.elim) ?aF ?aB ?aS ?aL ?_; (case aR => exact Kd.C_below HR2.out HBr.out); (case aB => exact HBr.out); (case aF => exact (fun _ _ => trivial)); (case aO => exact HOr.out); (case aS => exact below_size HBr.out); (case aL => have := HL.out; (try simp only [List.length_nil]); omega); intro v2 w2 ho hb hg hat; have HO2 := Aside0.mk ho; have HB2 := Aside0.mk hb; clear ho hb hg hat))
          go_roundw
          case rel => exact ⟨HB2, .inr (.inr ⟨by go_num, HO2⟩)⟩
          case measure => simp [intOf]
        · go_wp2
          go_ret
          exact ⟨_, rfl, HOr.out, HBr.out⟩
theorem concat_cut (A0 : Option Addr) (c0 : Nat) (l0 : List S45) (y : Nat) (hy : y < l0.length) (hl : l0.length ≤ 1000) (A2 : Option Addr) (hA2 : A2 = (if c0 = y + 1 then A0 else A0.map (·.add ((y + 1) * 6)))) (g : Nat) (W : World)
    (hr : Kd.C k45 W A0 l0.length l0) (hc : l0.length ≤ c0) (h0 : W.cell? ⟨g, 0, none⟩ = some (.slice A0 y c0)) (h1 : W.cell? ⟨g, 1, none⟩ = some (.slice A2 (l0.length - (y + 1)) (c0 - (y + 1)))) :
    Calls Try.prog 91 #[.slice (some ⟨g, 0, none⟩) 2 2] W fun e w' => ∃ v0_ : Value, e = .returned v0_ ∧ Kd.R k45 45 w' W.heap.size (fun _ => True) v0_ (l0.take y ++ l0.drop (y + 1)) ∧ Below W.heap.size W w' := by
  have g1 := Kd.C_take (m := y) hr (by omega)
  have g2 := Kd.C_drop (m := y + 1) hr (by omega) hc
  have e1 : (l0.take y).length = y := by rw [List.length_take]; omega
  have e2 : (l0.drop (y + 1)).length = l0.length - (y + 1) := List.length_drop
  have g3 : Kd.C k45 W A2 (l0.drop (y + 1)).length (l0.drop (y + 1)) := by rw [hA2]; exact g2
  refine concat_two A0 A2 c0 (c0 - (y + 1)) (l0.take y) (l0.drop (y + 1)) ⟨g, 0, none⟩ W g1 (by omega) g3 (by omega) (by rw [e1]; exact h0) ?_ (by omega)
  rw [e2]; simpa [Addr.add] using h1
end Go.Proofs.Ytenhgmddpkiliaa.PB

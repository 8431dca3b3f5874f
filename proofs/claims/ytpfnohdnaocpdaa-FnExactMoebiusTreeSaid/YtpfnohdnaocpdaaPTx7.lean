import Derived.Test.YtpfnohdnaocpdaaPTx0
import Derived.Test.YtpfnohdnaocpdaaPTx3
import Derived.Test.YtpfnohdnaocpdaaPTx4
import Derived.Test.YtpfnohdnaocpdaaPTx5
import Derived.Test.YtpfnohdnaocpdaaPTx6
namespace Go.Proofs.Ytpfnohdnaocpdaa.PT
open Go.RowKit Go.Proofs.YtpfnohdnaocpdaaW.PrintWords Go.Proofs.YtpfnohdnaocpdaaW.PrintLast Go.Proofs.YtpfnohdnaocpdaaW.PrintMore Go.Proofs.YtpfnohdnaocpdaaRP
attribute [local go_sem] max2_int min2_int max_two min_two max_three min_three max_four min_four Go.Proofs.YtpfnohdnaocpdaaRP.max_eight Go.Proofs.YtpfnohdnaocpdaaRP.tmod_len   -- for this text's walks alone
set_option linter.unusedVariables false
set_option linter.unusedSimpArgs false
theorem z7_1_ {P : Prop} (h : P := by (with_reducible repeat (first | refine blk_drewN ?_ _ | refine blk_drew ?_ | refine blk_alloc ?_ _)); exact BK225.out) : P := h
theorem z7_2_ {P : Prop} (h : P := by repeat (first | (with_reducible first | exact HB.out | apply below_alloc | apply pw_below_drewN | apply below_drew1) | exact HB.out)) : P := h
theorem z7_3_ {P : Prop} (h : P := by (with_reducible repeat (first | refine blk_drewN ?_ _ | refine blk_drew ?_ | refine blk_alloc ?_ _)); exact BK226.out) : P := h
theorem z7_4_ {P : Prop} (h : P := by repeat (first | (with_reducible first | exact HB.out | apply below_alloc | apply pw_below_drewN | apply below_drew1 | refine below_set ?_ GE225.out | refine below_set ?_ GE226.out | refine below_set ?_ GE230.out) | exact HB.out)) : P := h
theorem z7_5_ {P : Prop} (h : P := by repeat (first | (with_reducible first | exact HB.out | apply below_alloc | apply pw_below_drewN | apply below_drew1 | refine below_set ?_ GE225.out | refine below_set ?_ GE226.out) | exact HB.out)) : P := h
theorem z7_6_ {P : Prop} (h : P := by repeat (first | (with_reducible first | exact HB.out | apply below_alloc | apply pw_below_drewN | apply below_drew1 | refine below_set ?_ GE225.out | refine below_set ?_ GE226.out | refine below_set ?_ GE230.out | refine below_set ?_ GE241.out | refine below_set ?_ GE252.out) | exact HB.out)) : P := h
theorem z7_7_ {P : Prop} (h : P := by repeat (first | (with_reducible first | exact HB.out | apply below_alloc | apply pw_below_drewN | apply below_drew1 | refine below_set ?_ GE272.out) | exact HB.out)) : P := h
theorem z7_8_ {P : Prop} (h : P := by repeat (first | (with_reducible first | exact HB.out | apply below_alloc | apply pw_below_drewN | apply below_drew1 | refine below_set ?_ GE225.out | refine below_set ?_ GE226.out | refine below_set ?_ GE230.out | refine below_set ?_ GE241.out) | exact HB.out)) : P := h
theorem z7_9_ {P : Prop} (h : P := by (with_reducible repeat (first | refine blk_drewN ?_ _ | refine blk_drew ?_ | refine blk_alloc ?_ _)); exact BK230.out) : P := h
theorem z7_10_ {P : Prop} (h : P := by (with_reducible repeat (first | refine blk_drewN ?_ _ | refine blk_drew ?_ | refine blk_alloc ?_ _)); refine blk_put (cs := #[.slice none 0 0, .slice none 0 0]) ?_ 1 _ rfl; (with_reducible repeat (first | refine blk_drewN ?_ _ | refine blk_drew ?_ | refine blk_alloc ?_ _)); refine blk_put (cs := #[.slice none 0 0, .slice none 0 0]) ?_ 0 _ rfl; (with_reducible repeat (first | refine blk_drewN ?_ _ | refine blk_drew ?_ | refine blk_alloc ?_ _)); exact BK230.out) : P := h
theorem z7_11_ {P : Prop} (h : P := by (with_reducible repeat (first | refine blk_drewN ?_ _ | refine blk_drew ?_ | refine blk_alloc ?_ _)); refine blk_far ?_ NB225_230.out _; (with_reducible repeat (first | refine blk_drewN ?_ _ | refine blk_drew ?_ | refine blk_alloc ?_ _)); refine blk_far ?_ NB225_230.out _; (with_reducible repeat (first | refine blk_drewN ?_ _ | refine blk_drew ?_ | refine blk_alloc ?_ _)); exact BK225.out) : P := h
theorem z7_12_ {P : Prop} (h : P := by (try simp only [List.map_toArray, List.map_cons, List.map_nil]); first | done | rfl | (simp only [List.length_drop, List.length_take]; rfl)) : P := h
theorem z7_13_ {P : Prop} (h : P := by repeat (first | (with_reducible first | exact HB.out | apply below_alloc | apply pw_below_drewN | apply below_drew1 | refine below_set ?_ GE266.out) | exact HB.out)) : P := h
theorem z7_14_ {P : Prop} (h : P := by repeat (first | (with_reducible first | exact HB.out | apply below_alloc | apply pw_below_drewN | apply below_drew1 | refine below_set ?_ GE225.out) | exact HB.out)) : P := h
theorem z7_15_ {P : Prop} (h : P := by (with_reducible repeat (first | refine blk_drewN ?_ _ | refine blk_drew ?_ | refine blk_alloc ?_ _)); exact BK241.out) : P := h
theorem z7_16_ {P : Prop} (h : P := by first | rfl | (simp [errW_none, errW_some] <;> rfl) | (simp [*, errW_none, errW_some] <;> rfl)) : P := h
theorem z7_17_ {P : Prop} (h : P := by (with_reducible repeat (first | apply Kd.R_alloc | apply Kd.R_drewN | apply Kd.R_drew)); exact HO_242000.out) : P := h
theorem z7_18_ {P : Prop} (h : P := by first | rfl | (simp; done) | (simp [*]; done) | (simp [isE_]; done)) : P := h
theorem z7_19_ {P : Prop} (h : P := by (with_reducible repeat (first | refine blk_drewN ?_ _ | refine blk_drew ?_ | refine blk_alloc ?_ _)); exact BK262.out) : P := h
theorem z7_20_ {P : Prop} (h : P := by (with_reducible repeat (first | refine blk_drewN ?_ _ | refine blk_drew ?_ | refine blk_alloc ?_ _)); refine blk_put (cs := #[.slice none 0 0]) ?_ 0 _ rfl; (with_reducible repeat (first | refine blk_drewN ?_ _ | refine blk_drew ?_ | refine blk_alloc ?_ _)); exact BK226.out) : P := h
theorem z7_21_ {P : Prop} (h : P := by (with_reducible repeat (first | refine blk_drewN ?_ _ | refine blk_drew ?_ | refine blk_alloc ?_ _)); exact BK272.out) : P := h
theorem z7_22_ {P : Prop} (h : P := by (with_reducible repeat (first | refine blk_drewN ?_ _ | refine blk_drew ?_ | refine blk_alloc ?_ _)); exact BK252.out) : P := h
theorem z7_23_ {P : Prop} (h : P := by (with_reducible repeat (first | apply Kd.R_alloc | apply Kd.R_drewN | apply Kd.R_drew)); exact HO229.out) : P := h
theorem z7_24_ {P : Prop} (h : P := by repeat (first | (with_reducible first | exact HB.out | apply below_alloc | apply pw_below_drewN | apply below_drew1 | refine below_set ?_ GE262.out | refine below_set ?_ GE263.out) | exact HB.out)) : P := h
theorem z7_25_ {P : Prop} (h : P := by (with_reducible repeat (first | refine blk_drewN ?_ _ | refine blk_drew ?_ | refine blk_alloc ?_ _)); refine blk_far ?_ NB226_230.out _; (with_reducible repeat (first | refine blk_drewN ?_ _ | refine blk_drew ?_ | refine blk_alloc ?_ _)); refine blk_far ?_ NB226_230.out _; (with_reducible repeat (first | refine blk_drewN ?_ _ | refine blk_drew ?_ | refine blk_alloc ?_ _)); exact BK226.out) : P := h
theorem z7_26_ {P : Prop} (h : P := by repeat (first | (with_reducible first | exact HB.out | apply below_alloc | apply pw_below_drewN | apply below_drew1 | refine below_set ?_ GE262.out) | exact HB.out)) : P := h
theorem z7_27_ {P : Prop} (h : P := by (with_reducible repeat (first | apply Kd.R_alloc | apply Kd.R_drewN | apply Kd.R_drew)); exact (Kd.R_mono (Kd.R_far (p := ⟨gb230, 1, none⟩) (Kd.R_far (p := ⟨gb230, 0, none⟩) (Kd.R_types HO229.out BK230.out (by decide)) (fun _ hk => hk.2) (.slice none 0 0)) (fun _ hk => hk.2) (.slice Ao80 y227.length co80)) (fun _ h_ => h_.1))) : P := h
theorem z7_28_ {P : Prop} (h : P := by (with_reducible repeat (first | apply Kd.R_alloc | apply Kd.R_drewN | apply Kd.R_drew)); exact (Kd.R_mono (Kd.R_far (p := ⟨gb230, 1, none⟩) (Kd.R_far (p := ⟨gb230, 0, none⟩) (Kd.R_types HO229.out BK230.out (by decide)) (fun _ hk => hk.2) (.slice none 0 0)) (fun _ hk => hk.2) (.slice Ao9 y227.length co9)) (fun _ h_ => h_.1))) : P := h
theorem z7_29_ {P : Prop} (h : P := by (with_reducible repeat (first | apply Kd.R_alloc | apply Kd.R_drewN | apply Kd.R_drew)); exact HO_231001.out) : P := h
theorem z7_30_ {P : Prop} (h : P := by (with_reducible repeat (first | apply Kd.R_alloc | apply Kd.R_drewN | apply Kd.R_drew)); exact HO_9.out) : P := h
theorem z7_31_ {P : Prop} (h : P := by (with_reducible repeat (first | apply Kd.R_alloc | apply Kd.R_drewN | apply Kd.R_drew)); exact HO_6.out) : P := h
theorem z7_32_ {P : Prop} (h : P := by first | exact Kd.R_nil _ _ _ _ _ | exact Kd.N_nil _ _ _ _ _ | exact Kd.V_nil _ _ _ _ _ | exact Kd.Q_nil _ _ _ _ _ | exact Kd.S_nil _ _ _ _ _) : P := h
theorem z7_33_ {P : Prop} (h : P := by (with_reducible repeat (first | refine blk_drewN ?_ _ | refine blk_drew ?_ | refine blk_alloc ?_ _)); refine blk_far ?_ NB230_241.out _; (with_reducible repeat (first | refine blk_drewN ?_ _ | refine blk_drew ?_ | refine blk_alloc ?_ _)); exact BK230.out) : P := h
theorem z7_34_ {P : Prop} (h : P := by (with_reducible repeat (first | refine blk_drewN ?_ _ | refine blk_drew ?_ | refine blk_alloc ?_ _)); refine blk_far ?_ NB226_241.out _; (with_reducible repeat (first | refine blk_drewN ?_ _ | refine blk_drew ?_ | refine blk_alloc ?_ _)); exact BK226.out) : P := h
theorem z7_35_ {P : Prop} (h : P := by (with_reducible repeat (first | refine blk_drewN ?_ _ | refine blk_drew ?_ | refine blk_alloc ?_ _)); refine blk_far ?_ NB225_241.out _; (with_reducible repeat (first | refine blk_drewN ?_ _ | refine blk_drew ?_ | refine blk_alloc ?_ _)); exact BK225.out) : P := h
theorem z7_36_ {P : Prop} (h : P := by (with_reducible repeat (first | refine blk_drewN ?_ _ | refine blk_drew ?_ | refine blk_alloc ?_ _)); exact BK266.out) : P := h
theorem z7_37_ {P : Prop} (h : P := by (with_reducible repeat (first | refine blk_drewN ?_ _ | refine blk_drew ?_ | refine blk_alloc ?_ _)); exact BK263.out) : P := h
/-! ### spec_MoebiusTree: function 40 -/
mutual
def spec_MoebiusTree.l0 : Nat → List (S60) → Int → List (S89) → Option ((List (S89)) × Int)
 | 0, _, _, _ => none
 | k + 1, x6, x8, x242000 => if x8 < (x6.length : Int) then (if 0 ≤ x8 then ((spec_l06Behind.f k [rd_T60 x6 x8]).bind fun bt244 => (spec_MoebiusTree.l1 k x6 x8 bt244.1 0 x242000 bt244.2.1 bt244.2.2.1 bt244.2.2.2.1 bt244.2.2.2.2.1 bt244.2.2.2.2.2)) else (none)) else (some (x242000, 0))
def spec_MoebiusTree.l1 : Nat → List (S60) → Int → List (S60) → Int → List (S89) → Int → Int → Int → Int → Int → Option ((List (S89)) × Int)
 | 0, _, _, _, _, _, _, _, _, _, _ => none
 | k + 1, x6, x8, x9, x11, x242000, x253000, x253001, x253002, x253003, x253004 => if x11 < (x9.length : Int) then (if 0 ≤ x11 then ((spec_l06State.f k x6 ((rd_T60 x9 x11).f0) ((rd_T60 x9 x11).f1) ((rd_T60 x9 x11).f2) ((rd_T60 x9 x11).f3)).bind fun bt254 => (if bt254.2 < 0 then (some (([] : List (S89)), 3)) else (if x11 < 3 then (spec_MoebiusTree.l1 k bt254.1 x8 x9 (wrap64 (x11 + 1)) x242000 x253000 x253001 (up 0 x11 bt254.2 x253002) (up 1 x11 bt254.2 x253003) (up 2 x11 bt254.2 x253004)) else (none)))) else (none)) else (if x242000.length < 17592186044416 then (spec_MoebiusTree.l0 k x6 (wrap64 (x8 + 1)) (x242000 ++ [(⟨x253000, x253001, (⟨x253002, x253003, x253004⟩ : S87)⟩ : S89)])) else (none))
end
def spec_MoebiusTree.f (k : Nat) (a0_0 : Int) (a0_1 : Int) (a0_2 : Int) (a0_3 : Int) : Option ((List (S89)) × Int) := (spec_l03Asked.f k [(⟨a0_0, a0_1, a0_2, a0_3⟩ : S60)] [(⟨([] : List Int), (([0] : List Int))⟩ : S36)] 0).bind fun t233 => (if t233 = 0 then ((spec_l03Less.f k a0_0 a0_1 a0_2 a0_3).bind fun bt234 => (spec_MoebiusTree.l0 k (([(⟨bt234.1, bt234.2.1, bt234.2.2.1, bt234.2.2.2⟩ : S60)] : List (S60))) 0 ([] : List (S89)))) else (some (([] : List (S89)), t233)))
theorem spec_MoebiusTree.mono_l : ∀ k, (∀ y0 y1 y2, LeO (spec_MoebiusTree.l0 k y0 y1 y2) (spec_MoebiusTree.l0 (k + 1) y0 y1 y2)) ∧ (∀ y0 y1 y2 y3 y4 y5 y6 y7 y8 y9, LeO (spec_MoebiusTree.l1 k y0 y1 y2 y3 y4 y5 y6 y7 y8 y9) (spec_MoebiusTree.l1 (k + 1) y0 y1 y2 y3 y4 y5 y6 y7 y8 y9))
 | 0 => ⟨fun _ _ _ r h => by simp [spec_MoebiusTree.l0] at h, fun _ _ _ _ _ _ _ _ _ _ r h => by simp [spec_MoebiusTree.l1] at h⟩
 | k + 1 => by
  obtain ⟨ih0, ih1⟩ := spec_MoebiusTree.mono_l k
  refine ⟨?_, ?_⟩
  ·
   intro y0 y1 y2
   unfold spec_MoebiusTree.l0
   repeat' first
   | (with_reducible exact ih0 _ _ _)
   | (with_reducible exact ih1 _ _ _ _ _ _ _ _ _ _)
   | (with_reducible exact spec_l03Asked.mono _ _ _ _)
   | (with_reducible exact spec_l03Less.mono _ _ _ _ _)
   | (with_reducible exact spec_l06Behind.mono _ _)
   | (with_reducible exact spec_l06State.mono _ _ _ _ _ _)
   | (with_reducible exact LeO.refl _)
   | (with_reducible exact LeO.none _)
   | (with_reducible refine LeO.ite ?_ ?_)
   | (with_reducible refine LeO.bind ?_ (fun _ => ?_))
   | exact ih0 _ _ _
   | exact ih1 _ _ _ _ _ _ _ _ _ _
   | exact LeO.none _
   | refine LeO.ite ?_ ?_
   | refine LeO.bind ?_ (fun _ => ?_)
  ·
   intro y0 y1 y2 y3 y4 y5 y6 y7 y8 y9
   unfold spec_MoebiusTree.l1
   repeat' first
   | (with_reducible exact ih0 _ _ _)
   | (with_reducible exact ih1 _ _ _ _ _ _ _ _ _ _)
   | (with_reducible exact spec_l03Asked.mono _ _ _ _)
   | (with_reducible exact spec_l03Less.mono _ _ _ _ _)
   | (with_reducible exact spec_l06Behind.mono _ _)
   | (with_reducible exact spec_l06State.mono _ _ _ _ _ _)
   | (with_reducible exact LeO.refl _)
   | (with_reducible exact LeO.none _)
   | (with_reducible refine LeO.ite ?_ ?_)
   | (with_reducible refine LeO.bind ?_ (fun _ => ?_))
   | exact ih0 _ _ _
   | exact ih1 _ _ _ _ _ _ _ _ _ _
   | exact LeO.none _
   | refine LeO.ite ?_ ?_
   | refine LeO.bind ?_ (fun _ => ?_)
theorem spec_MoebiusTree.mono : ∀ a0 a1 a2 a3 k, LeO (spec_MoebiusTree.f k a0 a1 a2 a3) (spec_MoebiusTree.f (k + 1) a0 a1 a2 a3) := by
 intro a0 a1 a2 a3 k
 obtain ⟨ih0, ih1⟩ := spec_MoebiusTree.mono_l k
 unfold spec_MoebiusTree.f
 repeat' first
   | (with_reducible exact ih0 _ _ _)
   | (with_reducible exact ih1 _ _ _ _ _ _ _ _ _ _)
   | (with_reducible exact spec_l03Asked.mono _ _ _ _)
   | (with_reducible exact spec_l03Less.mono _ _ _ _ _)
   | (with_reducible exact spec_l06Behind.mono _ _)
   | (with_reducible exact spec_l06State.mono _ _ _ _ _ _)
   | (with_reducible exact LeO.refl _)
   | (with_reducible exact LeO.none _)
   | (with_reducible refine LeO.ite ?_ ?_)
   | (with_reducible refine LeO.bind ?_ (fun _ => ?_))
   | exact ih0 _ _ _
   | exact ih1 _ _ _ _ _ _ _ _ _ _
   | exact LeO.none _
   | refine LeO.ite ?_ ?_
   | refine LeO.bind ?_ (fun _ => ?_)
set_option maxHeartbeats 8000000 in
set_option maxRecDepth 100000 in
theorem spec_MoebiusTree.calls (k : Nat) (a0_0 : Int) (a0_1 : Int) (a0_2 : Int) (a0_3 : Int) (r1 : List (S89)) (r2 : Int) (w : World) (h : spec_MoebiusTree.f k a0_0 a0_1 a0_2 a0_3 = some (r1, r2)) :
  Calls Try.prog 40 #[.agg #[.int .i64 a0_0, .int .i64 a0_1, .int .i64 a0_2, .int .i64 a0_3]] w fun e w' => ∃ v0_ : Value, e = .returned (.tuple #[.agg #[v0_], .int .i64 r2]) ∧ Kd.R k89 89 w' w.heap.size (fun _ => True) v0_ r1 ∧ Below w.heap.size w w' := by
 have hu60 := Try.underlying60
 have hu34 := Try.underlying34
 have hu36 := Try.underlying36
 have hu89 := Try.underlying89
 have HB := A_ (Below.refl w.heap.size w)
 have H : ((spec_l03Asked.f k [(⟨a0_0, a0_1, a0_2, a0_3⟩ : S60)] [(⟨([] : List Int), (([0] : List Int))⟩ : S36)] 0).bind fun t233 => (if t233 = 0 then ((spec_l03Less.f k a0_0 a0_1 a0_2 a0_3).bind fun bt234 => (spec_MoebiusTree.l0 k (([(⟨bt234.1, bt234.2.1, bt234.2.2.1, bt234.2.2.2⟩ : S60)] : List (S60))) 0 ([] : List (S89)))) else (some (([] : List (S89)), t233)))) = some (r1, r2) := h
 clear h
 obtain ⟨y227, hy227⟩ : ∃ y_ : List Int, y_ = (([0] : List Int)) := ⟨_, rfl⟩
 replace H : ((spec_l03Asked.f k [(⟨a0_0, a0_1, a0_2, a0_3⟩ : S60)] [(⟨([] : List Int), y227⟩ : S36)] 0).bind fun t233 => (if t233 = 0 then ((spec_l03Less.f k a0_0 a0_1 a0_2 a0_3).bind fun bt234 => (spec_MoebiusTree.l0 k (([(⟨bt234.1, bt234.2.1, bt234.2.2.1, bt234.2.2.2⟩ : S60)] : List (S60))) 0 ([] : List (S89)))) else (some (([] : List (S89)), t233)))) = some (r1, r2) := by first | (rw [hy227]; with_reducible exact H) | (have H2_ := (Option.bind_some _ _).symm.trans H; rw [hy227]; with_reducible exact H2_) | (have H2_ := (Option.bind_some _ _).symm.trans H; with_reducible exact H2_) | with_reducible exact H | (rw [hy227]; exact H) | exact H
 have Ny227 := A_ hy227
 clear hy227
 replace H := Option.bind_eq_some_iff.mp H
 obtain ⟨t233, A20, H⟩ := H
 try dsimp only at H
 have A2 := A_ A20
 clear A20
 by_cases c3 : t233 = 0
 ·
  rw [if_pos c3] at H
  have c3b0 := beq_iff_eq.mpr c3
  have c3b1 := bne_eq_false_iff_eq.mpr c3
  clear c3
  replace H := Option.bind_eq_some_iff.mp H
  obtain ⟨⟨t234, t235, t236, t237⟩, A40, H⟩ := H
  try dsimp only at H
  have A4 := A_ A40
  clear A40
  obtain ⟨y238, hy238⟩ : ∃ y_ : List (S60), y_ = (([(⟨t234, t235, t236, t237⟩ : S60)] : List (S60))) := ⟨_, rfl⟩
  replace H : (spec_MoebiusTree.l0 k y238 0 ([] : List (S89))) = some (r1, r2) := by first | (rw [hy238]; with_reducible exact H) | (have H2_ := (Option.bind_some _ _).symm.trans H; rw [hy238]; with_reducible exact H2_) | (have H2_ := (Option.bind_some _ _).symm.trans H; with_reducible exact H2_) | with_reducible exact H | (rw [hy238]; exact H) | exact H
  have Ny238 := A_ hy238
  clear hy238
  have H' := A_ H
  clear H
  go_enter Try.func40, Try.ntmps40
  go_wp2_with (first | ((with_reducible refine gate_dst (N := 1) rfl ?_); refine box_event ?hg (N := 1) ?hd (cs := #[.int .i64 a0_0, .int .i64 a0_1, .int .i64 a0_2, .int .i64 a0_3]) (t := 60) ?hr ?_; (case hd => rfl); (case hg => rfl); (case hr => first | (go_simp; done) | (go_simp; rfl)); intro gb225 hg w5 hbox hb; have _ := A_ (below_step z7_2_ hb); have _ := A_ (hbox); have _ := A_ ((by rw [hg]; exact (below_size z7_2_) : w.heap.size ≤ gb225)); have _ := A_ ((by rw [hg]; exact (below_size z7_2_) : w.heap.size ≤ gb225)); clear HB; rename_i HB BK225 GW225 GE225; clear hb hbox hg) | ((with_reducible refine gate_dst (N := 2) rfl ?_); refine box_event ?hg (N := 2) ?hd (cs := #[.slice none 0 0]) (t := 34) ?hr ?_; (case hd => rfl); (case hg => rfl); (case hr => first | (go_simp; done) | (go_simp; rfl)); intro gb226 hg w6 hbox hb; have _ := A_ (blk_below (g := gb225) (o := .cells #[.int .i64 a0_0, .int .i64 a0_1, .int .i64 a0_2, .int .i64 a0_3] 60 (0, 0)) z7_1_ hb); have _ := A_ (below_step z7_14_ hb); have _ := A_ (hbox); have _ := A_ ((by rw [hg]; exact (below_size z7_14_) : w.heap.size ≤ gb226)); have _ := A_ ((by rw [hg]; exact (below_size z7_14_) : w.heap.size ≤ gb226)); have _ := A_ ((by rw [hg]; exact Nat.ne_of_lt (blk_lt (g := gb225) (o := .cells #[.int .i64 a0_0, .int .i64 a0_1, .int .i64 a0_2, .int .i64 a0_3] 60 (0, 0)) z7_1_) : gb225 ≠ gb226)); have _ := A_ ((by rw [hg]; exact Nat.ne_of_gt (blk_lt (g := gb225) (o := .cells #[.int .i64 a0_0, .int .i64 a0_1, .int .i64 a0_2, .int .i64 a0_3] 60 (0, 0)) z7_1_) : gb226 ≠ gb225)); clear BK225 HB; rename_i BK225 HB BK226 GW226 GE226 NB225_226 NB226_225; clear hb hbox hg) | ((with_reducible refine gate_dst (N := 14) rfl ?_); refine Kd.R_lit (Kd.int .i8) _ 86 ?hg (N := 14) ?hd (xs := ([0] : List Int)) (inner := [.int .i8 0]) (ok := fun _ => True) (okp := fun _ => True) ?hr ?hp (fun _ hk => hk) trivial (Below.refl _ _) (Nat.le_refl _) (by simp) ?_; (case hd => rfl); (case hg => rfl); (case hr => first | (go_simp; done) | (go_simp; rfl)); (case hp => exact (Reps.one (show Kd.M (Kd.int .i8) _ _ _ 0 [.int .i8 0] from rfl) (Reps.none _ _))); intro v228 w7 ho8 hb hg_ hnew_; clear hg_ hnew_; (first | rw [← Ny227.out] at ho8 | (simp only [Int.reduceToNat] at ho8; rw [← Ny227.out] at ho8)); have _ := A_ (Kd.R_lower ho8 (below_size z7_5_)); have _ := A_ (blk_below (g := gb225) (o := .cells #[.int .i64 a0_0, .int .i64 a0_1, .int .i64 a0_2, .int .i64 a0_3] 60 (0, 0)) z7_1_ hb); have _ := A_ (blk_below (g := gb226) (o := .cells #[.slice none 0 0] 34 (0, 0)) z7_3_ hb); have _ := A_ (below_step z7_5_ hb); clear BK225 BK226 HB; rename_i HO229 BK225 BK226 HB; clear hb ho8; obtain ⟨Ao9, co9, eo9⟩ := Kd.R_slice HO229.out; subst eo9) | ((with_reducible refine gate_dst (N := 4) rfl ?_); refine box_event ?hg (N := 4) ?hd (cs := #[.slice none 0 0, .slice none 0 0]) (t := 36) ?hr ?_; (case hd => rfl); (case hg => rfl); (case hr => first | (go_simp; done) | (go_simp; rfl)); intro gb230 hg w10 hbox hb; have _ := A_ (Kd.R_below z7_23_ hb); have _ := A_ (blk_below (g := gb225) (o := .cells #[.int .i64 a0_0, .int .i64 a0_1, .int .i64 a0_2, .int .i64 a0_3] 60 (0, 0)) z7_1_ hb); have _ := A_ (blk_below (g := gb226) (o := .cells #[.slice none 0 0] 34 (0, 0)) z7_3_ hb); have _ := A_ (below_step z7_5_ hb); have _ := A_ (hbox); have _ := A_ ((by rw [hg]; exact (below_size z7_5_) : w.heap.size ≤ gb230)); have _ := A_ ((by rw [hg]; exact (below_size z7_5_) : w.heap.size ≤ gb230)); have _ := A_ ((by rw [hg]; exact Nat.ne_of_lt (blk_lt (g := gb225) (o := .cells #[.int .i64 a0_0, .int .i64 a0_1, .int .i64 a0_2, .int .i64 a0_3] 60 (0, 0)) z7_1_) : gb225 ≠ gb230)); have _ := A_ ((by rw [hg]; exact Nat.ne_of_gt (blk_lt (g := gb225) (o := .cells #[.int .i64 a0_0, .int .i64 a0_1, .int .i64 a0_2, .int .i64 a0_3] 60 (0, 0)) z7_1_) : gb230 ≠ gb225)); have _ := A_ ((by rw [hg]; exact Nat.ne_of_lt (blk_lt (g := gb226) (o := .cells #[.slice none 0 0] 34 (0, 0)) z7_3_) : gb226 ≠ gb230)); have _ := A_ ((by rw [hg]; exact Nat.ne_of_gt (blk_lt (g := gb226) (o := .cells #[.slice none 0 0] 34 (0, 0)) z7_3_) : gb230 ≠ gb226)); clear HO229 BK225 BK226 HB; rename_i HO229 BK225 BK226 HB BK230 GW230 GE230 NB225_230 NB230_225 NB226_230 NB230_226; clear hb hbox hg; have hnb11 := NB230_225.out; have hnc11 := NB225_230.out; have hnb12 := NB230_226.out; have hnc12 := NB226_230.out; obtain ⟨hcz13_0, hcz13_1⟩ := bc2 BK230.out; obtain ⟨hfz13_0, hfz13_1⟩ := bf2 BK230.out) | ((with_reducible refine gate_callee (f := 81) rfl ?_); refine goesL_ (some 16) rfl rfl Try.func81 (by kernel_rfl) rfl #[.pointer (some ⟨gb225, 0, none⟩), .pointer (some ⟨gb230, 0, none⟩), .int .i64 0] rfl z7_12_ ?_; (with_reducible refine (spec_l03Asked.calls k _ ([(⟨a0_0, a0_1, a0_2, a0_3⟩ : S60)]).length [(⟨a0_0, a0_1, a0_2, a0_3⟩ : S60)] _ ([(⟨([] : List Int), y227⟩ : S36)]).length [(⟨([] : List Int), y227⟩ : S36)] 0 t233 _ ?side1 ?side2 ?side3 ?side4 A2.out).mono ?_); (case side1 => refine Kd.C_block k60 (g := gb225) (cs := #[.int .i64 a0_0, .int .i64 a0_1, .int .i64 a0_2, .int .i64 a0_3]) (T := 60) z7_11_ (show Kd.K k60 _ (⟨a0_0, a0_1, a0_2, a0_3⟩ : S60) [.int .i64 a0_0, .int .i64 a0_1, .int .i64 a0_2, .int .i64 a0_3] from k60_mk _ _) (by decide)); (case side2 => exact Nat.le_refl _); (case side3 => refine Kd.C_block k36 (g := gb230) (cs := #[.slice none 0 0, .slice Ao9 y227.length co9]) (T := 36) z7_10_ (show Kd.K k36 _ (⟨([] : List Int), y227⟩ : S36) [.slice none 0 0, .slice Ao9 y227.length co9] from k36_mk _ _ (by exact Nat.le_refl _) (by exact Kd.C_nil _ _) (by exact (Kd.R_reads' HO229.out).2.1) (by refine (Kd.R_reads' (e := 86) (base := w.heap.size) (ok := fun k_ => True) (n := y227.length) (c := co9) ?_).2.2; exact z7_28_)) (by decide)); (case side4 => exact Nat.le_refl _); rintro e w14 ⟨rfl, hb⟩; refine ⟨_, rfl, ?_⟩; have _ := A_ (Kd.R_below z7_28_ hb); have _ := A_ (blk_below (g := gb225) (o := .cells #[.int .i64 a0_0, .int .i64 a0_1, .int .i64 a0_2, .int .i64 a0_3] 60 (0, 0)) z7_11_ hb); have _ := A_ (blk_below (g := gb226) (o := .cells #[.slice none 0 0] 34 (0, 0)) z7_25_ hb); have _ := A_ (blk_below (g := gb230) (o := .cells #[.slice none 0 0, .slice Ao9 y227.length co9] 36 (0, 0)) z7_10_ hb); have _ := A_ (below_step z7_4_ hb); clear HO229 BK225 BK226 BK230 HB; rename_i HO229 BK225 BK226 BK230 HB; (try clear hb); have hnb15 := NB225_226.out; have hnc15 := NB226_225.out; obtain ⟨hcz16_0, hcz16_1, hcz16_2, hcz16_3⟩ := bc4 BK225.out; obtain ⟨hfz16_0, hfz16_1, hfz16_2, hfz16_3⟩ := bf4 BK225.out) | ((with_reducible refine gate_callee (f := 82) rfl ?_); refine goesL_ (some 22) rfl rfl Try.func82 (by kernel_rfl) rfl #[.agg #[.int .i64 a0_0, .int .i64 a0_1, .int .i64 a0_2, .int .i64 a0_3]] rfl z7_12_ ?_; (with_reducible refine (spec_l03Less.calls k a0_0 a0_1 a0_2 a0_3 t234 t235 t236 t237 _ A4.out).mono ?_); rintro e w17 ⟨rfl, hb⟩; refine ⟨_, rfl, ?_⟩; have _ := A_ (Kd.R_below z7_23_ hb); have _ := A_ (blk_below (g := gb225) (o := .cells #[.int .i64 a0_0, .int .i64 a0_1, .int .i64 a0_2, .int .i64 a0_3] 60 (0, 0)) z7_1_ hb); have _ := A_ (blk_below (g := gb226) (o := .cells #[.slice none 0 0] 34 (0, 0)) z7_3_ hb); have _ := A_ (blk_below (g := gb230) (o := .cells #[.slice none 0 0, .slice Ao9 y227.length co9] 36 (0, 0)) z7_9_ hb); have _ := A_ (below_step z7_4_ hb); clear HO229 BK225 BK226 BK230 HB; rename_i HO229 BK225 BK226 BK230 HB; (try clear hb)) | ((with_reducible refine gate_dst (N := 23) rfl ?_); refine Kd.R_lit k60 _ 60 ?hg (N := 23) ?hd (xs := ([(⟨t234, t235, t236, t237⟩ : S60)] : List (S60))) (inner := [.int .i64 t234, .int .i64 t235, .int .i64 t236, .int .i64 t237]) (ok := fun _ => True) (okp := fun _ => True) ?hr ?hp (fun _ hk => hk) trivial (Below.refl _ _) (Nat.le_refl _) (by simp) ?_; (case hd => rfl); (case hg => rfl); (case hr => first | (go_simp; done) | (go_simp; rfl)); (case hp => exact (Reps.c4 (show Kd.M k60 _ _ _ (⟨t234, t235, t236, t237⟩ : S60) [.int .i64 t234, .int .i64 t235, .int .i64 t236, .int .i64 t237] from (k60_mkM _ _ _ (⟨t234, t235, t236, t237⟩ : S60) )) (Reps.none _ _))); intro v239 w18 ho19 hb hg_ hnew_; clear hg_ hnew_; (first | rw [← Ny238.out] at ho19 | (simp only [Int.reduceToNat] at ho19; rw [← Ny238.out] at ho19)); have _ := A_ (Kd.R_below z7_23_ hb); have _ := A_ (Kd.R_lower (Kd.R_newB ho19 (g := gb225) (o := .cells #[.int .i64 a0_0, .int .i64 a0_1, .int .i64 a0_2, .int .i64 a0_3] 60 (0, 0)) z7_1_) (below_size z7_4_)); have _ := A_ (blk_below (g := gb225) (o := .cells #[.int .i64 a0_0, .int .i64 a0_1, .int .i64 a0_2, .int .i64 a0_3] 60 (0, 0)) z7_1_ hb); have _ := A_ (blk_below (g := gb226) (o := .cells #[.slice none 0 0] 34 (0, 0)) z7_3_ hb); have _ := A_ (blk_below (g := gb230) (o := .cells #[.slice none 0 0, .slice Ao9 y227.length co9] 36 (0, 0)) z7_9_ hb); have _ := A_ (below_step z7_4_ hb); clear HO229 BK225 BK226 BK230 HB; rename_i HO229 HO240 BK225 BK226 BK230 HB; clear hb ho19) | ((with_reducible refine gate_dst (N := 7) rfl ?_); refine box_event ?hg (N := 7) ?hd (cs := #[.slice none 0 0]) (t := 34) ?hr ?_; (case hd => rfl); (case hg => rfl); (case hr => first | (go_simp; done) | (go_simp; rfl)); intro gb241 hg w20 hbox hb; have _ := A_ (Kd.R_below z7_23_ hb); have _ := A_ (Kd.R_below (by (with_reducible repeat (first | apply Kd.R_alloc | apply Kd.R_drewN | apply Kd.R_drew)); exact HO240.out) hb); have _ := A_ (blk_below (g := gb225) (o := .cells #[.int .i64 a0_0, .int .i64 a0_1, .int .i64 a0_2, .int .i64 a0_3] 60 (0, 0)) z7_1_ hb); have _ := A_ (blk_below (g := gb226) (o := .cells #[.slice none 0 0] 34 (0, 0)) z7_3_ hb); have _ := A_ (blk_below (g := gb230) (o := .cells #[.slice none 0 0, .slice Ao9 y227.length co9] 36 (0, 0)) z7_9_ hb); have _ := A_ (below_step z7_4_ hb); have _ := A_ (hbox); have _ := A_ ((by rw [hg]; exact (below_size z7_4_) : w.heap.size ≤ gb241)); have _ := A_ ((by rw [hg]; exact (below_size z7_4_) : w.heap.size ≤ gb241)); have _ := A_ ((by rw [hg]; exact Nat.ne_of_lt (blk_lt (g := gb225) (o := .cells #[.int .i64 a0_0, .int .i64 a0_1, .int .i64 a0_2, .int .i64 a0_3] 60 (0, 0)) z7_1_) : gb225 ≠ gb241)); have _ := A_ ((by rw [hg]; exact Nat.ne_of_gt (blk_lt (g := gb225) (o := .cells #[.int .i64 a0_0, .int .i64 a0_1, .int .i64 a0_2, .int .i64 a0_3] 60 (0, 0)) z7_1_) : gb241 ≠ gb225)); have _ := A_ ((by rw [hg]; exact Nat.ne_of_lt (blk_lt (g := gb226) (o := .cells #[.slice none 0 0] 34 (0, 0)) z7_3_) : gb226 ≠ gb241)); have _ := A_ ((by rw [hg]; exact Nat.ne_of_gt (blk_lt (g := gb226) (o := .cells #[.slice none 0 0] 34 (0, 0)) z7_3_) : gb241 ≠ gb226)); have _ := A_ ((by rw [hg]; exact Nat.ne_of_lt (blk_lt (g := gb230) (o := .cells #[.slice none 0 0, .slice Ao9 y227.length co9] 36 (0, 0)) z7_9_) : gb230 ≠ gb241)); have _ := A_ ((by rw [hg]; exact Nat.ne_of_gt (blk_lt (g := gb230) (o := .cells #[.slice none 0 0, .slice Ao9 y227.length co9] 36 (0, 0)) z7_9_) : gb241 ≠ gb230)); clear HO229 HO240 BK225 BK226 BK230 HB; rename_i HO229 HO240 BK225 BK226 BK230 HB BK241 GW241 GE241 NB225_241 NB241_225 NB226_241 NB241_226 NB230_241 NB241_230; clear hb hbox hg; have hnb21 := NB241_225.out; have hnc21 := NB225_241.out; have hnb22 := NB241_226.out; have hnc22 := NB226_241.out; have hnb23 := NB241_230.out; have hnc23 := NB230_241.out; have hcz24_0 : w20.cell? ⟨gb241, 0, none⟩ = some (.slice none 0 0) := (blk_cell BK241.out 0).trans rfl; have hfz24_0 := blk_frozen BK241.out 0))
  go_loopg [6, 8] k (fun kq v6 v8 w' => ∃ (x6_1 : List (S60)) (x8_1 : Int) (x242000_1 : List (S89)) (u242000 : Value), v8 = .int .i64 x8_1 ∧ Aside0 (spec_MoebiusTree.l0 kq x6_1 x8_1 x242000_1 = some (r1, r2)) ∧ Aside0 (kq ≤ k) ∧ Aside0 (Kd.R k60 60 w' w.heap.size (fun k_ => k_ ≠ gb225) v6 x6_1) ∧ Aside0 (Kd.R (Kd.int .i8) 86 w' w.heap.size (fun _ => True) (.slice Ao9 y227.length co9) y227) ∧ Aside0 (Kd.R k89 89 w' w.heap.size (fun _ => True) u242000 x242000_1) ∧ Aside0 (w'.heap[gb225]? = some (.cells #[.int .i64 a0_0, .int .i64 a0_1, .int .i64 a0_2, .int .i64 a0_3] 60 (0, 0))) ∧ Aside0 (w'.heap[gb226]? = some (.cells #[(.slice none 0 0)] 34 (0, 0))) ∧ Aside0 (w'.heap[gb230]? = some (.cells #[(.slice none 0 0), (.slice Ao9 y227.length co9)] 36 (0, 0))) ∧ Aside0 (w'.heap[gb241]? = some (.cells #[u242000] 34 (0, 0))) ∧ Aside0 (Below w.heap.size w w'))
  case atStart => exact ⟨(y238), (0), (([] : List (S89))), (.slice none 0 0), z7_18_, H', ⟨Nat.le_refl _⟩, ⟨(by (with_reducible repeat (first | apply Kd.R_alloc | apply Kd.R_drewN | apply Kd.R_drew)); exact Kd.R_mono (Kd.R_far (p := ⟨gb241, 0, none⟩) (Kd.R_types HO240.out BK241.out (by decide)) (fun _ hk => hk.2) (.slice none 0 0)) (fun _ hk => hk.1.2))⟩, ⟨(by (with_reducible repeat (first | apply Kd.R_alloc | apply Kd.R_drewN | apply Kd.R_drew)); exact Kd.R_mono (Kd.R_far (p := ⟨gb241, 0, none⟩) (Kd.R_types HO229.out BK241.out (by decide)) (fun _ hk => hk.2) (.slice none 0 0)) (fun _ hk => trivial))⟩, ⟨z7_32_⟩, ⟨z7_35_⟩, ⟨z7_34_⟩, ⟨z7_33_⟩, ⟨(by (with_reducible repeat (first | refine blk_drewN ?_ _ | refine blk_drew ?_ | refine blk_alloc ?_ _)); refine blk_put (cs := #[.slice none 0 0]) ?_ 0 _ rfl; (with_reducible repeat (first | refine blk_drewN ?_ _ | refine blk_drew ?_ | refine blk_alloc ?_ _)); exact BK241.out)⟩, ⟨z7_8_⟩⟩
  case round =>
   clear H'
   try clear c1
   try clear c2
   try clear p2
   try clear c3
   try clear c3b0
   try clear c3b1
   try clear c4
   try clear c8
   try clear c11
   try clear c12
   try clear c15
   try clear c21
   try clear c22
   try clear c23
   try clear hcz13_0
   try clear hcz13_1
   try clear hcz16_0
   try clear hcz16_1
   try clear hcz16_2
   try clear hcz16_3
   try clear hcz24_0
   try clear hfz13_0
   try clear hfz13_1
   try clear hfz16_0
   try clear hfz16_1
   try clear hfz16_2
   try clear hfz16_3
   try clear hfz24_0
   obtain ⟨x6_1, x8_1, x242000_1, u242000, rfl, HA, HK1, HO_6, HO_231001, HO_242000, BK225, BK226, BK230, BK241, HB⟩ := hrel
   cases gk with
   | zero => exact absurd HA.out (by simp [spec_MoebiusTree.l0])
   | succ k1 =>
    have H := HA.out
    clear HA
    simp only [spec_MoebiusTree.l0] at H
    by_cases c25 : x8_1 < (x6_1.length : Int)
    ·
     rw [if_pos c25] at H
     have c25b0 := decide_eq_true c25
     clear c25
     by_cases c26 : 0 ≤ x8_1
     ·
      rw [if_pos c26] at H
      have c26b0 := decide_eq_true c26
      clear c26
      replace H := Option.bind_eq_some_iff.mp H
      obtain ⟨⟨t244, t247, t248, t249, t250, t251⟩, A270, H⟩ := H
      try dsimp only at H
      have A27 := A_ A270
      clear A270
      have H' := A_ H
      clear H
      obtain ⟨Ao28, co28, eo28⟩ := Kd.R_slice HO_6.out
      subst eo28
      have p242 : 0 ≤ (x8_1 : Int) := of_decide_eq_true (by assumption)
      have q242 : x8_1 < (x6_1.length : Int) := of_decide_eq_true (by assumption)
      obtain ⟨ad242, e242, hx242_0, hx242_1, hx242_2, hx242_3⟩ := at_T60 (Kd.R_reads' HO_6.out).2.2 x8_1 p242 q242
      cases e242
      replace p242 := eq_true p242
      replace q242 := eq_true q242
      go_wp2_with (first | ((with_reducible refine gate_callee (f := 83) rfl ?_); refine goesL_ (some 35) rfl rfl Try.func83 (by kernel_rfl) rfl #[.pointer (some (Addr.add ad242 (x8_1.toNat * 4)))] rfl z7_12_ ?_; (with_reducible refine (spec_l06Behind.calls k1 _ ([rd_T60 x6_1 x8_1]).length [rd_T60 x6_1 x8_1] t244 t247 t248 t249 t250 t251 _ ?side1 ?side2 A27.out).mono ?_); (case side1 => refine Kd.C_el k60 z60 ?_ (x8_1 : Int) (of_eq_true p242) (of_eq_true q242); repeat (first | exact (Kd.R_reads' HO_6.out).2.2 | (with_reducible refine Kd.C_alloc ?_ _) | (with_reducible refine Kd.C_drewN ?_ _) | (with_reducible refine Kd.C_drew ?_))); (case side2 => exact Nat.le_refl _); rintro e w29 ⟨v245, rfl, ho0, hb⟩; refine ⟨_, rfl, ?_⟩; have _ := A_ (Kd.R_elder' z7_31_ (Kd.R_base ho0) hb); have _ := A_ (Kd.R_below z7_29_ hb); have _ := A_ (Kd.R_below z7_17_ hb); have _ := A_ (Kd.R_lower (Kd.R_newB (Kd.R_new' ho0 (Kd.R_lt z7_31_)) (g := gb225) (o := .cells #[.int .i64 a0_0, .int .i64 a0_1, .int .i64 a0_2, .int .i64 a0_3] 60 (0, 0)) z7_1_) (below_size z7_8_)); have _ := A_ (blk_below (g := gb225) (o := .cells #[.int .i64 a0_0, .int .i64 a0_1, .int .i64 a0_2, .int .i64 a0_3] 60 (0, 0)) z7_1_ hb); have _ := A_ (blk_below (g := gb226) (o := .cells #[.slice none 0 0] 34 (0, 0)) z7_3_ hb); have _ := A_ (blk_below (g := gb230) (o := .cells #[.slice none 0 0, .slice Ao9 y227.length co9] 36 (0, 0)) z7_9_ hb); have _ := A_ (blk_below (g := gb241) (o := .cells #[u242000] 34 (0, 0)) z7_15_ hb); have _ := A_ (below_step z7_8_ hb); clear HO_6 HO_231001 HO_242000 BK225 BK226 BK230 BK241 HB; rename_i HO_6 HO_231001 HO_242000 HO246 BK225 BK226 BK230 BK241 HB; (try clear hb); (try clear ho0)) | ((with_reducible refine gate_dst (N := 10) rfl ?_); refine box_event ?hg (N := 10) ?hd (cs := #[.int .i8 0, .int .i8 0, .int .i16 0, .int .i16 0, .int .i16 0]) (t := 89) ?hr ?_; (case hd => rfl); (case hg => rfl); (case hr => first | (go_simp; done) | (go_simp; rfl)); intro gb252 hg w30 hbox hb; have _ := A_ (Kd.R_below z7_31_ hb); have _ := A_ (Kd.R_below z7_29_ hb); have _ := A_ (Kd.R_below (Kd.R_elderB z7_17_ gb252 (Nat.le_of_eq hg.symm)) hb); have _ := A_ (Kd.R_below (by (with_reducible repeat (first | apply Kd.R_alloc | apply Kd.R_drewN | apply Kd.R_drew)); exact HO246.out) hb); have _ := A_ (blk_below (g := gb225) (o := .cells #[.int .i64 a0_0, .int .i64 a0_1, .int .i64 a0_2, .int .i64 a0_3] 60 (0, 0)) z7_1_ hb); have _ := A_ (blk_below (g := gb226) (o := .cells #[.slice none 0 0] 34 (0, 0)) z7_3_ hb); have _ := A_ (blk_below (g := gb230) (o := .cells #[.slice none 0 0, .slice Ao9 y227.length co9] 36 (0, 0)) z7_9_ hb); have _ := A_ (blk_below (g := gb241) (o := .cells #[u242000] 34 (0, 0)) z7_15_ hb); have _ := A_ (below_step z7_8_ hb); have _ := A_ (hbox); have _ := A_ ((by rw [hg]; exact (below_size z7_8_) : w.heap.size ≤ gb252)); have _ := A_ ((by rw [hg]; exact (below_size z7_8_) : w.heap.size ≤ gb252)); have _ := A_ ((by rw [hg]; exact Nat.ne_of_lt (blk_lt (g := gb225) (o := .cells #[.int .i64 a0_0, .int .i64 a0_1, .int .i64 a0_2, .int .i64 a0_3] 60 (0, 0)) z7_1_) : gb225 ≠ gb252)); have _ := A_ ((by rw [hg]; exact Nat.ne_of_gt (blk_lt (g := gb225) (o := .cells #[.int .i64 a0_0, .int .i64 a0_1, .int .i64 a0_2, .int .i64 a0_3] 60 (0, 0)) z7_1_) : gb252 ≠ gb225)); have _ := A_ ((by rw [hg]; exact Nat.ne_of_lt (blk_lt (g := gb226) (o := .cells #[.slice none 0 0] 34 (0, 0)) z7_3_) : gb226 ≠ gb252)); have _ := A_ ((by rw [hg]; exact Nat.ne_of_gt (blk_lt (g := gb226) (o := .cells #[.slice none 0 0] 34 (0, 0)) z7_3_) : gb252 ≠ gb226)); have _ := A_ ((by rw [hg]; exact Nat.ne_of_lt (blk_lt (g := gb230) (o := .cells #[.slice none 0 0, .slice Ao9 y227.length co9] 36 (0, 0)) z7_9_) : gb230 ≠ gb252)); have _ := A_ ((by rw [hg]; exact Nat.ne_of_gt (blk_lt (g := gb230) (o := .cells #[.slice none 0 0, .slice Ao9 y227.length co9] 36 (0, 0)) z7_9_) : gb252 ≠ gb230)); have _ := A_ ((by rw [hg]; exact Nat.ne_of_lt (blk_lt (g := gb241) (o := .cells #[u242000] 34 (0, 0)) z7_15_) : gb241 ≠ gb252)); have _ := A_ ((by rw [hg]; exact Nat.ne_of_gt (blk_lt (g := gb241) (o := .cells #[u242000] 34 (0, 0)) z7_15_) : gb252 ≠ gb241)); clear HO_6 HO_231001 HO_242000 HO246 BK225 BK226 BK230 BK241 HB; rename_i HO_6 HO_231001 HO_242000 HO246 BK225 BK226 BK230 BK241 HB BK252 GW252 GE252 NB225_252 NB252_225 NB226_252 NB252_226 NB230_252 NB252_230 NB241_252 NB252_241; clear hb hbox hg; have hnb31 := NB252_225.out; have hnc31 := NB225_252.out; have hnb32 := NB252_226.out; have hnc32 := NB226_252.out; have hnb33 := NB252_230.out; have hnc33 := NB230_252.out; have hnb34 := NB252_241.out; have hnc34 := NB241_252.out; obtain ⟨hcz35_0, hcz35_1, hcz35_2, hcz35_3, hcz35_4⟩ := bc5 BK252.out; obtain ⟨hfz35_0, hfz35_1, hfz35_2, hfz35_3, hfz35_4⟩ := bf5 BK252.out))
      go_loopg [6, 11] k1 (fun kq v6 v11 w' => ∃ (x6_2 : List (S60)) (x11_2 : Int) (x253002_2 : Int) (x253003_2 : Int) (x253004_2 : Int), v11 = .int .i64 x11_2 ∧ Aside0 (spec_MoebiusTree.l1 kq x6_2 x8_1 t244 x11_2 x242000_1 t247 t248 x253002_2 x253003_2 x253004_2 = some (r1, r2)) ∧ Aside0 (kq ≤ k1) ∧ Aside0 (Kd.R k60 60 w' w.heap.size (fun k_ => some k_ ≠ (v245 : Value).ownBlock ∧ k_ ≠ gb225) v6 x6_2) ∧ Aside0 (Kd.R k60 60 w' w.heap.size (fun k_ => some k_ ≠ (v6 : Value).ownBlock ∧ k_ ≠ gb225) v245 t244) ∧ Aside0 (Kd.R (Kd.int .i8) 86 w' w.heap.size (fun _ => True) (.slice Ao9 y227.length co9) y227) ∧ Aside0 (Kd.R k89 89 w' w.heap.size (fun k_ => k_ ≠ gb252) u242000 x242000_1) ∧ Aside0 (w'.heap[gb225]? = some (.cells #[.int .i64 a0_0, .int .i64 a0_1, .int .i64 a0_2, .int .i64 a0_3] 60 (0, 0))) ∧ Aside0 (w'.heap[gb226]? = some (.cells #[(.slice none 0 0)] 34 (0, 0))) ∧ Aside0 (w'.heap[gb230]? = some (.cells #[(.slice none 0 0), (.slice Ao9 y227.length co9)] 36 (0, 0))) ∧ Aside0 (w'.heap[gb241]? = some (.cells #[u242000] 34 (0, 0))) ∧ Aside0 (w'.heap[gb252]? = some (.cells #[.int .i8 t247, .int .i8 t248, .int .i16 x253002_2, .int .i16 x253003_2, .int .i16 x253004_2] 89 (0, 0))) ∧ Aside0 (Below w.heap.size w w'))
      case atStart => exact ⟨(x6_1), (0), (t249), (t250), (t251), z7_18_, H', ⟨Nat.le_refl _⟩, ⟨(by (with_reducible repeat (first | apply Kd.R_alloc | apply Kd.R_drewN | apply Kd.R_drew)); exact Kd.R_mono (Kd.R_far (p := ⟨gb252, 4, none⟩) (Kd.R_far (p := ⟨gb252, 3, none⟩) (Kd.R_far (p := ⟨gb252, 2, none⟩) (Kd.R_far (p := ⟨gb252, 1, none⟩) (Kd.R_far (p := ⟨gb252, 0, none⟩) (Kd.R_types HO_6.out BK252.out (by decide)) (fun _ hk => hk.2) (.int .i8 t247)) (fun _ hk => hk.2) (.int .i8 t248)) (fun _ hk => hk.2) (.int .i16 t249)) (fun _ hk => hk.2) (.int .i16 t250)) (fun _ hk => hk.2) (.int .i16 t251)) (fun _ hk => ⟨hk.1.2, hk.1.1⟩))⟩, ⟨(by (with_reducible repeat (first | apply Kd.R_alloc | apply Kd.R_drewN | apply Kd.R_drew)); exact Kd.R_mono (Kd.R_far (p := ⟨gb252, 4, none⟩) (Kd.R_far (p := ⟨gb252, 3, none⟩) (Kd.R_far (p := ⟨gb252, 2, none⟩) (Kd.R_far (p := ⟨gb252, 1, none⟩) (Kd.R_far (p := ⟨gb252, 0, none⟩) (Kd.R_types HO246.out BK252.out (by decide)) (fun _ hk => hk.2) (.int .i8 t247)) (fun _ hk => hk.2) (.int .i8 t248)) (fun _ hk => hk.2) (.int .i16 t249)) (fun _ hk => hk.2) (.int .i16 t250)) (fun _ hk => hk.2) (.int .i16 t251)) (fun _ hk => ⟨hk.1.1.2, hk.1.2⟩))⟩, ⟨(by (with_reducible repeat (first | apply Kd.R_alloc | apply Kd.R_drewN | apply Kd.R_drew)); exact Kd.R_mono (Kd.R_far (p := ⟨gb252, 4, none⟩) (Kd.R_far (p := ⟨gb252, 3, none⟩) (Kd.R_far (p := ⟨gb252, 2, none⟩) (Kd.R_far (p := ⟨gb252, 1, none⟩) (Kd.R_far (p := ⟨gb252, 0, none⟩) (Kd.R_types HO_231001.out BK252.out (by decide)) (fun _ hk => hk.2) (.int .i8 t247)) (fun _ hk => hk.2) (.int .i8 t248)) (fun _ hk => hk.2) (.int .i16 t249)) (fun _ hk => hk.2) (.int .i16 t250)) (fun _ hk => hk.2) (.int .i16 t251)) (fun _ hk => trivial))⟩, ⟨(by (with_reducible repeat (first | apply Kd.R_alloc | apply Kd.R_drewN | apply Kd.R_drew)); exact Kd.R_mono (Kd.R_far (p := ⟨gb252, 4, none⟩) (Kd.R_far (p := ⟨gb252, 3, none⟩) (Kd.R_far (p := ⟨gb252, 2, none⟩) (Kd.R_far (p := ⟨gb252, 1, none⟩) (Kd.R_far (p := ⟨gb252, 0, none⟩) (Kd.R_mono HO_242000.out (fun k_ hk => (⟨hk, hk.2⟩ : _ ∧ k_ ≠ gb252))) (fun _ hk => hk.2) (.int .i8 t247)) (fun _ hk => hk.2) (.int .i8 t248)) (fun _ hk => hk.2) (.int .i16 t249)) (fun _ hk => hk.2) (.int .i16 t250)) (fun _ hk => hk.2) (.int .i16 t251)) (fun _ hk => hk.1.2))⟩, ⟨(by (with_reducible repeat (first | refine blk_drewN ?_ _ | refine blk_drew ?_ | refine blk_alloc ?_ _)); refine blk_far ?_ NB225_252.out _; (with_reducible repeat (first | refine blk_drewN ?_ _ | refine blk_drew ?_ | refine blk_alloc ?_ _)); refine blk_far ?_ NB225_252.out _; (with_reducible repeat (first | refine blk_drewN ?_ _ | refine blk_drew ?_ | refine blk_alloc ?_ _)); refine blk_far ?_ NB225_252.out _; (with_reducible repeat (first | refine blk_drewN ?_ _ | refine blk_drew ?_ | refine blk_alloc ?_ _)); refine blk_far ?_ NB225_252.out _; (with_reducible repeat (first | refine blk_drewN ?_ _ | refine blk_drew ?_ | refine blk_alloc ?_ _)); refine blk_far ?_ NB225_252.out _; (with_reducible repeat (first | refine blk_drewN ?_ _ | refine blk_drew ?_ | refine blk_alloc ?_ _)); exact BK225.out)⟩, ⟨(by (with_reducible repeat (first | refine blk_drewN ?_ _ | refine blk_drew ?_ | refine blk_alloc ?_ _)); refine blk_far ?_ NB226_252.out _; (with_reducible repeat (first | refine blk_drewN ?_ _ | refine blk_drew ?_ | refine blk_alloc ?_ _)); refine blk_far ?_ NB226_252.out _; (with_reducible repeat (first | refine blk_drewN ?_ _ | refine blk_drew ?_ | refine blk_alloc ?_ _)); refine blk_far ?_ NB226_252.out _; (with_reducible repeat (first | refine blk_drewN ?_ _ | refine blk_drew ?_ | refine blk_alloc ?_ _)); refine blk_far ?_ NB226_252.out _; (with_reducible repeat (first | refine blk_drewN ?_ _ | refine blk_drew ?_ | refine blk_alloc ?_ _)); refine blk_far ?_ NB226_252.out _; (with_reducible repeat (first | refine blk_drewN ?_ _ | refine blk_drew ?_ | refine blk_alloc ?_ _)); exact BK226.out)⟩, ⟨(by (with_reducible repeat (first | refine blk_drewN ?_ _ | refine blk_drew ?_ | refine blk_alloc ?_ _)); refine blk_far ?_ NB230_252.out _; (with_reducible repeat (first | refine blk_drewN ?_ _ | refine blk_drew ?_ | refine blk_alloc ?_ _)); refine blk_far ?_ NB230_252.out _; (with_reducible repeat (first | refine blk_drewN ?_ _ | refine blk_drew ?_ | refine blk_alloc ?_ _)); refine blk_far ?_ NB230_252.out _; (with_reducible repeat (first | refine blk_drewN ?_ _ | refine blk_drew ?_ | refine blk_alloc ?_ _)); refine blk_far ?_ NB230_252.out _; (with_reducible repeat (first | refine blk_drewN ?_ _ | refine blk_drew ?_ | refine blk_alloc ?_ _)); refine blk_far ?_ NB230_252.out _; (with_reducible repeat (first | refine blk_drewN ?_ _ | refine blk_drew ?_ | refine blk_alloc ?_ _)); exact BK230.out)⟩, ⟨(by (with_reducible repeat (first | refine blk_drewN ?_ _ | refine blk_drew ?_ | refine blk_alloc ?_ _)); refine blk_far ?_ NB241_252.out _; (with_reducible repeat (first | refine blk_drewN ?_ _ | refine blk_drew ?_ | refine blk_alloc ?_ _)); refine blk_far ?_ NB241_252.out _; (with_reducible repeat (first | refine blk_drewN ?_ _ | refine blk_drew ?_ | refine blk_alloc ?_ _)); refine blk_far ?_ NB241_252.out _; (with_reducible repeat (first | refine blk_drewN ?_ _ | refine blk_drew ?_ | refine blk_alloc ?_ _)); refine blk_far ?_ NB241_252.out _; (with_reducible repeat (first | refine blk_drewN ?_ _ | refine blk_drew ?_ | refine blk_alloc ?_ _)); refine blk_far ?_ NB241_252.out _; (with_reducible repeat (first | refine blk_drewN ?_ _ | refine blk_drew ?_ | refine blk_alloc ?_ _)); exact BK241.out)⟩, ⟨(by (with_reducible repeat (first | refine blk_drewN ?_ _ | refine blk_drew ?_ | refine blk_alloc ?_ _)); refine blk_put (cs := #[.int .i8 t247, .int .i8 t248, .int .i16 t249, .int .i16 t250, .int .i16 0]) ?_ 4 _ rfl; (with_reducible repeat (first | refine blk_drewN ?_ _ | refine blk_drew ?_ | refine blk_alloc ?_ _)); refine blk_put (cs := #[.int .i8 t247, .int .i8 t248, .int .i16 t249, .int .i16 0, .int .i16 0]) ?_ 3 _ rfl; (with_reducible repeat (first | refine blk_drewN ?_ _ | refine blk_drew ?_ | refine blk_alloc ?_ _)); refine blk_put (cs := #[.int .i8 t247, .int .i8 t248, .int .i16 0, .int .i16 0, .int .i16 0]) ?_ 2 _ rfl; (with_reducible repeat (first | refine blk_drewN ?_ _ | refine blk_drew ?_ | refine blk_alloc ?_ _)); refine blk_put (cs := #[.int .i8 t247, .int .i8 0, .int .i16 0, .int .i16 0, .int .i16 0]) ?_ 1 _ rfl; (with_reducible repeat (first | refine blk_drewN ?_ _ | refine blk_drew ?_ | refine blk_alloc ?_ _)); refine blk_put (cs := #[.int .i8 0, .int .i8 0, .int .i16 0, .int .i16 0, .int .i16 0]) ?_ 0 _ rfl; (with_reducible repeat (first | refine blk_drewN ?_ _ | refine blk_drew ?_ | refine blk_alloc ?_ _)); exact BK252.out)⟩, ⟨z7_6_⟩⟩
      case round =>
       clear H'
       try clear c1
       try clear c2
       try clear p2
       try clear q2
       try clear hx2
       try clear c3
       try clear c3b0
       try clear c3b1
       try clear c4
       try clear c8
       try clear c11
       try clear c12
       try clear c15
       try clear c21
       try clear c22
       try clear c23
       try clear p24
       try clear q24
       try clear hx24
       try clear c25
       try clear c25b0
       try clear c26
       try clear c26b0
       try clear c31
       try clear c32
       try clear c33
       try clear c34
       try clear hcz13_0
       try clear hcz13_1
       try clear hcz16_0
       try clear hcz16_1
       try clear hcz16_2
       try clear hcz16_3
       try clear hcz24_0
       try clear hcz35_0
       try clear hcz35_1
       try clear hcz35_2
       try clear hcz35_3
       try clear hcz35_4
       try clear hfz13_0
       try clear hfz13_1
       try clear hfz16_0
       try clear hfz16_1
       try clear hfz16_2
       try clear hfz16_3
       try clear hfz24_0
       try clear hfz35_0
       try clear hfz35_1
       try clear hfz35_2
       try clear hfz35_3
       try clear hfz35_4
       try clear hx242_0
       try clear hx242_1
       try clear hx242_2
       try clear hx242_3
       try clear p2
       try clear p242
       try clear q242
       obtain ⟨x6_2, x11_2, x253002_2, x253003_2, x253004_2, rfl, HA, HK2, HO_6, HO_9, HO_231001, HO_242000, BK225, BK226, BK230, BK241, BK252, HB⟩ := hrel
       cases gk with
       | zero => exact absurd HA.out (by simp [spec_MoebiusTree.l1])
       | succ k2 =>
        have H := HA.out
        clear HA
        simp only [spec_MoebiusTree.l1] at H
        by_cases c36 : x11_2 < (t244.length : Int)
        ·
         rw [if_pos c36] at H
         have c36b0 := decide_eq_true c36
         clear c36
         by_cases c37 : 0 ≤ x11_2
         ·
          rw [if_pos c37] at H
          have c37b0 := decide_eq_true c37
          clear c37
          replace H := Option.bind_eq_some_iff.mp H
          obtain ⟨⟨t254, t257⟩, A380, H⟩ := H
          try dsimp only at H
          have A38 := A_ A380
          clear A380
          by_cases c39 : t257 < 0
          ·
           rw [if_pos c39] at H
           have c39b0 := decide_eq_true c39
           clear c39
           simp only [Option.some.injEq, Prod.mk.injEq] at H
           obtain ⟨rfl, rfl⟩ := H
           obtain ⟨Ao40, co40, eo40⟩ := Kd.R_slice HO_9.out
           subst eo40
           have p253 : 0 ≤ (x11_2 : Int) := of_decide_eq_true (by assumption)
           have q253 : x11_2 < (t244.length : Int) := of_decide_eq_true (by assumption)
           obtain ⟨ad253, e253, hx253_0, hx253_1, hx253_2, hx253_3⟩ := at_T60 (Kd.R_reads' HO_9.out).2.2 x11_2 p253 q253
           cases e253
           replace p253 := eq_true p253
           replace q253 := eq_true q253
           obtain ⟨Ao41, co41, eo41⟩ := Kd.R_slice HO_6.out
           subst eo41
           go_wp2_with (first | ((with_reducible refine gate_callee (f := 84) rfl ?_); refine goesL_ (some 50) rfl rfl Try.func84 (by kernel_rfl) rfl #[.slice Ao41 x6_2.length co41, .agg #[.int .i64 ((rd_T60 t244 x11_2).f0), .int .i64 ((rd_T60 t244 x11_2).f1), .int .i64 ((rd_T60 t244 x11_2).f2), .int .i64 ((rd_T60 t244 x11_2).f3)]] rfl z7_12_ ?_; (with_reducible refine (spec_l06State.calls k2 (fun k_ => some k_ = (.slice Ao41 x6_2.length co41 : Value).ownBlock) (.slice Ao41 x6_2.length co41) x6_2 ((rd_T60 t244 x11_2).f0) ((rd_T60 t244 x11_2).f1) ((rd_T60 t244 x11_2).f2) ((rd_T60 t244 x11_2).f3) t254 t257 w _ ?side1 ?side2 A38.out).mono ?_); (case side1 => repeat (first | (with_reducible first | exact HB.out | apply below_alloc | apply pw_below_drewN | apply below_drew1 | refine below_set ?_ GE225.out | refine below_set ?_ GE226.out | refine below_set ?_ GE230.out | refine below_set ?_ GE241.out | refine below_set ?_ GE252.out) | exact HB.out)); (case side2 => exact Kd.R_tight rfl HO_6.out); rintro e w42 ⟨v255, rfl, ho0, hb, hkp⟩; refine ⟨_, rfl, ?_⟩; have _ := A_ (Kd.R_mono (ok' := fun k_ => k_ ≠ gb225 ∧ some k_ ≠ (v255 : Value).ownBlock) (Kd.R_keptB (HO_9.out) hkp (fun k_ hk_ hs_ => (hk_.1) hs_)) (fun k_ hk_ => ⟨hk_.1.2, fun e_ => Or.elim (ho0.1 k_ e_.symm) (fun hs_ => hk_.2.1 hs_) (fun hn_ => Nat.not_le.2 hk_.2.2 hn_)⟩)); have _ := A_ (Kd.R_mono (ok' := fun k_ => True) (Kd.R_keptB ((Kd.R_apart' HO_231001.out (Kd.R_typed HO_6.out) (by decide))) hkp (fun k_ hk_ hs_ => (hk_.2) hs_)) (fun k_ hk_ => trivial)); have _ := A_ (Kd.R_mono (ok' := fun k_ => k_ ≠ gb252) (Kd.R_keptB ((Kd.R_apart' HO_242000.out (Kd.R_typed HO_6.out) (by decide))) hkp (fun k_ hk_ hs_ => (hk_.2) hs_)) (fun k_ hk_ => hk_.1.1)); have _ := A_ (blk_kept z7_1_ hkp (fun hs_ => (fun e_ => (Kd.R_away HO_6.out (fun _ hk => hk.2)) e_) hs_)); have _ := A_ (blk_kept z7_3_ hkp (fun hs_ => (fun e_ => (Kd.R_ne HO_6.out BK226.out (by decide)) e_) hs_)); have _ := A_ (blk_kept z7_9_ hkp (fun hs_ => (fun e_ => (Kd.R_ne HO_6.out BK230.out (by decide)) e_) hs_)); have _ := A_ (blk_kept z7_15_ hkp (fun hs_ => (fun e_ => (Kd.R_ne HO_6.out BK241.out (by decide)) e_) hs_)); have _ := A_ (blk_kept z7_22_ hkp (fun hs_ => (fun e_ => (Kd.R_ne HO_6.out BK252.out (by decide)) e_) hs_)); have _ := A_ (Kd.R_mono (ok' := fun k_ => some k_ ≠ (.slice (some ad253) t244.length co40 : Value).ownBlock ∧ k_ ≠ gb225) ho0 (fun k_ hk_ => ⟨Or.elim hk_ (fun hs_ => fun e_ => (((HO_9.out).1 k_ e_.symm).1) hs_) (fun hn_ => (Kd.fresh' (Kd.R_lt z7_30_) k_ hn_)), Or.elim hk_ (fun hs_ => fun e_ => (Kd.R_away HO_6.out (fun _ hk => hk.2)) (by rw [← e_]; exact hs_)) (fun hn_ => (Kd.freshB (g := gb225) (o := .cells #[.int .i64 a0_0, .int .i64 a0_1, .int .i64 a0_2, .int .i64 a0_3] 60 (0, 0)) z7_1_ k_ hn_))⟩)); have _ := A_ (hb); clear HO_9 HO_231001 HO_242000 BK225 BK226 BK230 BK241 BK252 HB HO_6; rename_i HO_9 HO_231001 HO_242000 BK225 BK226 BK230 BK241 BK252 HO256 HB; (try clear hb); (try clear hkp); (try clear ho0); have hnb43 := NB226_225.out; have hnc43 := NB225_226.out; have hnb44 := NB226_230.out; have hnc44 := NB230_226.out; have hnb45 := NB226_241.out; have hnc45 := NB241_226.out; have hnb46 := NB226_252.out; have hnc46 := NB252_226.out; have hcz47_0 : w42.cell? ⟨gb226, 0, none⟩ = some (.slice none 0 0) := (blk_cell BK226.out 0).trans rfl; have hfz47_0 := blk_frozen BK226.out 0))
           refine bodyPost_ret (results_ct rfl _ _ gb226 34 #[.slice none 0 0] (0, 0) _ rfl z7_20_ Try.underlying34 rfl (by kernel_rfl)) rfl ?_
           exact ⟨_, z7_16_, z7_32_, z7_6_⟩
          ·
           rw [if_neg c39] at H
           have c39b0 := decide_eq_false c39
           clear c39
           by_cases c48 : x11_2 < 3
           ·
            rw [if_pos c48] at H
            have c48b0 := decide_eq_true c48
            clear c48
            have H' := A_ H
            clear H
            obtain ⟨Ao49, co49, eo49⟩ := Kd.R_slice HO_9.out
            subst eo49
            have p253 : 0 ≤ (x11_2 : Int) := of_decide_eq_true (by assumption)
            have q253 : x11_2 < (t244.length : Int) := of_decide_eq_true (by assumption)
            obtain ⟨ad253, e253, hx253_0, hx253_1, hx253_2, hx253_3⟩ := at_T60 (Kd.R_reads' HO_9.out).2.2 x11_2 p253 q253
            cases e253
            replace p253 := eq_true p253
            replace q253 := eq_true q253
            obtain ⟨Ao50, co50, eo50⟩ := Kd.R_slice HO_6.out
            subst eo50
            go_wp2_with (first | ((with_reducible refine gate_callee (f := 84) rfl ?_); refine goesL_ (some 50) rfl rfl Try.func84 (by kernel_rfl) rfl #[.slice Ao50 x6_2.length co50, .agg #[.int .i64 ((rd_T60 t244 x11_2).f0), .int .i64 ((rd_T60 t244 x11_2).f1), .int .i64 ((rd_T60 t244 x11_2).f2), .int .i64 ((rd_T60 t244 x11_2).f3)]] rfl z7_12_ ?_; (with_reducible refine (spec_l06State.calls k2 (fun k_ => some k_ = (.slice Ao50 x6_2.length co50 : Value).ownBlock) (.slice Ao50 x6_2.length co50) x6_2 ((rd_T60 t244 x11_2).f0) ((rd_T60 t244 x11_2).f1) ((rd_T60 t244 x11_2).f2) ((rd_T60 t244 x11_2).f3) t254 t257 w _ ?side1 ?side2 A38.out).mono ?_); (case side1 => repeat (first | (with_reducible first | exact HB.out | apply below_alloc | apply pw_below_drewN | apply below_drew1 | refine below_set ?_ GE225.out | refine below_set ?_ GE226.out | refine below_set ?_ GE230.out | refine below_set ?_ GE241.out | refine below_set ?_ GE252.out) | exact HB.out)); (case side2 => exact Kd.R_tight rfl HO_6.out); rintro e w51 ⟨v255, rfl, ho0, hb, hkp⟩; refine ⟨_, rfl, ?_⟩; have _ := A_ (Kd.R_mono (ok' := fun k_ => k_ ≠ gb225 ∧ some k_ ≠ (v255 : Value).ownBlock) (Kd.R_keptB (HO_9.out) hkp (fun k_ hk_ hs_ => (hk_.1) hs_)) (fun k_ hk_ => ⟨hk_.1.2, fun e_ => Or.elim (ho0.1 k_ e_.symm) (fun hs_ => hk_.2.1 hs_) (fun hn_ => Nat.not_le.2 hk_.2.2 hn_)⟩)); have _ := A_ (Kd.R_mono (ok' := fun k_ => True) (Kd.R_keptB ((Kd.R_apart' HO_231001.out (Kd.R_typed HO_6.out) (by decide))) hkp (fun k_ hk_ hs_ => (hk_.2) hs_)) (fun k_ hk_ => trivial)); have _ := A_ (Kd.R_mono (ok' := fun k_ => k_ ≠ gb252) (Kd.R_keptB ((Kd.R_apart' HO_242000.out (Kd.R_typed HO_6.out) (by decide))) hkp (fun k_ hk_ hs_ => (hk_.2) hs_)) (fun k_ hk_ => hk_.1.1)); have _ := A_ (blk_kept z7_1_ hkp (fun hs_ => (fun e_ => (Kd.R_away HO_6.out (fun _ hk => hk.2)) e_) hs_)); have _ := A_ (blk_kept z7_3_ hkp (fun hs_ => (fun e_ => (Kd.R_ne HO_6.out BK226.out (by decide)) e_) hs_)); have _ := A_ (blk_kept z7_9_ hkp (fun hs_ => (fun e_ => (Kd.R_ne HO_6.out BK230.out (by decide)) e_) hs_)); have _ := A_ (blk_kept z7_15_ hkp (fun hs_ => (fun e_ => (Kd.R_ne HO_6.out BK241.out (by decide)) e_) hs_)); have _ := A_ (blk_kept z7_22_ hkp (fun hs_ => (fun e_ => (Kd.R_ne HO_6.out BK252.out (by decide)) e_) hs_)); have _ := A_ (Kd.R_mono (ok' := fun k_ => some k_ ≠ (.slice (some ad253) t244.length co49 : Value).ownBlock ∧ k_ ≠ gb225) ho0 (fun k_ hk_ => ⟨Or.elim hk_ (fun hs_ => fun e_ => (((HO_9.out).1 k_ e_.symm).1) hs_) (fun hn_ => (Kd.fresh' (Kd.R_lt z7_30_) k_ hn_)), Or.elim hk_ (fun hs_ => fun e_ => (Kd.R_away HO_6.out (fun _ hk => hk.2)) (by rw [← e_]; exact hs_)) (fun hn_ => (Kd.freshB (g := gb225) (o := .cells #[.int .i64 a0_0, .int .i64 a0_1, .int .i64 a0_2, .int .i64 a0_3] 60 (0, 0)) z7_1_ k_ hn_))⟩)); have _ := A_ (hb); clear HO_9 HO_231001 HO_242000 BK225 BK226 BK230 BK241 BK252 HB HO_6; rename_i HO_9 HO_231001 HO_242000 BK225 BK226 BK230 BK241 BK252 HO256 HB; (try clear hb); (try clear hkp); (try clear ho0); have p258 : 0 ≤ (x11_2 : Int) := of_decide_eq_true (by assumption); have q258 : (x11_2 : Int) < 3 := of_decide_eq_true (by assumption); have hx258_0 := blk_arr (xs := [x253002_2, x253003_2, x253004_2]) (k := .i16) BK252.out 2 rfl x11_2 p258 q258; have hf258_0 := blk_frozen BK252.out (2 + (x11_2 : Int).toNat); have hcs258 := A_ (show (x11_2 : Int) = 0 ∨ (x11_2 : Int) = 1 ∨ (x11_2 : Int) = 2 by omega); (try simp only [Nat.zero_add] at hx258_0); (try simp only [Nat.zero_add] at hf258_0); replace p258 := eq_true p258; replace q258 := eq_true q258) | ((with_reducible refine gate_store (t := 85) (p := 60) rfl ?_); refine store_event (t := 85) (p := 60) (v := ?vo_w52) (w1 := (w51.setCell ⟨gb252, 2 + (x11_2 : Int).toNat, none⟩ (.int .i16 t257))) ?hg ?ho ?hn ?hr ?_; (case ho => rfl); (case hg => rfl); (case hn => rfl); (case hr => first | (go_simp; done) | (go_simp; rfl)); intro w52 hw; have n0_ : Aside0 (Kd.R k60 60 w52 w.heap.size (fun k_ => some k_ ≠ (v255 : Value).ownBlock ∧ k_ ≠ gb225) (.slice (some ad253) t244.length co49) t244) := ⟨(by rw [hw]; exact (by (with_reducible repeat (first | apply Kd.R_alloc | apply Kd.R_drewN | apply Kd.R_drew)); exact Kd.R_mono (Kd.R_far (p := ⟨gb252, 2 + (x11_2 : Int).toNat, none⟩) (Kd.R_types HO_9.out BK252.out (by decide)) (fun _ hk => hk.2) (.int .i16 t257)) (fun _ hk => ⟨hk.1.2, hk.1.1⟩)))⟩; have n1_ : Aside0 (Kd.R (Kd.int .i8) 86 w52 w.heap.size (fun _ => True) (.slice Ao9 y227.length co9) y227) := ⟨(by rw [hw]; exact (by (with_reducible repeat (first | apply Kd.R_alloc | apply Kd.R_drewN | apply Kd.R_drew)); exact Kd.R_mono (Kd.R_far (p := ⟨gb252, 2 + (x11_2 : Int).toNat, none⟩) (Kd.R_types HO_231001.out BK252.out (by decide)) (fun _ hk => hk.2) (.int .i16 t257)) (fun _ hk => trivial)))⟩; have n2_ : Aside0 (Kd.R k89 89 w52 w.heap.size (fun k_ => k_ ≠ gb252) u242000 x242000_1) := ⟨(by rw [hw]; exact (by (with_reducible repeat (first | apply Kd.R_alloc | apply Kd.R_drewN | apply Kd.R_drew)); exact Kd.R_mono (Kd.R_far (p := ⟨gb252, 2 + (x11_2 : Int).toNat, none⟩) (Kd.R_mono HO_242000.out (fun k_ hk => (⟨hk, hk⟩ : _ ∧ k_ ≠ gb252))) (fun _ hk => hk.2) (.int .i16 t257)) (fun _ hk => hk.1)))⟩; have n3_ : Aside0 (Kd.R k60 60 w52 w.heap.size (fun k_ => some k_ ≠ (.slice (some ad253) t244.length co49 : Value).ownBlock ∧ k_ ≠ gb225) v255 t254) := ⟨(by rw [hw]; exact (by (with_reducible repeat (first | apply Kd.R_alloc | apply Kd.R_drewN | apply Kd.R_drew)); exact Kd.R_mono (Kd.R_far (p := ⟨gb252, 2 + (x11_2 : Int).toNat, none⟩) (Kd.R_types HO256.out BK252.out (by decide)) (fun _ hk => hk.2) (.int .i16 t257)) (fun _ hk => ⟨hk.1.1, hk.1.2⟩)))⟩; have n4_ : Aside0 (w52.heap[gb225]? = some (.cells #[.int .i64 a0_0, .int .i64 a0_1, .int .i64 a0_2, .int .i64 a0_3] 60 (0, 0))) := ⟨(by rw [hw]; exact (by (with_reducible repeat (first | refine blk_drewN ?_ _ | refine blk_drew ?_ | refine blk_alloc ?_ _)); refine blk_far ?_ NB225_252.out _; (with_reducible repeat (first | refine blk_drewN ?_ _ | refine blk_drew ?_ | refine blk_alloc ?_ _)); exact BK225.out))⟩; have n5_ : Aside0 (w52.heap[gb226]? = some (.cells #[.slice none 0 0] 34 (0, 0))) := ⟨(by rw [hw]; exact (by (with_reducible repeat (first | refine blk_drewN ?_ _ | refine blk_drew ?_ | refine blk_alloc ?_ _)); refine blk_far ?_ NB226_252.out _; (with_reducible repeat (first | refine blk_drewN ?_ _ | refine blk_drew ?_ | refine blk_alloc ?_ _)); exact BK226.out))⟩; have n6_ : Aside0 (w52.heap[gb230]? = some (.cells #[.slice none 0 0, .slice Ao9 y227.length co9] 36 (0, 0))) := ⟨(by rw [hw]; exact (by (with_reducible repeat (first | refine blk_drewN ?_ _ | refine blk_drew ?_ | refine blk_alloc ?_ _)); refine blk_far ?_ NB230_252.out _; (with_reducible repeat (first | refine blk_drewN ?_ _ | refine blk_drew ?_ | refine blk_alloc ?_ _)); exact BK230.out))⟩; have n7_ : Aside0 (w52.heap[gb241]? = some (.cells #[u242000] 34 (0, 0))) := ⟨(by rw [hw]; exact (by (with_reducible repeat (first | refine blk_drewN ?_ _ | refine blk_drew ?_ | refine blk_alloc ?_ _)); refine blk_far ?_ NB241_252.out _; (with_reducible repeat (first | refine blk_drewN ?_ _ | refine blk_drew ?_ | refine blk_alloc ?_ _)); exact BK241.out))⟩; have n8_ : Aside0 (w52.heap[gb252]? = some (.cells #[.int .i8 t247, .int .i8 t248, .int .i16 (up 0 x11_2 t257 x253002_2), .int .i16 (up 1 x11_2 t257 x253003_2), .int .i16 (up 2 x11_2 t257 x253004_2)] 89 (0, 0))) := ⟨(by rw [hw]; exact (by (with_reducible repeat (first | refine blk_drewN ?_ _ | refine blk_drew ?_ | refine blk_alloc ?_ _)); refine blk_put (cs := #[.int .i8 t247, .int .i8 t248, .int .i16 x253002_2, .int .i16 x253003_2, .int .i16 x253004_2]) ?_ (2 + (x11_2 : Int).toNat) _ (by rcases hcs258.out with h_ | h_ | h_ <;> rw [h_] <;> rfl); (with_reducible repeat (first | refine blk_drewN ?_ _ | refine blk_drew ?_ | refine blk_alloc ?_ _)); exact BK252.out))⟩; have n9_ : Aside0 (Below w.heap.size w w52) := ⟨(by rw [hw]; exact z7_6_)⟩; clear hw; clear HO_9; clear HO_231001; clear HO_242000; clear HO256; clear BK225; clear BK226; clear BK230; clear BK241; clear BK252; clear HB; have HO_9 := n0_; have HO_231001 := n1_; have HO_242000 := n2_; have HO256 := n3_; have BK225 := n4_; have BK226 := n5_; have BK230 := n6_; have BK241 := n7_; have BK252 := n8_; have HB := n9_; clear n0_ n1_ n2_ n3_ n4_ n5_ n6_ n7_ n8_ n9_))
            go_roundg k2
            case measure => have := HK1.out; have := HK2.out; omega
            case rel => exact ⟨(t254), (wrap64 (x11_2 + 1)), (up 0 x11_2 t257 x253002_2), (up 1 x11_2 t257 x253003_2), (up 2 x11_2 t257 x253004_2), z7_18_, H', ⟨(by have := HK1.out; have := HK2.out; omega)⟩, ⟨(by (with_reducible repeat (first | apply Kd.R_alloc | apply Kd.R_drewN | apply Kd.R_drew)); exact HO256.out)⟩, ⟨z7_30_⟩, ⟨z7_29_⟩, ⟨z7_17_⟩, ⟨z7_1_⟩, ⟨z7_3_⟩, ⟨z7_9_⟩, ⟨z7_15_⟩, ⟨z7_22_⟩, ⟨z7_6_⟩⟩
           ·
            rw [if_neg c48] at H
            exact absurd H (by simp)
         ·
          rw [if_neg c37] at H
          exact absurd H (by simp)
        ·
         rw [if_neg c36] at H
         have c36b0 := decide_eq_false c36
         clear c36
         by_cases c53 : x242000_1.length < 17592186044416
         ·
          rw [if_pos c53] at H
          have LMc53 := A_ c53
          clear c53
          obtain ⟨y259, hy259⟩ : ∃ y_ : List (S89), y_ = (x242000_1 ++ [(⟨t247, t248, (⟨x253002_2, x253003_2, x253004_2⟩ : S87)⟩ : S89)]) := ⟨_, rfl⟩
          replace H : (spec_MoebiusTree.l0 k2 x6_2 (wrap64 (x8_1 + 1)) y259) = some (r1, r2) := by first | (rw [hy259]; with_reducible exact H) | (have H2_ := (Option.bind_some _ _).symm.trans H; rw [hy259]; with_reducible exact H2_) | (have H2_ := (Option.bind_some _ _).symm.trans H; with_reducible exact H2_) | with_reducible exact H | (rw [hy259]; exact H) | exact H
          have Ny259 := A_ hy259
          clear hy259
          have H' := A_ H
          clear H
          obtain ⟨Ao54, co54, eo54⟩ := Kd.R_slice HO_9.out
          subst eo54
          have hnb55 := NB241_225.out
          have hnc55 := NB225_241.out
          have hnb56 := NB241_226.out
          have hnc56 := NB226_241.out
          have hnb57 := NB241_230.out
          have hnc57 := NB230_241.out
          have hnb58 := NB241_252.out
          have hnc58 := NB252_241.out
          have hcz59_0 : wr.cell? ⟨gb241, 0, none⟩ = some (u242000) := (blk_cell BK241.out 0).trans rfl
          have hfz59_0 := blk_frozen BK241.out 0
          have hnb60 := NB252_225.out
          have hnc60 := NB225_252.out
          have hnb61 := NB252_226.out
          have hnc61 := NB226_252.out
          have hnb62 := NB252_230.out
          have hnc62 := NB230_252.out
          obtain ⟨hcz63_0, hcz63_1, hcz63_2, hcz63_3, hcz63_4⟩ := bc5 BK252.out
          obtain ⟨hfz63_0, hfz63_1, hfz63_2, hfz63_3, hfz63_4⟩ := bf5 BK252.out
          go_wp2_with (first | ((with_reducible refine gate_builtin (b := .append) (xs := #[.tmp 62, .tmp 64]) rfl ?_); at_builtin; refine Kd.R_append k89 (w0 := w) w.heap.size rfl (.tmp 62) (.tmp 64) 32 89 (.agg #[(.int .i8 0), (.int .i8 0), (.int .i16 0), (.int .i16 0), (.int .i16 0)]) 8 rfl Try.underlying32 info89 rfl (by decide) (by omega) u242000 x242000_1 (⟨t247, t248, (⟨x253002_2, x253003_2, x253004_2⟩ : S87)⟩ : S89) [.int .i8 t247, .int .i8 t248, .int .i16 x253002_2, .int .i16 x253003_2, .int .i16 x253004_2] (fun k_ => k_ ≠ gb252) (fun _ => False) rfl rfl ?aP (fun _ hk => hk.elim) ?aF ?aO ?aB ?aS ?aL ?_; (case aP => exact k89_mkM _ _ _ (⟨t247, t248, (⟨x253002_2, x253003_2, x253004_2⟩ : S87)⟩ : S89)); (case aB => exact z7_6_); (case aF => exact (fun k_ hk => Kd.freshB (g := gb252) (o := .cells #[.int .i8 t247, .int .i8 t248, .int .i16 x253002_2, .int .i16 x253003_2, .int .i16 x253004_2] 89 (0, 0)) z7_22_ k_ hk)); (case aO => exact z7_17_); (case aS => exact (below_size z7_6_)); (case aL => have := LMc53.out; omega); intro v260 w64 ho hb hg hat; rw [← Ny259.out] at ho; have _ := A_ (Kd.R_over' z7_31_ (Kd.R_typed z7_17_) (by decide) hg); have _ := A_ (Kd.R_over' z7_30_ (Kd.R_typed z7_17_) (by decide) hg); have _ := A_ (Kd.R_over' z7_29_ (Kd.R_typed z7_17_) (by decide) hg); have _ := A_ (blk_grown (g := gb225) (o := .cells #[.int .i64 a0_0, .int .i64 a0_1, .int .i64 a0_2, .int .i64 a0_3] 60 (0, 0)) z7_1_ hg (Kd.R_ne HO_242000.out BK225.out (by decide))); have _ := A_ (blk_grown (g := gb226) (o := .cells #[.slice none 0 0] 34 (0, 0)) z7_3_ hg (Kd.R_ne HO_242000.out BK226.out (by decide))); have _ := A_ (blk_grown (g := gb230) (o := .cells #[.slice none 0 0, .slice Ao9 y227.length co9] 36 (0, 0)) z7_9_ hg (Kd.R_ne HO_242000.out BK230.out (by decide))); have _ := A_ (blk_grown (g := gb241) (o := .cells #[u242000] 34 (0, 0)) z7_15_ hg (Kd.R_ne HO_242000.out BK241.out (by decide))); have _ := A_ (blk_grown (g := gb252) (o := .cells #[.int .i8 t247, .int .i8 t248, .int .i16 x253002_2, .int .i16 x253003_2, .int .i16 x253004_2] 89 (0, 0)) z7_22_ hg (Kd.R_away HO_242000.out (fun _ hk => hk))); have _ := A_ (hb); have _ := A_ (ho); clear HO_6 HO_9 HO_231001 BK225 BK226 BK230 BK241 BK252 HB HO_242000; rename_i HO_6 HO_9 HO_231001 BK225 BK226 BK230 BK241 BK252 HB HO261; clear ho hb hg hat; obtain ⟨Ao65, co65, eo65⟩ := Kd.R_slice HO261.out; subst eo65; have hcz66_0 : w64.cell? ⟨gb241, 0, none⟩ = some (u242000) := (blk_cell BK241.out 0).trans rfl; have hfz66_0 := blk_frozen BK241.out 0))
          go_roundg k2
          case measure => have := HK1.out; have := HK2.out; omega
          case rel => exact ⟨(x6_2), (wrap64 (x8_1 + 1)), (y259), (.slice Ao65 y259.length co65), z7_18_, H', ⟨(by have := HK1.out; have := HK2.out; omega)⟩, ⟨(by (with_reducible repeat (first | apply Kd.R_alloc | apply Kd.R_drewN | apply Kd.R_drew)); exact Kd.R_mono (Kd.R_far (p := ⟨gb241, 0, none⟩) (Kd.R_types HO_6.out BK241.out (by decide)) (fun _ hk => hk.2) (.slice Ao65 y259.length co65)) (fun _ hk => hk.1.2))⟩, ⟨(by (with_reducible repeat (first | apply Kd.R_alloc | apply Kd.R_drewN | apply Kd.R_drew)); exact Kd.R_mono (Kd.R_far (p := ⟨gb241, 0, none⟩) (Kd.R_types HO_231001.out BK241.out (by decide)) (fun _ hk => hk.2) (.slice Ao65 y259.length co65)) (fun _ hk => trivial))⟩, ⟨(by (with_reducible repeat (first | apply Kd.R_alloc | apply Kd.R_drewN | apply Kd.R_drew)); exact Kd.R_mono (Kd.R_far (p := ⟨gb241, 0, none⟩) (Kd.R_types HO261.out BK241.out (by decide)) (fun _ hk => hk.2) (.slice Ao65 y259.length co65)) (fun _ hk => trivial))⟩, ⟨z7_35_⟩, ⟨z7_34_⟩, ⟨z7_33_⟩, ⟨(by (with_reducible repeat (first | refine blk_drewN ?_ _ | refine blk_drew ?_ | refine blk_alloc ?_ _)); refine blk_put (cs := #[u242000]) ?_ 0 _ rfl; (with_reducible repeat (first | refine blk_drewN ?_ _ | refine blk_drew ?_ | refine blk_alloc ?_ _)); exact BK241.out)⟩, ⟨z7_6_⟩⟩
         ·
          rw [if_neg c53] at H
          exact absurd H (by simp)
     ·
      rw [if_neg c26] at H
      exact absurd H (by simp)
    ·
     rw [if_neg c25] at H
     have c25b0 := decide_eq_false c25
     clear c25
     simp only [Option.some.injEq, Prod.mk.injEq] at H
     obtain ⟨rfl, rfl⟩ := H
     obtain ⟨Ao67, co67, eo67⟩ := Kd.R_slice HO_6.out
     subst eo67
     have hnb68 := NB241_225.out
     have hnc68 := NB225_241.out
     have hnb69 := NB241_226.out
     have hnc69 := NB226_241.out
     have hnb70 := NB241_230.out
     have hnc70 := NB230_241.out
     have hcz71_0 : wr.cell? ⟨gb241, 0, none⟩ = some (u242000) := (blk_cell BK241.out 0).trans rfl
     have hfz71_0 := blk_frozen BK241.out 0
     obtain ⟨Ao72, co72, eo72⟩ := Kd.R_slice HO_242000.out
     subst eo72
     have hnb73 := NB226_225.out
     have hnc73 := NB225_226.out
     have hnb74 := NB226_230.out
     have hnc74 := NB230_226.out
     have hcz75_0 : wr.cell? ⟨gb226, 0, none⟩ = some (.slice none 0 0) := (blk_cell BK226.out 0).trans rfl
     have hfz75_0 := blk_frozen BK226.out 0
     go_wp2
     refine bodyPost_ret (results_ct rfl _ _ gb226 34 #[.slice Ao72 x242000_1.length co72] (0, 0) _ rfl z7_20_ Try.underlying34 rfl (by kernel_rfl)) rfl ?_
     exact ⟨_, z7_16_, (by (with_reducible repeat (first | apply Kd.R_alloc | apply Kd.R_drewN | apply Kd.R_drew)); exact Kd.R_mono (Kd.R_far (p := ⟨gb226, 0, none⟩) (Kd.R_types HO_242000.out BK226.out (by decide)) (fun _ hk => hk.2) (.slice Ao72 x242000_1.length co72)) (fun _ hk => trivial)), z7_8_⟩
 ·
  rw [if_neg c3] at H
  have c3b0 : (t233 == 0) = false := beq_eq_false_iff_ne.mpr c3
  have c3b1 : (t233 != 0) = true := bne_iff_ne.mpr c3
  simp only [Option.some.injEq, Prod.mk.injEq] at H
  obtain ⟨rfl, rfl⟩ := H
  go_enter Try.func40, Try.ntmps40
  go_wp2_with (first | ((with_reducible refine gate_dst (N := 1) rfl ?_); refine box_event ?hg (N := 1) ?hd (cs := #[.int .i64 a0_0, .int .i64 a0_1, .int .i64 a0_2, .int .i64 a0_3]) (t := 60) ?hr ?_; (case hd => rfl); (case hg => rfl); (case hr => first | (go_simp; done) | (go_simp; rfl)); intro gb225 hg w76 hbox hb; have _ := A_ (below_step z7_2_ hb); have _ := A_ (hbox); have _ := A_ ((by rw [hg]; exact (below_size z7_2_) : w.heap.size ≤ gb225)); have _ := A_ ((by rw [hg]; exact (below_size z7_2_) : w.heap.size ≤ gb225)); clear HB; rename_i HB BK225 GW225 GE225; clear hb hbox hg) | ((with_reducible refine gate_dst (N := 2) rfl ?_); refine box_event ?hg (N := 2) ?hd (cs := #[.slice none 0 0]) (t := 34) ?hr ?_; (case hd => rfl); (case hg => rfl); (case hr => first | (go_simp; done) | (go_simp; rfl)); intro gb226 hg w77 hbox hb; have _ := A_ (blk_below (g := gb225) (o := .cells #[.int .i64 a0_0, .int .i64 a0_1, .int .i64 a0_2, .int .i64 a0_3] 60 (0, 0)) z7_1_ hb); have _ := A_ (below_step z7_14_ hb); have _ := A_ (hbox); have _ := A_ ((by rw [hg]; exact (below_size z7_14_) : w.heap.size ≤ gb226)); have _ := A_ ((by rw [hg]; exact (below_size z7_14_) : w.heap.size ≤ gb226)); have _ := A_ ((by rw [hg]; exact Nat.ne_of_lt (blk_lt (g := gb225) (o := .cells #[.int .i64 a0_0, .int .i64 a0_1, .int .i64 a0_2, .int .i64 a0_3] 60 (0, 0)) z7_1_) : gb225 ≠ gb226)); have _ := A_ ((by rw [hg]; exact Nat.ne_of_gt (blk_lt (g := gb225) (o := .cells #[.int .i64 a0_0, .int .i64 a0_1, .int .i64 a0_2, .int .i64 a0_3] 60 (0, 0)) z7_1_) : gb226 ≠ gb225)); clear BK225 HB; rename_i BK225 HB BK226 GW226 GE226 NB225_226 NB226_225; clear hb hbox hg) | ((with_reducible refine gate_dst (N := 14) rfl ?_); refine Kd.R_lit (Kd.int .i8) _ 86 ?hg (N := 14) ?hd (xs := ([0] : List Int)) (inner := [.int .i8 0]) (ok := fun _ => True) (okp := fun _ => True) ?hr ?hp (fun _ hk => hk) trivial (Below.refl _ _) (Nat.le_refl _) (by simp) ?_; (case hd => rfl); (case hg => rfl); (case hr => first | (go_simp; done) | (go_simp; rfl)); (case hp => exact (Reps.one (show Kd.M (Kd.int .i8) _ _ _ 0 [.int .i8 0] from rfl) (Reps.none _ _))); intro v228 w78 ho79 hb hg_ hnew_; clear hg_ hnew_; (first | rw [← Ny227.out] at ho79 | (simp only [Int.reduceToNat] at ho79; rw [← Ny227.out] at ho79)); have _ := A_ (Kd.R_lower ho79 (below_size z7_5_)); have _ := A_ (blk_below (g := gb225) (o := .cells #[.int .i64 a0_0, .int .i64 a0_1, .int .i64 a0_2, .int .i64 a0_3] 60 (0, 0)) z7_1_ hb); have _ := A_ (blk_below (g := gb226) (o := .cells #[.slice none 0 0] 34 (0, 0)) z7_3_ hb); have _ := A_ (below_step z7_5_ hb); clear BK225 BK226 HB; rename_i HO229 BK225 BK226 HB; clear hb ho79; obtain ⟨Ao80, co80, eo80⟩ := Kd.R_slice HO229.out; subst eo80) | ((with_reducible refine gate_dst (N := 4) rfl ?_); refine box_event ?hg (N := 4) ?hd (cs := #[.slice none 0 0, .slice none 0 0]) (t := 36) ?hr ?_; (case hd => rfl); (case hg => rfl); (case hr => first | (go_simp; done) | (go_simp; rfl)); intro gb230 hg w81 hbox hb; have _ := A_ (Kd.R_below z7_23_ hb); have _ := A_ (blk_below (g := gb225) (o := .cells #[.int .i64 a0_0, .int .i64 a0_1, .int .i64 a0_2, .int .i64 a0_3] 60 (0, 0)) z7_1_ hb); have _ := A_ (blk_below (g := gb226) (o := .cells #[.slice none 0 0] 34 (0, 0)) z7_3_ hb); have _ := A_ (below_step z7_5_ hb); have _ := A_ (hbox); have _ := A_ ((by rw [hg]; exact (below_size z7_5_) : w.heap.size ≤ gb230)); have _ := A_ ((by rw [hg]; exact (below_size z7_5_) : w.heap.size ≤ gb230)); have _ := A_ ((by rw [hg]; exact Nat.ne_of_lt (blk_lt (g := gb225) (o := .cells #[.int .i64 a0_0, .int .i64 a0_1, .int .i64 a0_2, .int .i64 a0_3] 60 (0, 0)) z7_1_) : gb225 ≠ gb230)); have _ := A_ ((by rw [hg]; exact Nat.ne_of_gt (blk_lt (g := gb225) (o := .cells #[.int .i64 a0_0, .int .i64 a0_1, .int .i64 a0_2, .int .i64 a0_3] 60 (0, 0)) z7_1_) : gb230 ≠ gb225)); have _ := A_ ((by rw [hg]; exact Nat.ne_of_lt (blk_lt (g := gb226) (o := .cells #[.slice none 0 0] 34 (0, 0)) z7_3_) : gb226 ≠ gb230)); have _ := A_ ((by rw [hg]; exact Nat.ne_of_gt (blk_lt (g := gb226) (o := .cells #[.slice none 0 0] 34 (0, 0)) z7_3_) : gb230 ≠ gb226)); clear HO229 BK225 BK226 HB; rename_i HO229 BK225 BK226 HB BK230 GW230 GE230 NB225_230 NB230_225 NB226_230 NB230_226; clear hb hbox hg; have hnb82 := NB230_225.out; have hnc82 := NB225_230.out; have hnb83 := NB230_226.out; have hnc83 := NB226_230.out; obtain ⟨hcz84_0, hcz84_1⟩ := bc2 BK230.out; obtain ⟨hfz84_0, hfz84_1⟩ := bf2 BK230.out) | ((with_reducible refine gate_callee (f := 81) rfl ?_); refine goesL_ (some 16) rfl rfl Try.func81 (by kernel_rfl) rfl #[.pointer (some ⟨gb225, 0, none⟩), .pointer (some ⟨gb230, 0, none⟩), .int .i64 0] rfl z7_12_ ?_; (with_reducible refine (spec_l03Asked.calls k _ ([(⟨a0_0, a0_1, a0_2, a0_3⟩ : S60)]).length [(⟨a0_0, a0_1, a0_2, a0_3⟩ : S60)] _ ([(⟨([] : List Int), y227⟩ : S36)]).length [(⟨([] : List Int), y227⟩ : S36)] 0 t233 _ ?side1 ?side2 ?side3 ?side4 A2.out).mono ?_); (case side1 => refine Kd.C_block k60 (g := gb225) (cs := #[.int .i64 a0_0, .int .i64 a0_1, .int .i64 a0_2, .int .i64 a0_3]) (T := 60) z7_11_ (show Kd.K k60 _ (⟨a0_0, a0_1, a0_2, a0_3⟩ : S60) [.int .i64 a0_0, .int .i64 a0_1, .int .i64 a0_2, .int .i64 a0_3] from k60_mk _ _) (by decide)); (case side2 => exact Nat.le_refl _); (case side3 => refine Kd.C_block k36 (g := gb230) (cs := #[.slice none 0 0, .slice Ao80 y227.length co80]) (T := 36) z7_10_ (show Kd.K k36 _ (⟨([] : List Int), y227⟩ : S36) [.slice none 0 0, .slice Ao80 y227.length co80] from k36_mk _ _ (by exact Nat.le_refl _) (by exact Kd.C_nil _ _) (by exact (Kd.R_reads' HO229.out).2.1) (by refine (Kd.R_reads' (e := 86) (base := w.heap.size) (ok := fun k_ => True) (n := y227.length) (c := co80) ?_).2.2; exact z7_27_)) (by decide)); (case side4 => exact Nat.le_refl _); rintro e w85 ⟨rfl, hb⟩; refine ⟨_, rfl, ?_⟩; have _ := A_ (Kd.R_below z7_27_ hb); have _ := A_ (blk_below (g := gb225) (o := .cells #[.int .i64 a0_0, .int .i64 a0_1, .int .i64 a0_2, .int .i64 a0_3] 60 (0, 0)) z7_11_ hb); have _ := A_ (blk_below (g := gb226) (o := .cells #[.slice none 0 0] 34 (0, 0)) z7_25_ hb); have _ := A_ (blk_below (g := gb230) (o := .cells #[.slice none 0 0, .slice Ao80 y227.length co80] 36 (0, 0)) z7_10_ hb); have _ := A_ (below_step z7_4_ hb); clear HO229 BK225 BK226 BK230 HB; rename_i HO229 BK225 BK226 BK230 HB; (try clear hb); have hnb86 := NB226_225.out; have hnc86 := NB225_226.out; have hcz87_0 : w85.cell? ⟨gb226, 0, none⟩ = some (.slice none 0 0) := (blk_cell BK226.out 0).trans rfl; have hfz87_0 := blk_frozen BK226.out 0))
  refine bodyPost_ret (results_ct rfl _ _ gb226 34 #[.slice none 0 0] (0, 0) _ rfl z7_20_ Try.underlying34 rfl (by kernel_rfl)) rfl ?_
  exact ⟨_, z7_16_, z7_32_, z7_4_⟩
/-! ### laws_toMoebius: function 41 -/
def laws_toMoebius.f (a0_0 : Int) (a0_1 : Int) (a0_2 : Int) (a0_3 : Int) : Option (Int × Int × Int × Int) := some (a0_0, a0_1, a0_2, a0_3)
set_option maxHeartbeats 8000000 in
set_option maxRecDepth 100000 in
theorem laws_toMoebius.calls (a0_0 : Int) (a0_1 : Int) (a0_2 : Int) (a0_3 : Int) (r1 : Int) (r2 : Int) (r3 : Int) (r4 : Int) (w : World) (h : laws_toMoebius.f a0_0 a0_1 a0_2 a0_3 = some (r1, r2, r3, r4)) :
  Calls Try.prog 41 #[.agg #[.int .i64 a0_0, .int .i64 a0_1, .int .i64 a0_2, .int .i64 a0_3]] w fun e w' => e = .returned (.agg #[.int .i64 r1, .int .i64 r2, .int .i64 r3, .int .i64 r4]) ∧ Below w.heap.size w w' := by
 have hu58 := Try.underlying58
 have hu60 := Try.underlying60
 have HB := A_ (Below.refl w.heap.size w)
 have H : (some (a0_0, a0_1, a0_2, a0_3)) = some (r1, r2, r3, r4) := h
 clear h
 simp only [Option.some.injEq, Prod.mk.injEq] at H
 obtain ⟨rfl, rfl, rfl, rfl⟩ := H
 go_enter Try.func41, Try.ntmps41
 go_wp2_with (first | ((with_reducible refine gate_dst (N := 1) rfl ?_); refine box_event ?hg (N := 1) ?hd (cs := #[.int .i64 a0_0, .int .i64 a0_1, .int .i64 a0_2, .int .i64 a0_3]) (t := 58) ?hr ?_; (case hd => rfl); (case hg => rfl); (case hr => first | (go_simp; done) | (go_simp; rfl)); intro gb262 hg w2 hbox hb; have _ := A_ (below_step z7_2_ hb); have _ := A_ (hbox); have _ := A_ ((by rw [hg]; exact (below_size z7_2_) : w.heap.size ≤ gb262)); have _ := A_ ((by rw [hg]; exact (below_size z7_2_) : w.heap.size ≤ gb262)); clear HB; rename_i HB BK262 GW262 GE262; clear hb hbox hg) | ((with_reducible refine gate_dst (N := 2) rfl ?_); refine box_event ?hg (N := 2) ?hd (cs := #[.int .i64 0, .int .i64 0, .int .i64 0, .int .i64 0]) (t := 60) ?hr ?_; (case hd => rfl); (case hg => rfl); (case hr => first | (go_simp; done) | (go_simp; rfl)); intro gb263 hg w3 hbox hb; have _ := A_ (blk_below (g := gb262) (o := .cells #[.int .i64 a0_0, .int .i64 a0_1, .int .i64 a0_2, .int .i64 a0_3] 58 (0, 0)) z7_19_ hb); have _ := A_ (below_step z7_26_ hb); have _ := A_ (hbox); have _ := A_ ((by rw [hg]; exact (below_size z7_26_) : w.heap.size ≤ gb263)); have _ := A_ ((by rw [hg]; exact (below_size z7_26_) : w.heap.size ≤ gb263)); have _ := A_ ((by rw [hg]; exact Nat.ne_of_lt (blk_lt (g := gb262) (o := .cells #[.int .i64 a0_0, .int .i64 a0_1, .int .i64 a0_2, .int .i64 a0_3] 58 (0, 0)) z7_19_) : gb262 ≠ gb263)); have _ := A_ ((by rw [hg]; exact Nat.ne_of_gt (blk_lt (g := gb262) (o := .cells #[.int .i64 a0_0, .int .i64 a0_1, .int .i64 a0_2, .int .i64 a0_3] 58 (0, 0)) z7_19_) : gb263 ≠ gb262)); clear BK262 HB; rename_i BK262 HB BK263 GW263 GE263 NB262_263 NB263_262; clear hb hbox hg) | ((with_reducible refine gate_dst (N := 3) rfl ?_); refine box_event ?hg (N := 3) ?hd (cs := #[.int .i64 0, .int .i64 0, .int .i64 0, .int .i64 0]) (t := 60) ?hr ?_; (case hd => rfl); (case hg => rfl); (case hr => first | (go_simp; done) | (go_simp; rfl)); intro gb264 hg w4 hbox hb; have _ := A_ (blk_below (g := gb262) (o := .cells #[.int .i64 a0_0, .int .i64 a0_1, .int .i64 a0_2, .int .i64 a0_3] 58 (0, 0)) z7_19_ hb); have _ := A_ (blk_below (g := gb263) (o := .cells #[.int .i64 0, .int .i64 0, .int .i64 0, .int .i64 0] 60 (0, 0)) z7_37_ hb); have _ := A_ (below_step z7_24_ hb); have _ := A_ (hbox); have _ := A_ ((by rw [hg]; exact (below_size z7_24_) : w.heap.size ≤ gb264)); have _ := A_ ((by rw [hg]; exact (below_size z7_24_) : w.heap.size ≤ gb264)); have _ := A_ ((by rw [hg]; exact Nat.ne_of_lt (blk_lt (g := gb262) (o := .cells #[.int .i64 a0_0, .int .i64 a0_1, .int .i64 a0_2, .int .i64 a0_3] 58 (0, 0)) z7_19_) : gb262 ≠ gb264)); have _ := A_ ((by rw [hg]; exact Nat.ne_of_gt (blk_lt (g := gb262) (o := .cells #[.int .i64 a0_0, .int .i64 a0_1, .int .i64 a0_2, .int .i64 a0_3] 58 (0, 0)) z7_19_) : gb264 ≠ gb262)); have _ := A_ ((by rw [hg]; exact Nat.ne_of_lt (blk_lt (g := gb263) (o := .cells #[.int .i64 0, .int .i64 0, .int .i64 0, .int .i64 0] 60 (0, 0)) z7_37_) : gb263 ≠ gb264)); have _ := A_ ((by rw [hg]; exact Nat.ne_of_gt (blk_lt (g := gb263) (o := .cells #[.int .i64 0, .int .i64 0, .int .i64 0, .int .i64 0] 60 (0, 0)) z7_37_) : gb264 ≠ gb263)); clear BK262 BK263 HB; rename_i BK262 BK263 HB BK264 GW264 GE264 NB262_264 NB264_262 NB263_264 NB264_263; clear hb hbox hg; have hnb5 := NB262_263.out; have hnc5 := NB263_262.out; have hnb6 := NB262_264.out; have hnc6 := NB264_262.out; obtain ⟨hcz7_0, hcz7_1, hcz7_2, hcz7_3⟩ := bc4 BK262.out; obtain ⟨hfz7_0, hfz7_1, hfz7_2, hfz7_3⟩ := bf4 BK262.out; have hnb8 := NB264_263.out; have hnc8 := NB263_264.out; obtain ⟨hcz9_0, hcz9_1, hcz9_2, hcz9_3⟩ := bc4 BK264.out; obtain ⟨hfz9_0, hfz9_1, hfz9_2, hfz9_3⟩ := bf4 BK264.out; obtain ⟨hcz10_0, hcz10_1, hcz10_2, hcz10_3⟩ := bc4 BK263.out; obtain ⟨hfz10_0, hfz10_1, hfz10_2, hfz10_3⟩ := bf4 BK263.out))
 refine bodyPost_ret (results_cell_row rfl _ _ gb263 60 #[.int .i64 a0_0, .int .i64 a0_1, .int .i64 a0_2, .int .i64 a0_3] (0, 0) _ rfl (by (with_reducible repeat (first | refine blk_drewN ?_ _ | refine blk_drew ?_ | refine blk_alloc ?_ _)); refine blk_put (cs := #[.int .i64 a0_0, .int .i64 a0_1, .int .i64 a0_2, .int .i64 0]) ?_ 3 _ rfl; (with_reducible repeat (first | refine blk_drewN ?_ _ | refine blk_drew ?_ | refine blk_alloc ?_ _)); refine blk_put (cs := #[.int .i64 a0_0, .int .i64 a0_1, .int .i64 0, .int .i64 0]) ?_ 2 _ rfl; (with_reducible repeat (first | refine blk_drewN ?_ _ | refine blk_drew ?_ | refine blk_alloc ?_ _)); refine blk_put (cs := #[.int .i64 a0_0, .int .i64 0, .int .i64 0, .int .i64 0]) ?_ 1 _ rfl; (with_reducible repeat (first | refine blk_drewN ?_ _ | refine blk_drew ?_ | refine blk_alloc ?_ _)); refine blk_put (cs := #[.int .i64 0, .int .i64 0, .int .i64 0, .int .i64 0]) ?_ 0 _ rfl; (with_reducible repeat (first | refine blk_drewN ?_ _ | refine blk_drew ?_ | refine blk_alloc ?_ _)); refine blk_far ?_ NB263_264.out _; (with_reducible repeat (first | refine blk_drewN ?_ _ | refine blk_drew ?_ | refine blk_alloc ?_ _)); refine blk_far ?_ NB263_264.out _; (with_reducible repeat (first | refine blk_drewN ?_ _ | refine blk_drew ?_ | refine blk_alloc ?_ _)); refine blk_far ?_ NB263_264.out _; (with_reducible repeat (first | refine blk_drewN ?_ _ | refine blk_drew ?_ | refine blk_alloc ?_ _)); refine blk_far ?_ NB263_264.out _; (with_reducible repeat (first | refine blk_drewN ?_ _ | refine blk_drew ?_ | refine blk_alloc ?_ _)); exact BK263.out) Try.underlying60 rfl (by kernel_rfl)) rfl ?_
 exact ⟨z7_16_, (by repeat (first | (with_reducible first | exact HB.out | apply below_alloc | apply pw_below_drewN | apply below_drew1 | refine below_set ?_ GE262.out | refine below_set ?_ GE263.out | refine below_set ?_ GE264.out) | exact HB.out))⟩
/-! ### impl_tells: function 73 -/
def impl_tells.f (a0 : Int) (a1 : Int) : Option (Int × Int × Int × Int × Int) := some (2, a0, a1, 0, 0)
set_option maxHeartbeats 8000000 in
set_option maxRecDepth 100000 in
theorem impl_tells.calls (a0 : Int) (a1 : Int) (r1 : Int) (r2 : Int) (r3 : Int) (r4 : Int) (r5 : Int) (w : World) (h : impl_tells.f a0 a1 = some (r1, r2, r3, r4, r5)) :
  Calls Try.prog 73 #[.int .i8 a0, .int .i16 a1] w fun e w' => e = .returned (.agg #[.int .i8 r1, .int .i8 r2, .int .i16 r3, .int .i16 r4, .int .i16 r5]) ∧ Below w.heap.size w w' := by
 have hu89 := Try.underlying89
 have hu87 := Try.underlying87
 have HB := A_ (Below.refl w.heap.size w)
 have H : (some (2, a0, a1, 0, 0)) = some (r1, r2, r3, r4, r5) := h
 clear h
 simp only [Option.some.injEq, Prod.mk.injEq] at H
 obtain ⟨rfl, rfl, rfl, rfl, rfl⟩ := H
 go_enter Try.func73, Try.ntmps73
 go_wp2_with (first | ((with_reducible refine gate_dst (N := 4) rfl ?_); refine box_event ?hg (N := 4) ?hd (cs := #[.int .i8 0, .int .i8 0, .int .i16 0, .int .i16 0, .int .i16 0]) (t := 89) ?hr ?_; (case hd => rfl); (case hg => rfl); (case hr => first | (go_simp; done) | (go_simp; rfl)); intro gb265 hg w3 hbox hb; have _ := A_ (below_step z7_2_ hb); have _ := A_ (hbox); have _ := A_ ((by rw [hg]; exact (below_size z7_2_) : w.heap.size ≤ gb265)); have _ := A_ ((by rw [hg]; exact (below_size z7_2_) : w.heap.size ≤ gb265)); clear HB; rename_i HB BK265 GW265 GE265; clear hb hbox hg; obtain ⟨hcz4_0, hcz4_1, hcz4_2, hcz4_3, hcz4_4⟩ := bc5 BK265.out; obtain ⟨hfz4_0, hfz4_1, hfz4_2, hfz4_3, hfz4_4⟩ := bf5 BK265.out))
 refine bodyPost_ret (results_cell_row rfl _ _ gb265 89 #[.int .i8 2, .int .i8 a0, .int .i16 a1, .int .i16 0, .int .i16 0] (0, 0) _ rfl (by (with_reducible repeat (first | refine blk_drewN ?_ _ | refine blk_drew ?_ | refine blk_alloc ?_ _)); refine blk_put (cs := #[.int .i8 2, .int .i8 a0, .int .i16 a1, .int .i16 0, .int .i16 0]) ?_ 4 _ rfl; (with_reducible repeat (first | refine blk_drewN ?_ _ | refine blk_drew ?_ | refine blk_alloc ?_ _)); refine blk_put (cs := #[.int .i8 2, .int .i8 a0, .int .i16 a1, .int .i16 0, .int .i16 0]) ?_ 3 _ rfl; (with_reducible repeat (first | refine blk_drewN ?_ _ | refine blk_drew ?_ | refine blk_alloc ?_ _)); refine blk_put (cs := #[.int .i8 2, .int .i8 a0, .int .i16 0, .int .i16 0, .int .i16 0]) ?_ 2 _ rfl; (with_reducible repeat (first | refine blk_drewN ?_ _ | refine blk_drew ?_ | refine blk_alloc ?_ _)); refine blk_put (cs := #[.int .i8 2, .int .i8 0, .int .i16 0, .int .i16 0, .int .i16 0]) ?_ 1 _ rfl; (with_reducible repeat (first | refine blk_drewN ?_ _ | refine blk_drew ?_ | refine blk_alloc ?_ _)); refine blk_put (cs := #[.int .i8 0, .int .i8 0, .int .i16 0, .int .i16 0, .int .i16 0]) ?_ 0 _ rfl; (with_reducible repeat (first | refine blk_drewN ?_ _ | refine blk_drew ?_ | refine blk_alloc ?_ _)); exact BK265.out) Try.underlying89 rfl (by kernel_rfl)) rfl ?_
 exact ⟨z7_16_, (by repeat (first | (with_reducible first | exact HB.out | apply below_alloc | apply pw_below_drewN | apply below_drew1 | refine below_set ?_ GE265.out) | exact HB.out))⟩
/-! ### impl_within: function 62 -/
def impl_within.f (a0 : Int) (a1 : Int) (a2 : Int) : Option (Bool) := if a0 ≥ a1 then (some (decide (a0 ≤ a2))) else (some false)
set_option maxHeartbeats 8000000 in
set_option maxRecDepth 100000 in
theorem impl_within.calls (a0 : Int) (a1 : Int) (a2 : Int) (r : Bool) (w : World) (h : impl_within.f a0 a1 a2 = some r) :
  Calls Try.prog 62 #[.int .i64 a0, .int .i64 a1, .int .i64 a2] w fun e w' => e = .returned (.bool r) ∧ Drawn0 w w' := by
 have H : (if a0 ≥ a1 then (some (decide (a0 ≤ a2))) else (some false)) = some r := h
 clear h
 by_cases c4 : a0 ≥ a1
 ·
  rw [if_pos c4] at H
  have c4b0 := decide_eq_true c4
  clear c4
  obtain rfl := Option.some.inj H
  go_enter Try.func62, Try.ntmps62
  go_wp2
  go_ret
  exact ⟨z7_18_, (by repeat (first | exact Drawn0.refl _ | apply Drawn0.step))⟩
 ·
  rw [if_neg c4] at H
  have c4b0 := decide_eq_false c4
  clear c4
  obtain rfl := Option.some.inj H
  go_enter Try.func62, Try.ntmps62
  go_wp2
  go_ret
  exact ⟨z7_18_, (by repeat (first | exact Drawn0.refl _ | apply Drawn0.step))⟩
/-! ### impl_ValidMoebius: function 85 -/
def impl_ValidMoebius.l0 : Nat → List Int → Int → Int → Int → Int → Int → Int → Option (Bool)
 | 0, _, _, _, _, _, _, _ => none
 | k + 1, x13, x14, x15, x267000, x267001, x267002, x267003 => if x15 < x14 then (if 0 ≤ x15 then (if x15 < (x13.length : Int) then ((impl_within.f (rd x13 x15) (-1000000) 1000000).bind fun t271 => (if t271 = true then (impl_ValidMoebius.l0 k x13 x14 (wrap64 (x15 + 1)) x267000 x267001 x267002 x267003) else (some false))) else (none)) else (none)) else (some (decide (x267003 > (mx x267002 (wrap64 (-x267002))))))
def impl_ValidMoebius.f (k : Nat) (a0_0 : Int) (a0_1 : Int) (a0_2 : Int) (a0_3 : Int) : Option (Bool) := (some (([a0_0, a0_1, a0_2, a0_3] : List Int) : List Int)).bind fun y267 => (impl_ValidMoebius.l0 k y267 (y267.length : Int) 0 a0_0 a0_1 a0_2 a0_3)
theorem impl_ValidMoebius.mono_l : ∀ k, (∀ y0 y1 y2 y3 y4 y5 y6, LeO (impl_ValidMoebius.l0 k y0 y1 y2 y3 y4 y5 y6) (impl_ValidMoebius.l0 (k + 1) y0 y1 y2 y3 y4 y5 y6))
 | 0 => fun _ _ _ _ _ _ _ r h => by simp [impl_ValidMoebius.l0] at h
 | k + 1 => by
  have ih0 := impl_ValidMoebius.mono_l k
  ·
   intro y0 y1 y2 y3 y4 y5 y6
   unfold impl_ValidMoebius.l0
   repeat' first
   | (with_reducible exact ih0 _ _ _ _ _ _ _)
   | (with_reducible exact LeO.refl _)
   | (with_reducible exact LeO.none _)
   | (with_reducible refine LeO.ite ?_ ?_)
   | (with_reducible refine LeO.bind ?_ (fun _ => ?_))
   | exact ih0 _ _ _ _ _ _ _
   | exact LeO.none _
   | refine LeO.ite ?_ ?_
   | refine LeO.bind ?_ (fun _ => ?_)
theorem impl_ValidMoebius.mono : ∀ a0 a1 a2 a3 k, LeO (impl_ValidMoebius.f k a0 a1 a2 a3) (impl_ValidMoebius.f (k + 1) a0 a1 a2 a3) := by
 intro a0 a1 a2 a3 k
 have ih0 := impl_ValidMoebius.mono_l k
 unfold impl_ValidMoebius.f
 repeat' first
   | (with_reducible exact ih0 _ _ _ _ _ _ _)
   | (with_reducible exact LeO.refl _)
   | (with_reducible exact LeO.none _)
   | (with_reducible refine LeO.ite ?_ ?_)
   | (with_reducible refine LeO.bind ?_ (fun _ => ?_))
   | exact ih0 _ _ _ _ _ _ _
   | exact LeO.none _
   | refine LeO.ite ?_ ?_
   | refine LeO.bind ?_ (fun _ => ?_)
set_option maxHeartbeats 8000000 in
set_option maxRecDepth 100000 in
theorem impl_ValidMoebius.calls (k : Nat) (a0_0 : Int) (a0_1 : Int) (a0_2 : Int) (a0_3 : Int) (r : Bool) (w : World) (h : impl_ValidMoebius.f k a0_0 a0_1 a0_2 a0_3 = some r) :
  Calls Try.prog 85 #[.agg #[.int .i64 a0_0, .int .i64 a0_1, .int .i64 a0_2, .int .i64 a0_3]] w fun e w' => e = .returned (.bool r) ∧ Below w.heap.size w w' := by
 have hu60 := Try.underlying60
 have HB := A_ (Below.refl w.heap.size w)
 have H : ((some (([a0_0, a0_1, a0_2, a0_3] : List Int) : List Int)).bind fun y267 => (impl_ValidMoebius.l0 k y267 (y267.length : Int) 0 a0_0 a0_1 a0_2 a0_3)) = some r := h
 clear h
 obtain ⟨y267, hy267⟩ : ∃ y_ : List Int, y_ = (([a0_0, a0_1, a0_2, a0_3] : List Int)) := ⟨_, rfl⟩
 replace H : (impl_ValidMoebius.l0 k y267 (y267.length : Int) 0 a0_0 a0_1 a0_2 a0_3) = some r := by first | (rw [hy267]; with_reducible exact H) | (have H2_ := (Option.bind_some _ _).symm.trans H; rw [hy267]; with_reducible exact H2_) | (have H2_ := (Option.bind_some _ _).symm.trans H; with_reducible exact H2_) | with_reducible exact H | (rw [hy267]; exact H) | exact H
 have Ny267 := A_ hy267
 clear hy267
 have H' := A_ H
 clear H
 go_enter Try.func85, Try.ntmps85
 go_wp2_with (first | ((with_reducible refine gate_dst (N := 1) rfl ?_); refine box_event ?hg (N := 1) ?hd (cs := #[.int .i64 a0_0, .int .i64 a0_1, .int .i64 a0_2, .int .i64 a0_3]) (t := 60) ?hr ?_; (case hd => rfl); (case hg => rfl); (case hr => first | (go_simp; done) | (go_simp; rfl)); intro gb266 hg w2 hbox hb; have _ := A_ (below_step z7_2_ hb); have _ := A_ (hbox); have _ := A_ ((by rw [hg]; exact (below_size z7_2_) : w.heap.size ≤ gb266)); have _ := A_ ((by rw [hg]; exact (below_size z7_2_) : w.heap.size ≤ gb266)); clear HB; rename_i HB BK266 GW266 GE266; clear hb hbox hg; obtain ⟨hcz3_0, hcz3_1, hcz3_2, hcz3_3⟩ := bc4 BK266.out; obtain ⟨hfz3_0, hfz3_1, hfz3_2, hfz3_3⟩ := bf4 BK266.out) | ((with_reducible refine gate_dst (N := 13) rfl ?_); refine Kd.R_lit (Kd.int .i64) _ 2 ?hg (N := 13) ?hd (xs := ([a0_0, a0_1, a0_2, a0_3] : List Int)) (inner := [.int .i64 a0_0, .int .i64 a0_1, .int .i64 a0_2, .int .i64 a0_3]) (ok := fun _ => True) (okp := fun _ => True) ?hr ?hp (fun _ hk => hk) trivial (Below.refl _ _) (Nat.le_refl _) (by simp) ?_; (case hd => rfl); (case hg => rfl); (case hr => first | (go_simp; done) | (go_simp; rfl)); (case hp => exact (Reps.one (show Kd.M (Kd.int .i64) _ _ _ a0_0 [.int .i64 a0_0] from rfl) (Reps.one (show Kd.M (Kd.int .i64) _ _ _ a0_1 [.int .i64 a0_1] from rfl) (Reps.one (show Kd.M (Kd.int .i64) _ _ _ a0_2 [.int .i64 a0_2] from rfl) (Reps.one (show Kd.M (Kd.int .i64) _ _ _ a0_3 [.int .i64 a0_3] from rfl) (Reps.none _ _)))))); intro v268 w4 ho5 hb hg_ hnew_; clear hg_ hnew_; (first | rw [← Ny267.out] at ho5 | (simp only [Int.reduceToNat] at ho5; rw [← Ny267.out] at ho5)); have _ := A_ (Kd.R_lower ho5 (below_size z7_13_)); have _ := A_ (blk_below (g := gb266) (o := .cells #[.int .i64 a0_0, .int .i64 a0_1, .int .i64 a0_2, .int .i64 a0_3] 60 (0, 0)) z7_36_ hb); have _ := A_ (below_step z7_13_ hb); clear BK266 HB; rename_i HO269 BK266 HB; clear hb ho5; obtain ⟨Ao6, co6, eo6⟩ := Kd.R_slice HO269.out; subst eo6))
 go_loopg [15] k (fun kq v15 w' => ∃ (x15_1 : Int), v15 = .int .i64 x15_1 ∧ Aside0 (impl_ValidMoebius.l0 kq y267 (y267.length : Int) x15_1 a0_0 a0_1 a0_2 a0_3 = some r) ∧ Aside0 (kq ≤ k) ∧ Aside0 (Kd.R (Kd.int .i64) 2 w' w.heap.size (fun _ => True) (.slice Ao6 y267.length co6) y267) ∧ Aside0 (w'.heap[gb266]? = some (.cells #[.int .i64 a0_0, .int .i64 a0_1, .int .i64 a0_2, .int .i64 a0_3] 60 (0, 0))) ∧ Aside0 (Below w.heap.size w w'))
 case atStart => exact ⟨(0), z7_18_, H', ⟨Nat.le_refl _⟩, ⟨(by (with_reducible repeat (first | apply Kd.R_alloc | apply Kd.R_drewN | apply Kd.R_drew)); exact HO269.out)⟩, ⟨z7_36_⟩, ⟨z7_13_⟩⟩
 case round =>
  clear H'
  try clear p2
  try clear hcz3_0
  try clear hcz3_1
  try clear hcz3_2
  try clear hcz3_3
  try clear hfz3_0
  try clear hfz3_1
  try clear hfz3_2
  try clear hfz3_3
  obtain ⟨x15_1, rfl, HA, HK1, HO_13, BK266, HB⟩ := hrel
  cases gk with
  | zero => exact absurd HA.out (by simp [impl_ValidMoebius.l0])
  | succ k1 =>
   have H := HA.out
   clear HA
   simp only [impl_ValidMoebius.l0] at H
   by_cases c7 : x15_1 < (y267.length : Int)
   ·
    rw [if_pos c7] at H
    have c7b0 := decide_eq_true c7
    clear c7
    by_cases c8 : 0 ≤ x15_1
    ·
     rw [if_pos c8] at H
     have c8b0 := decide_eq_true c8
     clear c8
     by_cases c9 : x15_1 < (y267.length : Int)
     ·
      rw [if_pos c9] at H
      have c9b0 := decide_eq_true c9
      clear c9
      replace H := Option.bind_eq_some_iff.mp H
      obtain ⟨t271, A100, H⟩ := H
      try dsimp only at H
      have A10 := A_ A100
      clear A100
      by_cases c11 : t271 = true
      ·
       subst c11
       have H1 := H; rw [if_pos rfl] at H1
       clear H
       have H := H1
       clear H1
       have H' := A_ H
       clear H
       have p270 : 0 ≤ (x15_1 : Int) := of_decide_eq_true (by assumption)
       have q270 : x15_1 < (y267.length : Int) := of_decide_eq_true (by assumption)
       obtain ⟨ad270, e270, hx270_0⟩ := Kd.at_int (Kd.R_reads' HO_13.out).2.2 x15_1 p270 q270
       cases e270
       replace p270 := eq_true p270
       replace q270 := eq_true q270
       go_wp2_with (first | ((with_reducible refine gate_callee (f := 62) rfl ?_); refine goesL_ (some 20) rfl rfl Try.func62 (by kernel_rfl) rfl #[.int .i64 (rd y267 x15_1), .int .i64 (-1000000), .int .i64 1000000] rfl z7_12_ ?_; (with_reducible refine (impl_within.calls (rd y267 x15_1) (-1000000) 1000000 true _ A10.out).mono ?_); rintro e w' ⟨rfl, ⟨nd, rfl⟩⟩; refine ⟨_, rfl, ?_⟩))
       go_roundg k1
       case measure => have := HK1.out; omega
       case rel => exact ⟨(wrap64 (x15_1 + 1)), z7_18_, H', ⟨(by have := HK1.out; omega)⟩, ⟨(by (with_reducible repeat (first | apply Kd.R_alloc | apply Kd.R_drewN | apply Kd.R_drew)); exact HO_13.out)⟩, ⟨z7_36_⟩, ⟨z7_13_⟩⟩
      ·
       replace c11 := Bool.eq_false_iff.mpr c11
       subst c11
       have H1 := H; rw [if_neg (show ¬ (false = true) by decide)] at H1
       clear H
       have H := H1
       clear H1
       obtain rfl := Option.some.inj H
       have p270 : 0 ≤ (x15_1 : Int) := of_decide_eq_true (by assumption)
       have q270 : x15_1 < (y267.length : Int) := of_decide_eq_true (by assumption)
       obtain ⟨ad270, e270, hx270_0⟩ := Kd.at_int (Kd.R_reads' HO_13.out).2.2 x15_1 p270 q270
       cases e270
       replace p270 := eq_true p270
       replace q270 := eq_true q270
       go_wp2_with (first | ((with_reducible refine gate_callee (f := 62) rfl ?_); refine goesL_ (some 20) rfl rfl Try.func62 (by kernel_rfl) rfl #[.int .i64 (rd y267 x15_1), .int .i64 (-1000000), .int .i64 1000000] rfl z7_12_ ?_; (with_reducible refine (impl_within.calls (rd y267 x15_1) (-1000000) 1000000 false _ A10.out).mono ?_); rintro e w' ⟨rfl, ⟨nd, rfl⟩⟩; refine ⟨_, rfl, ?_⟩))
       go_ret
       exact ⟨z7_16_, z7_13_⟩
     ·
      rw [if_neg c9] at H
      exact absurd H (by simp)
    ·
     rw [if_neg c8] at H
     exact absurd H (by simp)
   ·
    rw [if_neg c7] at H
    have c7b0 := decide_eq_false c7
    clear c7
    obtain ⟨ji12, hji12⟩ : ∃ j_ : Int, (mx a0_2 (wrap64 (-a0_2))) = j_ := ⟨_, rfl⟩
    replace H : (some (decide (a0_3 > (ji12)))) = some r := by first | (rw [hji12] at H; exact H) | (simp only [hji12] at H ⊢; exact H)
    have hji12_ : (if a0_2 < (wrap64 (-a0_2)) then (wrap64 (-a0_2)) else a0_2) = ji12 := hji12
    obtain rfl := Option.some.inj H
    obtain ⟨hcz13_0, hcz13_1, hcz13_2, hcz13_3⟩ := bc4 BK266.out
    obtain ⟨hfz13_0, hfz13_1, hfz13_2, hfz13_3⟩ := bf4 BK266.out
    go_wp2
    go_ret
    exact ⟨(by first | rfl | (simp [errW_none, errW_some] <;> rfl) | (simp only [← hji12]; first | rfl | (simp [errW_none, errW_some] <;> rfl)) | (simp [*, errW_none, errW_some] <;> rfl)), z7_13_⟩
/-! ### impl_Moebius_lies: function 86 -/
def impl_Moebius_lies.l0 : Nat → Int → Int → List Int → Int → Int → Int → Int → Int → Int → Option (Bool)
 | 0, _, _, _, _, _, _, _, _, _ => none
 | k + 1, x1, x2, x11, x12, x13, x273000, x273001, x273002, x273003 => if x13 < x12 then (if 0 ≤ x13 then (if x13 < (x11.length : Int) then (if (wrap64 (2 * (wrap64 ((wrap64 ((rd x11 x13) * x273000)) + x273001)))) < (wrap64 (x1 * (wrap64 ((wrap64 ((rd x11 x13) * x273002)) + x273003)))) then (some false) else (if (wrap64 (2 * (wrap64 ((wrap64 ((rd x11 x13) * x273000)) + x273001)))) > (wrap64 (x2 * (wrap64 ((wrap64 ((rd x11 x13) * x273002)) + x273003)))) then (some false) else (impl_Moebius_lies.l0 k x1 x2 x11 x12 (wrap64 (x13 + 1)) x273000 x273001 x273002 x273003))) else (none)) else (none)) else (some true)
def impl_Moebius_lies.f (k : Nat) (a0_0 : Int) (a0_1 : Int) (a0_2 : Int) (a0_3 : Int) (a1 : Int) (a2 : Int) : Option (Bool) := (some (([(-1), 1] : List Int) : List Int)).bind fun y273 => (impl_Moebius_lies.l0 k a1 a2 y273 (y273.length : Int) 0 a0_0 a0_1 a0_2 a0_3)
theorem impl_Moebius_lies.mono_l : ∀ k, (∀ y0 y1 y2 y3 y4 y5 y6 y7 y8, LeO (impl_Moebius_lies.l0 k y0 y1 y2 y3 y4 y5 y6 y7 y8) (impl_Moebius_lies.l0 (k + 1) y0 y1 y2 y3 y4 y5 y6 y7 y8))
 | 0 => fun _ _ _ _ _ _ _ _ _ r h => by simp [impl_Moebius_lies.l0] at h
 | k + 1 => by
  have ih0 := impl_Moebius_lies.mono_l k
  ·
   intro y0 y1 y2 y3 y4 y5 y6 y7 y8
   unfold impl_Moebius_lies.l0
   repeat' first
   | (with_reducible exact ih0 _ _ _ _ _ _ _ _ _)
   | (with_reducible exact LeO.refl _)
   | (with_reducible exact LeO.none _)
   | (with_reducible refine LeO.ite ?_ ?_)
   | (with_reducible refine LeO.bind ?_ (fun _ => ?_))
   | exact ih0 _ _ _ _ _ _ _ _ _
   | exact LeO.none _
   | refine LeO.ite ?_ ?_
   | refine LeO.bind ?_ (fun _ => ?_)
theorem impl_Moebius_lies.mono : ∀ a0 a1 a2 a3 a4 a5 k, LeO (impl_Moebius_lies.f k a0 a1 a2 a3 a4 a5) (impl_Moebius_lies.f (k + 1) a0 a1 a2 a3 a4 a5) := by
 intro a0 a1 a2 a3 a4 a5 k
 have ih0 := impl_Moebius_lies.mono_l k
 unfold impl_Moebius_lies.f
 repeat' first
   | (with_reducible exact ih0 _ _ _ _ _ _ _ _ _)
   | (with_reducible exact LeO.refl _)
   | (with_reducible exact LeO.none _)
   | (with_reducible refine LeO.ite ?_ ?_)
   | (with_reducible refine LeO.bind ?_ (fun _ => ?_))
   | exact ih0 _ _ _ _ _ _ _ _ _
   | exact LeO.none _
   | refine LeO.ite ?_ ?_
   | refine LeO.bind ?_ (fun _ => ?_)
set_option maxHeartbeats 8000000 in
set_option maxRecDepth 100000 in
theorem impl_Moebius_lies.calls (k : Nat) (a0_0 : Int) (a0_1 : Int) (a0_2 : Int) (a0_3 : Int) (a1 : Int) (a2 : Int) (r : Bool) (w : World) (h : impl_Moebius_lies.f k a0_0 a0_1 a0_2 a0_3 a1 a2 = some r) :
  Calls Try.prog 86 #[.agg #[.int .i64 a0_0, .int .i64 a0_1, .int .i64 a0_2, .int .i64 a0_3], .int .i64 a1, .int .i64 a2] w fun e w' => e = .returned (.bool r) ∧ Below w.heap.size w w' := by
 have hu60 := Try.underlying60
 have HB := A_ (Below.refl w.heap.size w)
 have H : ((some (([(-1), 1] : List Int) : List Int)).bind fun y273 => (impl_Moebius_lies.l0 k a1 a2 y273 (y273.length : Int) 0 a0_0 a0_1 a0_2 a0_3)) = some r := h
 clear h
 obtain ⟨y273, hy273⟩ : ∃ y_ : List Int, y_ = (([(-1), 1] : List Int)) := ⟨_, rfl⟩
 replace H : (impl_Moebius_lies.l0 k a1 a2 y273 (y273.length : Int) 0 a0_0 a0_1 a0_2 a0_3) = some r := by first | (rw [hy273]; with_reducible exact H) | (have H2_ := (Option.bind_some _ _).symm.trans H; rw [hy273]; with_reducible exact H2_) | (have H2_ := (Option.bind_some _ _).symm.trans H; with_reducible exact H2_) | with_reducible exact H | (rw [hy273]; exact H) | exact H
 have Ny273 := A_ hy273
 clear hy273
 have H' := A_ H
 clear H
 go_enter Try.func86, Try.ntmps86
 go_wp2_with (first | ((with_reducible refine gate_dst (N := 3) rfl ?_); refine box_event ?hg (N := 3) ?hd (cs := #[.int .i64 a0_0, .int .i64 a0_1, .int .i64 a0_2, .int .i64 a0_3]) (t := 60) ?hr ?_; (case hd => rfl); (case hg => rfl); (case hr => first | (go_simp; done) | (go_simp; rfl)); intro gb272 hg w4 hbox hb; have _ := A_ (below_step z7_2_ hb); have _ := A_ (hbox); have _ := A_ ((by rw [hg]; exact (below_size z7_2_) : w.heap.size ≤ gb272)); have _ := A_ ((by rw [hg]; exact (below_size z7_2_) : w.heap.size ≤ gb272)); clear HB; rename_i HB BK272 GW272 GE272; clear hb hbox hg) | ((with_reducible refine gate_dst (N := 11) rfl ?_); refine Kd.R_lit (Kd.int .i64) _ 2 ?hg (N := 11) ?hd (xs := ([(-1), 1] : List Int)) (inner := [.int .i64 (-1), .int .i64 1]) (ok := fun _ => True) (okp := fun _ => True) ?hr ?hp (fun _ hk => hk) trivial (Below.refl _ _) (Nat.le_refl _) (by simp) ?_; (case hd => rfl); (case hg => rfl); (case hr => first | (go_simp; done) | (go_simp; rfl)); (case hp => exact (Reps.one (show Kd.M (Kd.int .i64) _ _ _ (-1) [.int .i64 (-1)] from rfl) (Reps.one (show Kd.M (Kd.int .i64) _ _ _ 1 [.int .i64 1] from rfl) (Reps.none _ _)))); intro v274 w5 ho6 hb hg_ hnew_; clear hg_ hnew_; (first | rw [← Ny273.out] at ho6 | (simp only [Int.reduceToNat] at ho6; rw [← Ny273.out] at ho6)); have _ := A_ (Kd.R_lower ho6 (below_size z7_7_)); have _ := A_ (blk_below (g := gb272) (o := .cells #[.int .i64 a0_0, .int .i64 a0_1, .int .i64 a0_2, .int .i64 a0_3] 60 (0, 0)) z7_21_ hb); have _ := A_ (below_step z7_7_ hb); clear BK272 HB; rename_i HO275 BK272 HB; clear hb ho6; obtain ⟨Ao7, co7, eo7⟩ := Kd.R_slice HO275.out; subst eo7))
 repeat (go_quiet (first | ((with_reducible refine gate_dst (N := 3) rfl ?_); refine box_event ?hg (N := 3) ?hd (cs := #[.int .i64 a0_0, .int .i64 a0_1, .int .i64 a0_2, .int .i64 a0_3]) (t := 60) ?hr ?_; (case hd => rfl); (case hg => rfl); (case hr => first | (go_simp; done) | (go_simp; rfl)); intro gb272 hg w4 hbox hb; have _ := A_ (below_step z7_2_ hb); have _ := A_ (hbox); have _ := A_ ((by rw [hg]; exact (below_size z7_2_) : w.heap.size ≤ gb272)); have _ := A_ ((by rw [hg]; exact (below_size z7_2_) : w.heap.size ≤ gb272)); clear HB; rename_i HB BK272 GW272 GE272; clear hb hbox hg) | ((with_reducible refine gate_dst (N := 11) rfl ?_); refine Kd.R_lit (Kd.int .i64) _ 2 ?hg (N := 11) ?hd (xs := ([(-1), 1] : List Int)) (inner := [.int .i64 (-1), .int .i64 1]) (ok := fun _ => True) (okp := fun _ => True) ?hr ?hp (fun _ hk => hk) trivial (Below.refl _ _) (Nat.le_refl _) (by simp) ?_; (case hd => rfl); (case hg => rfl); (case hr => first | (go_simp; done) | (go_simp; rfl)); (case hp => exact (Reps.one (show Kd.M (Kd.int .i64) _ _ _ (-1) [.int .i64 (-1)] from rfl) (Reps.one (show Kd.M (Kd.int .i64) _ _ _ 1 [.int .i64 1] from rfl) (Reps.none _ _)))); intro v274 w5 ho6 hb hg_ hnew_; clear hg_ hnew_; (first | rw [← Ny273.out] at ho6 | (simp only [Int.reduceToNat] at ho6; rw [← Ny273.out] at ho6)); have _ := A_ (Kd.R_lower ho6 (below_size z7_7_)); have _ := A_ (blk_below (g := gb272) (o := .cells #[.int .i64 a0_0, .int .i64 a0_1, .int .i64 a0_2, .int .i64 a0_3] 60 (0, 0)) z7_21_ hb); have _ := A_ (below_step z7_7_ hb); clear BK272 HB; rename_i HO275 BK272 HB; clear hb ho6; obtain ⟨Ao7, co7, eo7⟩ := Kd.R_slice HO275.out; subst eo7)); try go_wp2_with (first | ((with_reducible refine gate_dst (N := 3) rfl ?_); refine box_event ?hg (N := 3) ?hd (cs := #[.int .i64 a0_0, .int .i64 a0_1, .int .i64 a0_2, .int .i64 a0_3]) (t := 60) ?hr ?_; (case hd => rfl); (case hg => rfl); (case hr => first | (go_simp; done) | (go_simp; rfl)); intro gb272 hg w4 hbox hb; have _ := A_ (below_step z7_2_ hb); have _ := A_ (hbox); have _ := A_ ((by rw [hg]; exact (below_size z7_2_) : w.heap.size ≤ gb272)); have _ := A_ ((by rw [hg]; exact (below_size z7_2_) : w.heap.size ≤ gb272)); clear HB; rename_i HB BK272 GW272 GE272; clear hb hbox hg) | ((with_reducible refine gate_dst (N := 11) rfl ?_); refine Kd.R_lit (Kd.int .i64) _ 2 ?hg (N := 11) ?hd (xs := ([(-1), 1] : List Int)) (inner := [.int .i64 (-1), .int .i64 1]) (ok := fun _ => True) (okp := fun _ => True) ?hr ?hp (fun _ hk => hk) trivial (Below.refl _ _) (Nat.le_refl _) (by simp) ?_; (case hd => rfl); (case hg => rfl); (case hr => first | (go_simp; done) | (go_simp; rfl)); (case hp => exact (Reps.one (show Kd.M (Kd.int .i64) _ _ _ (-1) [.int .i64 (-1)] from rfl) (Reps.one (show Kd.M (Kd.int .i64) _ _ _ 1 [.int .i64 1] from rfl) (Reps.none _ _)))); intro v274 w5 ho6 hb hg_ hnew_; clear hg_ hnew_; (first | rw [← Ny273.out] at ho6 | (simp only [Int.reduceToNat] at ho6; rw [← Ny273.out] at ho6)); have _ := A_ (Kd.R_lower ho6 (below_size z7_7_)); have _ := A_ (blk_below (g := gb272) (o := .cells #[.int .i64 a0_0, .int .i64 a0_1, .int .i64 a0_2, .int .i64 a0_3] 60 (0, 0)) z7_21_ hb); have _ := A_ (below_step z7_7_ hb); clear BK272 HB; rename_i HO275 BK272 HB; clear hb ho6; obtain ⟨Ao7, co7, eo7⟩ := Kd.R_slice HO275.out; subst eo7)))
 go_loopg [13] k (fun kq v13 w' => ∃ (x13_1 : Int), v13 = .int .i64 x13_1 ∧ Aside0 (impl_Moebius_lies.l0 kq a1 a2 y273 (y273.length : Int) x13_1 a0_0 a0_1 a0_2 a0_3 = some r) ∧ Aside0 (kq ≤ k) ∧ Aside0 (Kd.R (Kd.int .i64) 2 w' w.heap.size (fun _ => True) (.slice Ao7 y273.length co7) y273) ∧ Aside0 (w'.heap[gb272]? = some (.cells #[.int .i64 a0_0, .int .i64 a0_1, .int .i64 a0_2, .int .i64 a0_3] 60 (0, 0))) ∧ Aside0 (Below w.heap.size w w'))
 case atStart => exact ⟨(0), z7_18_, H', ⟨Nat.le_refl _⟩, ⟨(by (with_reducible repeat (first | apply Kd.R_alloc | apply Kd.R_drewN | apply Kd.R_drew)); exact HO275.out)⟩, ⟨z7_21_⟩, ⟨z7_7_⟩⟩
 case round =>
  clear H'
  try clear p2
  obtain ⟨x13_1, rfl, HA, HK1, HO_11, BK272, HB⟩ := hrel
  cases gk with
  | zero => exact absurd HA.out (by simp [impl_Moebius_lies.l0])
  | succ k1 =>
   have H := HA.out
   clear HA
   simp only [impl_Moebius_lies.l0] at H
   by_cases c8 : x13_1 < (y273.length : Int)
   ·
    rw [if_pos c8] at H
    have c8b0 := decide_eq_true c8
    clear c8
    by_cases c9 : 0 ≤ x13_1
    ·
     rw [if_pos c9] at H
     have c9b0 := decide_eq_true c9
     clear c9
     by_cases c10 : x13_1 < (y273.length : Int)
     ·
      rw [if_pos c10] at H
      have c10b0 := decide_eq_true c10
      clear c10
      by_cases c11 : (wrap64 (2 * (wrap64 ((wrap64 ((rd y273 x13_1) * a0_0)) + a0_1)))) < (wrap64 (a1 * (wrap64 ((wrap64 ((rd y273 x13_1) * a0_2)) + a0_3))))
      ·
       rw [if_pos c11] at H
       have c11b0 := decide_eq_true c11
       clear c11
       obtain rfl := Option.some.inj H
       have p276 : 0 ≤ (x13_1 : Int) := of_decide_eq_true (by assumption)
       have q276 : x13_1 < (y273.length : Int) := of_decide_eq_true (by assumption)
       obtain ⟨ad276, e276, hx276_0⟩ := Kd.at_int (Kd.R_reads' HO_11.out).2.2 x13_1 p276 q276
       cases e276
       replace p276 := eq_true p276
       replace q276 := eq_true q276
       obtain ⟨hcz12_0, hcz12_1, hcz12_2, hcz12_3⟩ := bc4 BK272.out
       obtain ⟨hfz12_0, hfz12_1, hfz12_2, hfz12_3⟩ := bf4 BK272.out
       go_wp2
       repeat (go_quiet (fail); try go_wp2)
       go_ret
       exact ⟨z7_16_, z7_7_⟩
      ·
       rw [if_neg c11] at H
       have c11b0 := decide_eq_false c11
       clear c11
       by_cases c13 : (wrap64 (2 * (wrap64 ((wrap64 ((rd y273 x13_1) * a0_0)) + a0_1)))) > (wrap64 (a2 * (wrap64 ((wrap64 ((rd y273 x13_1) * a0_2)) + a0_3))))
       ·
        rw [if_pos c13] at H
        have c13b0 := decide_eq_true c13
        clear c13
        obtain rfl := Option.some.inj H
        have p276 : 0 ≤ (x13_1 : Int) := of_decide_eq_true (by assumption)
        have q276 : x13_1 < (y273.length : Int) := of_decide_eq_true (by assumption)
        obtain ⟨ad276, e276, hx276_0⟩ := Kd.at_int (Kd.R_reads' HO_11.out).2.2 x13_1 p276 q276
        cases e276
        replace p276 := eq_true p276
        replace q276 := eq_true q276
        obtain ⟨hcz14_0, hcz14_1, hcz14_2, hcz14_3⟩ := bc4 BK272.out
        obtain ⟨hfz14_0, hfz14_1, hfz14_2, hfz14_3⟩ := bf4 BK272.out
        go_wp2
        repeat (go_quiet (fail); try go_wp2)
        go_ret
        exact ⟨z7_16_, z7_7_⟩
       ·
        rw [if_neg c13] at H
        have c13b0 := decide_eq_false c13
        clear c13
        have H' := A_ H
        clear H
        have p276 : 0 ≤ (x13_1 : Int) := of_decide_eq_true (by assumption)
        have q276 : x13_1 < (y273.length : Int) := of_decide_eq_true (by assumption)
        obtain ⟨ad276, e276, hx276_0⟩ := Kd.at_int (Kd.R_reads' HO_11.out).2.2 x13_1 p276 q276
        cases e276
        replace p276 := eq_true p276
        replace q276 := eq_true q276
        obtain ⟨hcz15_0, hcz15_1, hcz15_2, hcz15_3⟩ := bc4 BK272.out
        obtain ⟨hfz15_0, hfz15_1, hfz15_2, hfz15_3⟩ := bf4 BK272.out
        go_wp2
        repeat (go_quiet (fail); try go_wp2)
        go_roundg k1
        case measure => have := HK1.out; omega
        case rel => exact ⟨(wrap64 (x13_1 + 1)), z7_18_, H', ⟨(by have := HK1.out; omega)⟩, ⟨(by (with_reducible repeat (first | apply Kd.R_alloc | apply Kd.R_drewN | apply Kd.R_drew)); exact HO_11.out)⟩, ⟨z7_21_⟩, ⟨z7_7_⟩⟩
     ·
      rw [if_neg c10] at H
      exact absurd H (by simp)
    ·
     rw [if_neg c9] at H
     exact absurd H (by simp)
   ·
    rw [if_neg c8] at H
    have c8b0 := decide_eq_false c8
    clear c8
    obtain rfl := Option.some.inj H
    go_wp2
    repeat (go_quiet (fail); try go_wp2)
    go_ret
    exact ⟨z7_16_, z7_7_⟩
end Go.Proofs.Ytpfnohdnaocpdaa.PT

import Derived.Test.YtpfnohdnaocpdaaPTx0
import Derived.Test.YtpfnohdnaocpdaaPTx1
import Derived.Test.YtpfnohdnaocpdaaPTx2
import Derived.Test.YtpfnohdnaocpdaaPTx5
namespace Go.Proofs.Ytpfnohdnaocpdaa.PT
open Go.RowKit Go.Proofs.YtpfnohdnaocpdaaW.PrintWords Go.Proofs.YtpfnohdnaocpdaaW.PrintLast Go.Proofs.YtpfnohdnaocpdaaW.PrintMore Go.Proofs.YtpfnohdnaocpdaaRP
attribute [local go_sem] max2_int min2_int max_two min_two max_three min_three max_four min_four Go.Proofs.YtpfnohdnaocpdaaRP.max_eight Go.Proofs.YtpfnohdnaocpdaaRP.tmod_len   -- for this text's walks alone
set_option linter.unusedVariables false
set_option linter.unusedSimpArgs false
theorem z6_1_ {P : Prop} (h : P := by repeat (first | (with_reducible first | exact HB.out | apply below_alloc | apply pw_below_drewN | apply below_drew1 | refine below_set ?_ GE250.out | refine below_set ?_ GE259.out | refine below_set ?_ GE263.out | refine below_set ?_ GE268.out) | exact HB.out)) : P := h
theorem z6_2_ {P : Prop} (h : P := by (with_reducible repeat (first | refine blk_drewN ?_ _ | refine blk_drew ?_ | refine blk_alloc ?_ _)); exact BK250.out) : P := h
theorem z6_3_ {P : Prop} (h : P := by (with_reducible repeat (first | refine blk_drewN ?_ _ | refine blk_drew ?_ | refine blk_alloc ?_ _)); exact BK259.out) : P := h
theorem z6_4_ {P : Prop} (h : P := by (with_reducible repeat (first | refine blk_drewN ?_ _ | refine blk_drew ?_ | refine blk_alloc ?_ _)); exact BK263.out) : P := h
theorem z6_5_ {P : Prop} (h : P := by (try simp only [List.map_toArray, List.map_cons, List.map_nil]); first | done | rfl | (simp only [List.length_drop, List.length_take]; rfl)) : P := h
theorem z6_6_ {P : Prop} (h : P := by (with_reducible repeat (first | refine blk_drewN ?_ _ | refine blk_drew ?_ | refine blk_alloc ?_ _)); exact BK268.out) : P := h
theorem z6_7_ {P : Prop} (h : P := by repeat (first | (with_reducible first | exact HB.out | apply below_alloc | apply pw_below_drewN | apply below_drew1 | refine below_set ?_ GE250.out) | exact HB.out)) : P := h
theorem z6_8_ {P : Prop} (h : P := by repeat (first | (with_reducible first | exact HB.out | apply below_alloc | apply pw_below_drewN | apply below_drew1 | refine below_set ?_ GE250.out | refine below_set ?_ GE259.out | refine below_set ?_ GE263.out | refine below_set ?_ GE268.out | refine below_set ?_ GE287.out) | exact HB.out)) : P := h
theorem z6_9_ {P : Prop} (h : P := by (with_reducible repeat (first | apply Kd.R_alloc | apply Kd.R_drewN | apply Kd.R_drew)); exact HO_269000.out) : P := h
theorem z6_10_ {P : Prop} (h : P := by (with_reducible repeat (first | apply Kd.R_alloc | apply Kd.R_drewN | apply Kd.R_drew)); exact HO_264000.out) : P := h
theorem z6_11_ {P : Prop} (h : P := by (with_reducible repeat (first | apply Kd.R_alloc | apply Kd.R_drewN | apply Kd.R_drew)); exact HO_260000.out) : P := h
theorem z6_12_ {P : Prop} (h : P := by repeat (first | (with_reducible first | exact HB.out | apply below_alloc | apply pw_below_drewN | apply below_drew1 | refine below_set ?_ GE250.out | refine below_set ?_ GE259.out) | exact HB.out)) : P := h
theorem z6_13_ {P : Prop} (h : P := by repeat (first | (with_reducible first | exact HB.out | apply below_alloc | apply pw_below_drewN | apply below_drew1 | refine below_set ?_ GE250.out | refine below_set ?_ GE259.out | refine below_set ?_ GE263.out) | exact HB.out)) : P := h
theorem z6_14_ {P : Prop} (h : P := by (with_reducible repeat (first | apply Kd.R_alloc | apply Kd.R_drewN | apply Kd.R_drew)); exact (Kd.R_mono (Kd.R_far (p := ⟨gb287, 0, none⟩) (Kd.R_types HO_260000.out BK287.out (by decide)) (fun _ hk => hk.2) (.slice Ao111 t283.length co111)) (fun _ h_ => h_.1))) : P := h
theorem z6_15_ {P : Prop} (h : P := by (with_reducible repeat (first | apply Kd.R_alloc | apply Kd.R_drewN | apply Kd.R_drew)); exact (Kd.R_mono (Kd.R_far (p := ⟨gb287, 0, none⟩) (Kd.R_types HO285.out BK287.out (by decide)) (fun _ hk => hk.2) (.slice Ao111 t283.length co111)) (fun _ h_ => h_.1))) : P := h
theorem z6_16_ {P : Prop} (h : P := by (with_reducible repeat (first | apply Kd.R_alloc | apply Kd.R_drewN | apply Kd.R_drew)); exact (Kd.R_mono (Kd.R_far (p := ⟨gb268, 0, none⟩) (Kd.R_types HO266.out BK268.out (by decide)) (fun _ hk => hk.2) (.slice Ao32 t264.length co32)) (fun _ h_ => h_.1))) : P := h
theorem z6_17_ {P : Prop} (h : P := by (with_reducible repeat (first | apply Kd.R_alloc | apply Kd.R_drewN | apply Kd.R_drew)); exact (Kd.R_mono (Kd.R_far (p := ⟨gb268, 0, none⟩) (Kd.R_types HO257.out BK268.out (by decide)) (fun _ hk => hk.2) (.slice Ao32 t264.length co32)) (fun _ h_ => h_.1))) : P := h
theorem z6_18_ {P : Prop} (h : P := by repeat (first | (with_reducible first | exact HB.out | apply below_alloc | apply pw_below_drewN | apply below_drew1) | exact HB.out)) : P := h
theorem z6_19_ {P : Prop} (h : P := by (with_reducible repeat (first | apply Kd.R_alloc | apply Kd.R_drewN | apply Kd.R_drew)); exact (Kd.R_mono (Kd.R_far (p := ⟨gb263, 0, none⟩) (Kd.R_types HO262.out BK263.out (by decide)) (fun _ hk => hk.2) (.slice Ao26 t260.length co26)) (fun _ h_ => h_.1))) : P := h
theorem z6_20_ {P : Prop} (h : P := by (with_reducible repeat (first | apply Kd.R_alloc | apply Kd.R_drewN | apply Kd.R_drew)); exact HO254.out) : P := h
theorem z6_21_ {P : Prop} (h : P := by first | rfl | (simp; done) | (simp [*]; done) | (simp [isE_]; done)) : P := h
theorem z6_22_ {P : Prop} (h : P := by (with_reducible repeat (first | apply Kd.R_alloc | apply Kd.R_drewN | apply Kd.R_drew)); exact Kd.R_mono HO_264000.out (fun _ hk => ⟨hk.1.1, hk.1.2⟩)) : P := h
theorem z6_23_ {P : Prop} (h : P := by (with_reducible repeat (first | apply Kd.R_alloc | apply Kd.R_drewN | apply Kd.R_drew)); exact Kd.R_mono HO_269000.out (fun _ hk => ⟨hk.1, hk.2.1⟩)) : P := h
theorem z6_24_ {P : Prop} (h : P := by (with_reducible repeat (first | apply Kd.R_alloc | apply Kd.R_drewN | apply Kd.R_drew)); exact Kd.R_mono HO_260000.out (fun _ hk => ⟨hk.1, hk.2.1⟩)) : P := h
theorem z6_25_ {P : Prop} (h : P := by (with_reducible repeat (first | refine blk_drewN ?_ _ | refine blk_drew ?_ | refine blk_alloc ?_ _)); refine blk_put (cs := #[.slice none 0 0]) ?_ 0 _ rfl; (with_reducible repeat (first | refine blk_drewN ?_ _ | refine blk_drew ?_ | refine blk_alloc ?_ _)); exact BK287.out) : P := h
theorem z6_26_ {P : Prop} (h : P := by (with_reducible repeat (first | refine blk_drewN ?_ _ | refine blk_drew ?_ | refine blk_alloc ?_ _)); refine blk_put (cs := #[.slice none 0 0]) ?_ 0 _ rfl; (with_reducible repeat (first | refine blk_drewN ?_ _ | refine blk_drew ?_ | refine blk_alloc ?_ _)); exact BK268.out) : P := h
theorem z6_27_ {P : Prop} (h : P := by (with_reducible repeat (first | apply Kd.R_alloc | apply Kd.R_drewN | apply Kd.R_drew)); exact (Kd.R_mono (Kd.R_far (p := ⟨gb287, 0, none⟩) (Kd.R_types HO_269000.out BK287.out (by decide)) (fun _ hk => hk.2) (.slice Ao111 t283.length co111)) (fun _ h_ => h_.1))) : P := h
theorem z6_28_ {P : Prop} (h : P := by (with_reducible repeat (first | apply Kd.R_alloc | apply Kd.R_drewN | apply Kd.R_drew)); exact (Kd.R_mono (Kd.R_far (p := ⟨gb287, 0, none⟩) (Kd.R_types HO_264000.out BK287.out (by decide)) (fun _ hk => hk.2) (.slice Ao111 t283.length co111)) (fun _ h_ => h_.1))) : P := h
theorem z6_29_ {P : Prop} (h : P := by (with_reducible repeat (first | apply Kd.R_alloc | apply Kd.R_drewN | apply Kd.R_drew)); exact (Kd.R_mono (Kd.R_far (p := ⟨gb287, 0, none⟩) (Kd.R_types HO282.out BK287.out (by decide)) (fun _ hk => hk.2) (.slice Ao111 t283.length co111)) (fun _ h_ => h_.1))) : P := h
theorem z6_30_ {P : Prop} (h : P := by (with_reducible repeat (first | apply Kd.R_alloc | apply Kd.R_drewN | apply Kd.R_drew)); exact (Kd.R_mono (Kd.R_far (p := ⟨gb268, 0, none⟩) (Kd.R_types HO262.out BK268.out (by decide)) (fun _ hk => hk.2) (.slice Ao32 t264.length co32)) (fun _ h_ => h_.1))) : P := h
theorem z6_31_ {P : Prop} (h : P := by (with_reducible repeat (first | apply Kd.R_alloc | apply Kd.R_drewN | apply Kd.R_drew)); exact (Kd.R_mono (Kd.R_far (p := ⟨gb268, 0, none⟩) (Kd.R_types HO254.out BK268.out (by decide)) (fun _ hk => hk.2) (.slice Ao32 t264.length co32)) (fun _ h_ => h_.1))) : P := h
theorem z6_32_ {P : Prop} (h : P := by (with_reducible repeat (first | apply Kd.R_alloc | apply Kd.R_drewN | apply Kd.R_drew)); exact (Kd.R_mono (Kd.R_far (p := ⟨gb263, 0, none⟩) (Kd.R_types HO257.out BK263.out (by decide)) (fun _ hk => hk.2) (.slice Ao26 t260.length co26)) (fun _ h_ => h_.1))) : P := h
theorem z6_33_ {P : Prop} (h : P := by (with_reducible repeat (first | apply Kd.R_alloc | apply Kd.R_drewN | apply Kd.R_drew)); exact (Kd.R_mono (Kd.R_far (p := ⟨gb263, 0, none⟩) (Kd.R_types HO254.out BK263.out (by decide)) (fun _ hk => hk.2) (.slice Ao26 t260.length co26)) (fun _ h_ => h_.1))) : P := h
theorem z6_34_ {P : Prop} (h : P := by (with_reducible repeat (first | apply Kd.R_alloc | apply Kd.R_drewN | apply Kd.R_drew)); exact (Kd.R_mono (Kd.R_far (p := ⟨gb259, 0, none⟩) (Kd.R_types HO257.out BK259.out (by decide)) (fun _ hk => hk.2) (.slice Ao20 t255.length co20)) (fun _ h_ => h_.1))) : P := h
theorem z6_35_ {P : Prop} (h : P := by (with_reducible repeat (first | apply Kd.R_alloc | apply Kd.R_drewN | apply Kd.R_drew)); exact (Kd.R_mono (Kd.R_far (p := ⟨gb259, 0, none⟩) (Kd.R_types HO254.out BK259.out (by decide)) (fun _ hk => hk.2) (.slice Ao20 t255.length co20)) (fun _ h_ => h_.1))) : P := h
theorem z6_36_ {P : Prop} (h : P := by (with_reducible repeat (first | refine blk_drewN ?_ _ | refine blk_drew ?_ | refine blk_alloc ?_ _)); refine blk_far ?_ NB268_287.out _; (with_reducible repeat (first | refine blk_drewN ?_ _ | refine blk_drew ?_ | refine blk_alloc ?_ _)); exact BK268.out) : P := h
theorem z6_37_ {P : Prop} (h : P := by (with_reducible repeat (first | refine blk_drewN ?_ _ | refine blk_drew ?_ | refine blk_alloc ?_ _)); refine blk_far ?_ NB263_287.out _; (with_reducible repeat (first | refine blk_drewN ?_ _ | refine blk_drew ?_ | refine blk_alloc ?_ _)); exact BK263.out) : P := h
theorem z6_38_ {P : Prop} (h : P := by (with_reducible repeat (first | refine blk_drewN ?_ _ | refine blk_drew ?_ | refine blk_alloc ?_ _)); refine blk_far ?_ NB263_268.out _; (with_reducible repeat (first | refine blk_drewN ?_ _ | refine blk_drew ?_ | refine blk_alloc ?_ _)); exact BK263.out) : P := h
theorem z6_39_ {P : Prop} (h : P := by (with_reducible repeat (first | refine blk_drewN ?_ _ | refine blk_drew ?_ | refine blk_alloc ?_ _)); refine blk_far ?_ NB259_287.out _; (with_reducible repeat (first | refine blk_drewN ?_ _ | refine blk_drew ?_ | refine blk_alloc ?_ _)); exact BK259.out) : P := h
theorem z6_40_ {P : Prop} (h : P := by (with_reducible repeat (first | refine blk_drewN ?_ _ | refine blk_drew ?_ | refine blk_alloc ?_ _)); refine blk_far ?_ NB259_268.out _; (with_reducible repeat (first | refine blk_drewN ?_ _ | refine blk_drew ?_ | refine blk_alloc ?_ _)); exact BK259.out) : P := h
theorem z6_41_ {P : Prop} (h : P := by (with_reducible repeat (first | refine blk_drewN ?_ _ | refine blk_drew ?_ | refine blk_alloc ?_ _)); refine blk_far ?_ NB250_287.out _; (with_reducible repeat (first | refine blk_drewN ?_ _ | refine blk_drew ?_ | refine blk_alloc ?_ _)); exact BK250.out) : P := h
theorem z6_42_ {P : Prop} (h : P := by (with_reducible repeat (first | refine blk_drewN ?_ _ | refine blk_drew ?_ | refine blk_alloc ?_ _)); refine blk_far ?_ NB250_268.out _; (with_reducible repeat (first | refine blk_drewN ?_ _ | refine blk_drew ?_ | refine blk_alloc ?_ _)); exact BK250.out) : P := h
theorem z6_43_ {P : Prop} (h : P := by (with_reducible repeat (first | apply Kd.R_alloc | apply Kd.R_drewN | apply Kd.R_drew)); exact HO282.out) : P := h
theorem z6_44_ {P : Prop} (h : P := by (with_reducible repeat (first | apply Kd.R_alloc | apply Kd.R_drewN | apply Kd.R_drew)); exact HO272.out) : P := h
theorem z6_45_ {P : Prop} (h : P := by (with_reducible repeat (first | apply Kd.R_alloc | apply Kd.R_drewN | apply Kd.R_drew)); exact HO257.out) : P := h
theorem z6_46_ {P : Prop} (h : P := by (try simp only [hl264000_59]); (with_reducible repeat (first | apply Kd.R_alloc | apply Kd.R_drewN | apply Kd.R_drew)); exact Kd.R_mono HO_269000.out (fun _ hk => ⟨hk.1.1.1, ⟨hk.1.1.2, hk.2⟩⟩)) : P := h
theorem z6_47_ {P : Prop} (h : P := by (try simp only [hl264000_59]); (with_reducible repeat (first | apply Kd.R_alloc | apply Kd.R_drewN | apply Kd.R_drew)); exact Kd.R_mono HO_264000.out (fun _ hk => ⟨hk.1.1.1, ⟨hk.1.1.2, hk.2⟩⟩)) : P := h
theorem z6_48_ {P : Prop} (h : P := by (try simp only [hl264000_59]); (with_reducible repeat (first | apply Kd.R_alloc | apply Kd.R_drewN | apply Kd.R_drew)); exact Kd.R_mono HO_260000.out (fun _ hk => ⟨hk.1.1.1, ⟨hk.1.1.2, hk.2⟩⟩)) : P := h
theorem z6_49_ {P : Prop} (h : P := by (try simp only [hl264000_59]); (with_reducible repeat (first | apply Kd.R_alloc | apply Kd.R_drewN | apply Kd.R_drew)); exact Kd.R_mono HO285.out (fun _ hk => ⟨hk.1.1.1.2, ⟨hk.1.1.2, hk.1.2⟩⟩)) : P := h
theorem z6_50_ {P : Prop} (h : P := by (try simp only [hl264000_59]); (with_reducible repeat (first | refine blk_drewN ?_ _ | refine blk_drew ?_ | refine blk_alloc ?_ _)); exact BK287.out) : P := h
theorem z6_51_ {P : Prop} (h : P := by (try simp only [hl264000_59]); (with_reducible repeat (first | refine blk_drewN ?_ _ | refine blk_drew ?_ | refine blk_alloc ?_ _)); exact BK268.out) : P := h
theorem z6_52_ {P : Prop} (h : P := by (try simp only [hl264000_59]); (with_reducible repeat (first | refine blk_drewN ?_ _ | refine blk_drew ?_ | refine blk_alloc ?_ _)); exact BK263.out) : P := h
theorem z6_53_ {P : Prop} (h : P := by (try simp only [hl264000_59]); (with_reducible repeat (first | refine blk_drewN ?_ _ | refine blk_drew ?_ | refine blk_alloc ?_ _)); exact BK259.out) : P := h
theorem z6_54_ {P : Prop} (h : P := by (try simp only [hl264000_59]); (with_reducible repeat (first | refine blk_drewN ?_ _ | refine blk_drew ?_ | refine blk_alloc ?_ _)); exact BK250.out) : P := h
theorem z6_55_ {P : Prop} (h : P := by (with_reducible repeat (first | apply Kd.R_alloc | apply Kd.R_drewN | apply Kd.R_drew)); exact Kd.R_mono HO266.out (fun _ hk => ⟨hk.1.2, hk.2⟩)) : P := h
theorem z6_56_ {P : Prop} (h : P := by (with_reducible repeat (first | apply Kd.R_alloc | apply Kd.R_drewN | apply Kd.R_drew)); exact Kd.R_mono HO262.out (fun _ hk => ⟨hk.1.2, hk.2⟩)) : P := h
theorem z6_57_ {P : Prop} (h : P := by (with_reducible repeat (first | apply Kd.R_alloc | apply Kd.R_drewN | apply Kd.R_drew)); exact Kd.R_mono HO257.out (fun _ hk => ⟨hk.1.2, hk.2⟩)) : P := h
theorem z6_58_ {P : Prop} (h : P := by have := HJ10.out; first | omega | exact Nat.le_refl _) : P := h
theorem z6_59_ {P : Prop} (h : P := by (with_reducible repeat (first | apply Kd.R_alloc | apply Kd.R_drewN | apply Kd.R_drew)); exact HO262.out) : P := h
theorem z6_60_ {P : Prop} (h : P := by first | rfl | (simp [errW_none, errW_some] <;> rfl) | (simp [*, errW_none, errW_some] <;> rfl)) : P := h
/-! ### laws_FnExactLeastTree: function 9 -/
mutual
def laws_FnExactLeastTree.j0 : Nat → Int → Int → Bool → List (S158) → List (S89) → List (S89) → List (S89) → Option (Bool)
 | 0, _, _, _, _, _, _, _ => none
 | k + 1, x5, x8, x40, x251000, x260000, x264000, x269000 => if x40 = true then (some false) else ((laws_toTree.f k x251000).bind fun t270 => ((laws_eqTree.f k x264000 t270).bind fun t273 => (if t273 = true then ((laws_markTree.f k x264000 1).bind fun bt274 => (if bt274.1 < 0 then (laws_FnExactLeastTree.j1 k x5 true x251000 x260000 x269000) else ((laws_eqTree.f k x269000 x260000).bind fun t276 => (if t276 = true then (laws_FnExactLeastTree.j1 k x5 (x8 != x5) x251000 x260000 x269000) else (laws_FnExactLeastTree.j1 k x5 true x251000 x260000 x269000))))) else (some false))))
def laws_FnExactLeastTree.j1 : Nat → Int → Bool → List (S158) → List (S89) → List (S89) → Option (Bool)
 | 0, _, _, _, _, _ => none
 | k + 1, x5, x61, x251000, x260000, x269000 => if x61 = true then (some false) else ((laws_markTree.f k x269000 1).bind fun bt277 => ((laws_heldTree.f k bt277.2 1).bind fun t279 => (if t279 < 0 then (some false) else (if t279 = bt277.1 then ((laws_toTree.f k x251000).bind fun t280 => ((impl_LeastTree.f k t280).bind fun bt283 => ((laws_eqTree.f k bt283.1 x260000).bind fun t288 => (if t288 = true then (laws_FnExactLeastTree.j2 k bt277.1 (bt283.2 != x5) bt277.2) else (laws_FnExactLeastTree.j2 k bt277.1 true bt277.2))))) else (some false)))))
def laws_FnExactLeastTree.j2 : Nat → Int → Bool → List (S89) → Option (Bool)
 | 0, _, _, _ => none
 | k + 1, x10, x87, x269000 => if x87 = true then (some false) else ((laws_heldTree.f k x269000 1).bind fun t289 => (if t289 < 0 then (some false) else (if t289 = x10 then (some true) else (some false))))
end
def laws_FnExactLeastTree.f (k : Nat) (l0_0 : List (S158)) : Option (Bool) := (laws_szTree.f l0_0 1048576).bind fun t251 => (if t251 < 0 then (some true) else ((laws_toTree.f k l0_0).bind fun t252 => ((spec_LeastTree.f k t252).bind fun bt255 => ((laws_toTree.f k l0_0).bind fun t260 => ((impl_LeastTree.f k t260).bind fun bt264 => ((laws_eqTree.f k bt264.1 bt255.1).bind fun t269 => (if t269 = true then (laws_FnExactLeastTree.j0 k bt255.2 bt264.2 (bt264.2 != bt255.2) l0_0 bt255.1 t260 bt264.1) else (laws_FnExactLeastTree.j0 k bt255.2 bt264.2 true l0_0 bt255.1 t260 bt264.1))))))))
theorem laws_FnExactLeastTree.mono_l : ∀ k, (∀ y0 y1 y2 y3 y4 y5 y6, LeO (laws_FnExactLeastTree.j0 k y0 y1 y2 y3 y4 y5 y6) (laws_FnExactLeastTree.j0 (k + 1) y0 y1 y2 y3 y4 y5 y6)) ∧ (∀ y0 y1 y2 y3 y4, LeO (laws_FnExactLeastTree.j1 k y0 y1 y2 y3 y4) (laws_FnExactLeastTree.j1 (k + 1) y0 y1 y2 y3 y4)) ∧ (∀ y0 y1 y2, LeO (laws_FnExactLeastTree.j2 k y0 y1 y2) (laws_FnExactLeastTree.j2 (k + 1) y0 y1 y2))
 | 0 => ⟨fun _ _ _ _ _ _ _ r h => by simp [laws_FnExactLeastTree.j0] at h, fun _ _ _ _ _ r h => by simp [laws_FnExactLeastTree.j1] at h, fun _ _ _ r h => by simp [laws_FnExactLeastTree.j2] at h⟩
 | k + 1 => by
  obtain ⟨ih0, ih1, ih2⟩ := laws_FnExactLeastTree.mono_l k
  refine ⟨?_, ?_, ?_⟩
  ·
   intro y0 y1 y2 y3 y4 y5 y6
   unfold laws_FnExactLeastTree.j0
   repeat' first
   | (with_reducible exact ih0 _ _ _ _ _ _ _)
   | (with_reducible exact ih1 _ _ _ _ _)
   | (with_reducible exact ih2 _ _ _)
   | (with_reducible exact impl_LeastTree.mono _ _)
   | (with_reducible exact laws_eqTree.mono _ _ _)
   | (with_reducible exact laws_heldTree.mono _ _ _)
   | (with_reducible exact laws_markTree.mono _ _ _)
   | (with_reducible exact laws_toTree.mono _ _)
   | (with_reducible exact spec_LeastTree.mono _ _)
   | (with_reducible exact LeO.refl _)
   | (with_reducible exact LeO.none _)
   | (with_reducible refine LeO.ite ?_ ?_)
   | (with_reducible refine LeO.bind ?_ (fun _ => ?_))
   | exact ih0 _ _ _ _ _ _ _
   | exact ih1 _ _ _ _ _
   | exact ih2 _ _ _
   | exact LeO.none _
   | refine LeO.ite ?_ ?_
   | refine LeO.bind ?_ (fun _ => ?_)
  ·
   intro y0 y1 y2 y3 y4
   unfold laws_FnExactLeastTree.j1
   repeat' first
   | (with_reducible exact ih0 _ _ _ _ _ _ _)
   | (with_reducible exact ih1 _ _ _ _ _)
   | (with_reducible exact ih2 _ _ _)
   | (with_reducible exact impl_LeastTree.mono _ _)
   | (with_reducible exact laws_eqTree.mono _ _ _)
   | (with_reducible exact laws_heldTree.mono _ _ _)
   | (with_reducible exact laws_markTree.mono _ _ _)
   | (with_reducible exact laws_toTree.mono _ _)
   | (with_reducible exact spec_LeastTree.mono _ _)
   | (with_reducible exact LeO.refl _)
   | (with_reducible exact LeO.none _)
   | (with_reducible refine LeO.ite ?_ ?_)
   | (with_reducible refine LeO.bind ?_ (fun _ => ?_))
   | exact ih0 _ _ _ _ _ _ _
   | exact ih1 _ _ _ _ _
   | exact ih2 _ _ _
   | exact LeO.none _
   | refine LeO.ite ?_ ?_
   | refine LeO.bind ?_ (fun _ => ?_)
  ·
   intro y0 y1 y2
   unfold laws_FnExactLeastTree.j2
   repeat' first
   | (with_reducible exact ih0 _ _ _ _ _ _ _)
   | (with_reducible exact ih1 _ _ _ _ _)
   | (with_reducible exact ih2 _ _ _)
   | (with_reducible exact impl_LeastTree.mono _ _)
   | (with_reducible exact laws_eqTree.mono _ _ _)
   | (with_reducible exact laws_heldTree.mono _ _ _)
   | (with_reducible exact laws_markTree.mono _ _ _)
   | (with_reducible exact laws_toTree.mono _ _)
   | (with_reducible exact spec_LeastTree.mono _ _)
   | (with_reducible exact LeO.refl _)
   | (with_reducible exact LeO.none _)
   | (with_reducible refine LeO.ite ?_ ?_)
   | (with_reducible refine LeO.bind ?_ (fun _ => ?_))
   | exact ih0 _ _ _ _ _ _ _
   | exact ih1 _ _ _ _ _
   | exact ih2 _ _ _
   | exact LeO.none _
   | refine LeO.ite ?_ ?_
   | refine LeO.bind ?_ (fun _ => ?_)
theorem laws_FnExactLeastTree.mono : ∀ a0 k, LeO (laws_FnExactLeastTree.f k a0) (laws_FnExactLeastTree.f (k + 1) a0) := by
 intro a0 k
 obtain ⟨ih0, ih1, ih2⟩ := laws_FnExactLeastTree.mono_l k
 unfold laws_FnExactLeastTree.f
 repeat' first
   | (with_reducible exact ih0 _ _ _ _ _ _ _)
   | (with_reducible exact ih1 _ _ _ _ _)
   | (with_reducible exact ih2 _ _ _)
   | (with_reducible exact impl_LeastTree.mono _ _)
   | (with_reducible exact laws_eqTree.mono _ _ _)
   | (with_reducible exact laws_heldTree.mono _ _ _)
   | (with_reducible exact laws_markTree.mono _ _ _)
   | (with_reducible exact laws_toTree.mono _ _)
   | (with_reducible exact spec_LeastTree.mono _ _)
   | (with_reducible exact LeO.refl _)
   | (with_reducible exact LeO.none _)
   | (with_reducible refine LeO.ite ?_ ?_)
   | (with_reducible refine LeO.bind ?_ (fun _ => ?_))
   | exact ih0 _ _ _ _ _ _ _
   | exact ih1 _ _ _ _ _
   | exact ih2 _ _ _
   | exact LeO.none _
   | refine LeO.ite ?_ ?_
   | refine LeO.bind ?_ (fun _ => ?_)
set_option maxHeartbeats 8000000 in
set_option maxRecDepth 100000 in
theorem laws_FnExactLeastTree.calls (k : Nat) (A0_0 : Option Addr) (c0_0 : Nat) (l0_0 : List (S158)) (w : World) (hr0_0 : Kd.C k158 w A0_0 l0_0.length l0_0) (hc0_0 : l0_0.length ≤ c0_0) (h : laws_FnExactLeastTree.f k l0_0 = some true) :
  Calls Try.prog 9 #[.agg #[.slice A0_0 l0_0.length c0_0]] w fun e w' => e = .returned (.bool true) ∧ Below w.heap.size w w' := by
 have hu24 := Try.underlying24
 have hu34 := Try.underlying34
 have HR0_0 := A_ hr0_0
 have HC0_0 := A_ hc0_0
 clear hr0_0 hc0_0
 have HB := A_ (Below.refl w.heap.size w)
 have H : ((laws_szTree.f l0_0 1048576).bind fun t251 => (if t251 < 0 then (some true) else ((laws_toTree.f k l0_0).bind fun t252 => ((spec_LeastTree.f k t252).bind fun bt255 => ((laws_toTree.f k l0_0).bind fun t260 => ((impl_LeastTree.f k t260).bind fun bt264 => ((laws_eqTree.f k bt264.1 bt255.1).bind fun t269 => (if t269 = true then (laws_FnExactLeastTree.j0 k bt255.2 bt264.2 (bt264.2 != bt255.2) l0_0 bt255.1 t260 bt264.1) else (laws_FnExactLeastTree.j0 k bt255.2 bt264.2 true l0_0 bt255.1 t260 bt264.1))))))))) = some true := h
 clear h
 replace H := Option.bind_eq_some_iff.mp H
 obtain ⟨t251, A20, H⟩ := H
 try dsimp only at H
 have A2 := A_ A20
 clear A20
 by_cases c3 : t251 < 0
 ·
  rw [if_pos c3] at H
  have c3b0 := decide_eq_true c3
  clear c3
  clear H
  go_enter Try.func9, Try.ntmps9
  go_wp2_with (first | ((with_reducible refine gate_dst (N := 1) rfl ?_); refine box_event ?hg (N := 1) ?hd (cs := #[.slice A0_0 l0_0.length c0_0]) (t := 24) ?hr ?_; (case hd => rfl); (case hg => rfl); (case hr => first | (go_simp; done) | (go_simp; rfl)); intro gb250 hg w4 hbox hb; have _ := A_ (below_step z6_18_ hb); have _ := A_ (hbox); have _ := A_ ((by rw [hg]; exact (below_size z6_18_) : w.heap.size ≤ gb250)); have _ := A_ ((by rw [hg]; exact (below_size z6_18_) : w.heap.size ≤ gb250)); clear HB; rename_i HB BK250 GW250 GE250; clear hb hbox hg; have hcz5_0 : w4.cell? ⟨gb250, 0, none⟩ = some (.slice A0_0 l0_0.length c0_0) := (blk_cell BK250.out 0).trans rfl; have hfz5_0 := blk_frozen BK250.out 0) | ((with_reducible refine gate_callee (f := 14) rfl ?_); refine goesL_ (some 16) rfl rfl Try.func14 (by kernel_rfl) rfl #[.agg #[.slice A0_0 l0_0.length c0_0], .int .i64 1048576] rfl z6_5_ ?_; (with_reducible refine (laws_szTree.calls _ _ l0_0 1048576 t251 _ ?side1 ?side2 A2.out).mono ?_); (case side1 => have hx_ := (Kd.C_below HR0_0.out HB.out); exact kc_); (case side2 => exact HC0_0.out); rintro e w6 ⟨rfl, hb⟩; refine ⟨_, rfl, ?_⟩; have _ := A_ (blk_below (g := gb250) (o := .cells #[.slice A0_0 l0_0.length c0_0] 24 (0, 0)) z6_2_ hb); have _ := A_ (below_step z6_7_ hb); clear BK250 HB; rename_i BK250 HB; (try clear hb)))
  go_ret
  exact ⟨z6_60_, z6_7_⟩
 ·
  rw [if_neg c3] at H
  have c3b0 := decide_eq_false c3
  clear c3
  replace H := Option.bind_eq_some_iff.mp H
  obtain ⟨t252, A70, H⟩ := H
  try dsimp only at H
  have A7 := A_ A70
  clear A70
  replace H := Option.bind_eq_some_iff.mp H
  obtain ⟨⟨t255, t258⟩, A80, H⟩ := H
  try dsimp only at H
  have A8 := A_ A80
  clear A80
  replace H := Option.bind_eq_some_iff.mp H
  obtain ⟨t260, A90, H⟩ := H
  try dsimp only at H
  have A9 := A_ A90
  clear A90
  replace H := Option.bind_eq_some_iff.mp H
  obtain ⟨⟨t264, t267⟩, A100, H⟩ := H
  try dsimp only at H
  have A10 := A_ A100
  clear A100
  have HC11 := A_ H
  clear H
  go_enter Try.func9, Try.ntmps9
  go_upto_region 8 with (first | ((with_reducible refine gate_dst (N := 1) rfl ?_); refine box_event ?hg (N := 1) ?hd (cs := #[.slice A0_0 l0_0.length c0_0]) (t := 24) ?hr ?_; (case hd => rfl); (case hg => rfl); (case hr => first | (go_simp; done) | (go_simp; rfl)); intro gb250 hg w12 hbox hb; have _ := A_ (below_step z6_18_ hb); have _ := A_ (hbox); have _ := A_ ((by rw [hg]; exact (below_size z6_18_) : w.heap.size ≤ gb250)); have _ := A_ ((by rw [hg]; exact (below_size z6_18_) : w.heap.size ≤ gb250)); clear HB; rename_i HB BK250 GW250 GE250; clear hb hbox hg; have hcz13_0 : w12.cell? ⟨gb250, 0, none⟩ = some (.slice A0_0 l0_0.length c0_0) := (blk_cell BK250.out 0).trans rfl; have hfz13_0 := blk_frozen BK250.out 0) | ((with_reducible refine gate_callee (f := 14) rfl ?_); refine goesL_ (some 16) rfl rfl Try.func14 (by kernel_rfl) rfl #[.agg #[.slice A0_0 l0_0.length c0_0], .int .i64 1048576] rfl z6_5_ ?_; (with_reducible refine (laws_szTree.calls _ _ l0_0 1048576 t251 _ ?side1 ?side2 A2.out).mono ?_); (case side1 => have hx_ := (Kd.C_below HR0_0.out HB.out); exact kc_); (case side2 => exact HC0_0.out); rintro e w14 ⟨rfl, hb⟩; refine ⟨_, rfl, ?_⟩; have _ := A_ (blk_below (g := gb250) (o := .cells #[.slice A0_0 l0_0.length c0_0] 24 (0, 0)) z6_2_ hb); have _ := A_ (below_step z6_7_ hb); clear BK250 HB; rename_i BK250 HB; (try clear hb); have hcz15_0 : w14.cell? ⟨gb250, 0, none⟩ = some (.slice A0_0 l0_0.length c0_0) := (blk_cell BK250.out 0).trans rfl; have hfz15_0 := blk_frozen BK250.out 0) | ((with_reducible refine gate_callee (f := 17) rfl ?_); refine goesL_ (some 21) rfl rfl Try.func17 (by kernel_rfl) rfl #[.agg #[.slice A0_0 l0_0.length c0_0]] rfl z6_5_ ?_; (with_reducible refine (laws_toTree.calls k _ _ l0_0 t252 _ ?side1 ?side2 A7.out).mono ?_); (case side1 => have hx_ := (Kd.C_below HR0_0.out HB.out); exact kc_); (case side2 => exact HC0_0.out); rintro e w16 ⟨v253, rfl, ho0, hb⟩; refine ⟨_, rfl, ?_⟩; have _ := A_ (Kd.R_lower ho0 (below_size z6_7_)); have _ := A_ (blk_below (g := gb250) (o := .cells #[.slice A0_0 l0_0.length c0_0] 24 (0, 0)) z6_2_ hb); have _ := A_ (below_step z6_7_ hb); clear BK250 HB; rename_i HO254 BK250 HB; (try clear hb); (try clear ho0); obtain ⟨Ao17, co17, eo17⟩ := Kd.R_slice HO254.out; subst eo17) | ((with_reducible refine gate_callee (f := 38) rfl ?_); refine goesL_ (some 22) rfl rfl Try.func38 (by kernel_rfl) rfl #[.agg #[.slice Ao17 t252.length co17]] rfl z6_5_ ?_; (with_reducible refine (spec_LeastTree.calls k _ _ t252 t255 t258 _ ?side1 ?side2 A8.out).mono ?_); (case side1 => have hx_ := (Kd.R_reads' HO254.out).2.2; exact kc_); (case side2 => exact (Kd.R_reads' HO254.out).2.1); rintro e w18 ⟨v256, rfl, ho0, hb⟩; refine ⟨_, rfl, ?_⟩; have _ := A_ (Kd.R_elder' z6_20_ (Kd.R_base ho0) hb); have _ := A_ (Kd.R_lower (Kd.R_new' ho0 (Kd.R_lt z6_20_)) (below_size z6_7_)); have _ := A_ (blk_below (g := gb250) (o := .cells #[.slice A0_0 l0_0.length c0_0] 24 (0, 0)) z6_2_ hb); have _ := A_ (below_step z6_7_ hb); clear HO254 BK250 HB; rename_i HO254 HO257 BK250 HB; (try clear hb); (try clear ho0)) | ((with_reducible refine gate_dst (N := 4) rfl ?_); refine box_event ?hg (N := 4) ?hd (cs := #[.slice none 0 0]) (t := 34) ?hr ?_; (case hd => rfl); (case hg => rfl); (case hr => first | (go_simp; done) | (go_simp; rfl)); intro gb259 hg w19 hbox hb; have _ := A_ (Kd.R_below z6_20_ hb); have _ := A_ (Kd.R_below z6_45_ hb); have _ := A_ (blk_below (g := gb250) (o := .cells #[.slice A0_0 l0_0.length c0_0] 24 (0, 0)) z6_2_ hb); have _ := A_ (below_step z6_7_ hb); have _ := A_ (hbox); have _ := A_ ((by rw [hg]; exact (below_size z6_7_) : w.heap.size ≤ gb259)); have _ := A_ ((by rw [hg]; exact (below_size z6_7_) : w.heap.size ≤ gb259)); have _ := A_ ((by rw [hg]; exact Nat.ne_of_lt (blk_lt (g := gb250) (o := .cells #[.slice A0_0 l0_0.length c0_0] 24 (0, 0)) z6_2_) : gb250 ≠ gb259)); have _ := A_ ((by rw [hg]; exact Nat.ne_of_gt (blk_lt (g := gb250) (o := .cells #[.slice A0_0 l0_0.length c0_0] 24 (0, 0)) z6_2_) : gb259 ≠ gb250)); clear HO254 HO257 BK250 HB; rename_i HO254 HO257 BK250 HB BK259 GW259 GE259 NB250_259 NB259_250; clear hb hbox hg; obtain ⟨Ao20, co20, eo20⟩ := Kd.R_slice HO257.out; subst eo20; have hnb21 := NB259_250.out; have hnc21 := NB250_259.out; have hcz22_0 : w19.cell? ⟨gb259, 0, none⟩ = some (.slice none 0 0) := (blk_cell BK259.out 0).trans rfl; have hfz22_0 := blk_frozen BK259.out 0; have hcz23_0 : w19.cell? ⟨gb250, 0, none⟩ = some (.slice A0_0 l0_0.length c0_0) := (blk_cell BK250.out 0).trans rfl; have hfz23_0 := blk_frozen BK250.out 0) | ((with_reducible refine gate_callee (f := 17) rfl ?_); refine goesL_ (some 26) rfl rfl Try.func17 (by kernel_rfl) rfl #[.agg #[.slice A0_0 l0_0.length c0_0]] rfl z6_5_ ?_; (with_reducible refine (laws_toTree.calls k _ _ l0_0 t260 _ ?side1 ?side2 A9.out).mono ?_); (case side1 => exact Kd.C_below HR0_0.out z6_12_); (case side2 => exact HC0_0.out); rintro e w24 ⟨v261, rfl, ho0, hb⟩; refine ⟨_, rfl, ?_⟩; have _ := A_ (Kd.R_elder' z6_35_ (Kd.R_base ho0) hb); have _ := A_ (Kd.R_elder' z6_34_ (Kd.R_base ho0) hb); have _ := A_ (Kd.R_lower (Kd.R_new' (Kd.R_new' ho0 (Kd.R_lt z6_35_)) (Kd.R_lt z6_34_)) (below_size z6_12_)); have _ := A_ (blk_below (g := gb250) (o := .cells #[.slice A0_0 l0_0.length c0_0] 24 (0, 0)) (by (with_reducible repeat (first | refine blk_drewN ?_ _ | refine blk_drew ?_ | refine blk_alloc ?_ _)); refine blk_far ?_ NB250_259.out _; (with_reducible repeat (first | refine blk_drewN ?_ _ | refine blk_drew ?_ | refine blk_alloc ?_ _)); exact BK250.out) hb); have _ := A_ (blk_below (g := gb259) (o := .cells #[.slice Ao20 t255.length co20] 34 (0, 0)) (by (with_reducible repeat (first | refine blk_drewN ?_ _ | refine blk_drew ?_ | refine blk_alloc ?_ _)); refine blk_put (cs := #[.slice none 0 0]) ?_ 0 _ rfl; (with_reducible repeat (first | refine blk_drewN ?_ _ | refine blk_drew ?_ | refine blk_alloc ?_ _)); exact BK259.out) hb); have _ := A_ (below_step z6_12_ hb); clear HO254 HO257 BK250 BK259 HB; rename_i HO254 HO257 HO262 BK250 BK259 HB; (try clear hb); (try clear ho0)) | ((with_reducible refine gate_dst (N := 6) rfl ?_); refine box_event ?hg (N := 6) ?hd (cs := #[.slice none 0 0]) (t := 34) ?hr ?_; (case hd => rfl); (case hg => rfl); (case hr => first | (go_simp; done) | (go_simp; rfl)); intro gb263 hg w25 hbox hb; have _ := A_ (Kd.R_below z6_20_ hb); have _ := A_ (Kd.R_below z6_45_ hb); have _ := A_ (Kd.R_below z6_59_ hb); have _ := A_ (blk_below (g := gb250) (o := .cells #[.slice A0_0 l0_0.length c0_0] 24 (0, 0)) z6_2_ hb); have _ := A_ (blk_below (g := gb259) (o := .cells #[.slice Ao20 t255.length co20] 34 (0, 0)) z6_3_ hb); have _ := A_ (below_step z6_12_ hb); have _ := A_ (hbox); have _ := A_ ((by rw [hg]; exact (below_size z6_12_) : w.heap.size ≤ gb263)); have _ := A_ ((by rw [hg]; exact (below_size z6_12_) : w.heap.size ≤ gb263)); have _ := A_ ((by rw [hg]; exact Nat.ne_of_lt (blk_lt (g := gb250) (o := .cells #[.slice A0_0 l0_0.length c0_0] 24 (0, 0)) z6_2_) : gb250 ≠ gb263)); have _ := A_ ((by rw [hg]; exact Nat.ne_of_gt (blk_lt (g := gb250) (o := .cells #[.slice A0_0 l0_0.length c0_0] 24 (0, 0)) z6_2_) : gb263 ≠ gb250)); have _ := A_ ((by rw [hg]; exact Nat.ne_of_lt (blk_lt (g := gb259) (o := .cells #[.slice Ao20 t255.length co20] 34 (0, 0)) z6_3_) : gb259 ≠ gb263)); have _ := A_ ((by rw [hg]; exact Nat.ne_of_gt (blk_lt (g := gb259) (o := .cells #[.slice Ao20 t255.length co20] 34 (0, 0)) z6_3_) : gb263 ≠ gb259)); clear HO254 HO257 HO262 BK250 BK259 HB; rename_i HO254 HO257 HO262 BK250 BK259 HB BK263 GW263 GE263 NB250_263 NB263_250 NB259_263 NB263_259; clear hb hbox hg; obtain ⟨Ao26, co26, eo26⟩ := Kd.R_slice HO262.out; subst eo26; have hnb27 := NB263_250.out; have hnc27 := NB250_263.out; have hnb28 := NB263_259.out; have hnc28 := NB259_263.out; have hcz29_0 : w25.cell? ⟨gb263, 0, none⟩ = some (.slice none 0 0) := (blk_cell BK263.out 0).trans rfl; have hfz29_0 := blk_frozen BK263.out 0) | ((with_reducible refine gate_callee (f := 39) rfl ?_); refine goesL_ (some 29) rfl rfl Try.func39 (by kernel_rfl) rfl #[.agg #[.slice Ao26 t260.length co26]] rfl z6_5_ ?_; (with_reducible refine (impl_LeastTree.calls k _ _ t260 t264 t267 _ ?side1 ?side2 A10.out).mono ?_); (case side1 => refine (Kd.R_reads' (e := 89) (base := w.heap.size) (ok := fun k_ => ((True ∧ some k_ ≠ (.slice Ao17 t252.length co17 : Value).ownBlock) ∧ some k_ ≠ (.slice Ao20 t255.length co20 : Value).ownBlock)) (n := t260.length) (c := co26) ?_).2.2; exact z6_19_); (case side2 => exact (Kd.R_reads' HO262.out).2.1); rintro e w30 ⟨v265, rfl, ho0, hb⟩; refine ⟨_, rfl, ?_⟩; have _ := A_ (Kd.R_elder' z6_33_ (Kd.R_base ho0) hb); have _ := A_ (Kd.R_elder' z6_32_ (Kd.R_base ho0) hb); have _ := A_ (Kd.R_elder' z6_19_ (Kd.R_base ho0) hb); have _ := A_ (Kd.R_lower (Kd.R_new' (Kd.R_new' (Kd.R_new' ho0 (Kd.R_lt z6_33_)) (Kd.R_lt z6_32_)) (Kd.R_lt z6_19_)) (below_size z6_13_)); have _ := A_ (blk_below (g := gb250) (o := .cells #[.slice A0_0 l0_0.length c0_0] 24 (0, 0)) (by (with_reducible repeat (first | refine blk_drewN ?_ _ | refine blk_drew ?_ | refine blk_alloc ?_ _)); refine blk_far ?_ NB250_263.out _; (with_reducible repeat (first | refine blk_drewN ?_ _ | refine blk_drew ?_ | refine blk_alloc ?_ _)); exact BK250.out) hb); have _ := A_ (blk_below (g := gb259) (o := .cells #[.slice Ao20 t255.length co20] 34 (0, 0)) (by (with_reducible repeat (first | refine blk_drewN ?_ _ | refine blk_drew ?_ | refine blk_alloc ?_ _)); refine blk_far ?_ NB259_263.out _; (with_reducible repeat (first | refine blk_drewN ?_ _ | refine blk_drew ?_ | refine blk_alloc ?_ _)); exact BK259.out) hb); have _ := A_ (blk_below (g := gb263) (o := .cells #[.slice Ao26 t260.length co26] 34 (0, 0)) (by (with_reducible repeat (first | refine blk_drewN ?_ _ | refine blk_drew ?_ | refine blk_alloc ?_ _)); refine blk_put (cs := #[.slice none 0 0]) ?_ 0 _ rfl; (with_reducible repeat (first | refine blk_drewN ?_ _ | refine blk_drew ?_ | refine blk_alloc ?_ _)); exact BK263.out) hb); have _ := A_ (below_step z6_13_ hb); clear HO254 HO257 HO262 BK250 BK259 BK263 HB; rename_i HO254 HO257 HO262 HO266 BK250 BK259 BK263 HB; (try clear hb); (try clear ho0)) | ((with_reducible refine gate_dst (N := 7) rfl ?_); refine box_event ?hg (N := 7) ?hd (cs := #[.slice none 0 0]) (t := 34) ?hr ?_; (case hd => rfl); (case hg => rfl); (case hr => first | (go_simp; done) | (go_simp; rfl)); intro gb268 hg w31 hbox hb; have _ := A_ (Kd.R_below z6_20_ hb); have _ := A_ (Kd.R_below z6_45_ hb); have _ := A_ (Kd.R_below z6_59_ hb); have _ := A_ (Kd.R_below (by (with_reducible repeat (first | apply Kd.R_alloc | apply Kd.R_drewN | apply Kd.R_drew)); exact HO266.out) hb); have _ := A_ (blk_below (g := gb250) (o := .cells #[.slice A0_0 l0_0.length c0_0] 24 (0, 0)) z6_2_ hb); have _ := A_ (blk_below (g := gb259) (o := .cells #[.slice Ao20 t255.length co20] 34 (0, 0)) z6_3_ hb); have _ := A_ (blk_below (g := gb263) (o := .cells #[.slice Ao26 t260.length co26] 34 (0, 0)) z6_4_ hb); have _ := A_ (below_step z6_13_ hb); have _ := A_ (hbox); have _ := A_ ((by rw [hg]; exact (below_size z6_13_) : w.heap.size ≤ gb268)); have _ := A_ ((by rw [hg]; exact (below_size z6_13_) : w.heap.size ≤ gb268)); have _ := A_ ((by rw [hg]; exact Nat.ne_of_lt (blk_lt (g := gb250) (o := .cells #[.slice A0_0 l0_0.length c0_0] 24 (0, 0)) z6_2_) : gb250 ≠ gb268)); have _ := A_ ((by rw [hg]; exact Nat.ne_of_gt (blk_lt (g := gb250) (o := .cells #[.slice A0_0 l0_0.length c0_0] 24 (0, 0)) z6_2_) : gb268 ≠ gb250)); have _ := A_ ((by rw [hg]; exact Nat.ne_of_lt (blk_lt (g := gb259) (o := .cells #[.slice Ao20 t255.length co20] 34 (0, 0)) z6_3_) : gb259 ≠ gb268)); have _ := A_ ((by rw [hg]; exact Nat.ne_of_gt (blk_lt (g := gb259) (o := .cells #[.slice Ao20 t255.length co20] 34 (0, 0)) z6_3_) : gb268 ≠ gb259)); have _ := A_ ((by rw [hg]; exact Nat.ne_of_lt (blk_lt (g := gb263) (o := .cells #[.slice Ao26 t260.length co26] 34 (0, 0)) z6_4_) : gb263 ≠ gb268)); have _ := A_ ((by rw [hg]; exact Nat.ne_of_gt (blk_lt (g := gb263) (o := .cells #[.slice Ao26 t260.length co26] 34 (0, 0)) z6_4_) : gb268 ≠ gb263)); clear HO254 HO257 HO262 HO266 BK250 BK259 BK263 HB; rename_i HO254 HO257 HO262 HO266 BK250 BK259 BK263 HB BK268 GW268 GE268 NB250_268 NB268_250 NB259_268 NB268_259 NB263_268 NB268_263; clear hb hbox hg; obtain ⟨Ao32, co32, eo32⟩ := Kd.R_slice HO266.out; subst eo32; have hnb33 := NB268_250.out; have hnc33 := NB250_268.out; have hnb34 := NB268_259.out; have hnc34 := NB259_268.out; have hnb35 := NB268_263.out; have hnc35 := NB263_268.out; have hcz36_0 : w31.cell? ⟨gb268, 0, none⟩ = some (.slice none 0 0) := (blk_cell BK268.out 0).trans rfl; have hfz36_0 := blk_frozen BK268.out 0))
  (try simp only [Act.put, sA_, sB_, sC_])
  go_cut [40] (fun v40 wc => ∃ (kq : Nat) (x40_10 : Bool), v40 = .bool x40_10 ∧ Aside0 (laws_FnExactLeastTree.j0 kq t258 t267 x40_10 l0_0 t255 t260 t264 = some true) ∧ Aside0 (kq ≤ k) ∧ Aside0 (Kd.R k89 89 wc w.heap.size (fun k_ => some k_ ≠ ((.slice Ao26 t260.length co26) : Value).ownBlock ∧ some k_ ≠ ((.slice Ao32 t264.length co32) : Value).ownBlock) (.slice Ao20 t255.length co20) t255) ∧ Aside0 (Kd.R k89 89 wc w.heap.size (fun k_ => some k_ ≠ ((.slice Ao20 t255.length co20) : Value).ownBlock ∧ some k_ ≠ ((.slice Ao32 t264.length co32) : Value).ownBlock) (.slice Ao26 t260.length co26) t260) ∧ Aside0 (Kd.R k89 89 wc w.heap.size (fun k_ => some k_ ≠ ((.slice Ao20 t255.length co20) : Value).ownBlock ∧ some k_ ≠ ((.slice Ao26 t260.length co26) : Value).ownBlock) (.slice Ao32 t264.length co32) t264) ∧ Aside0 (wc.heap[gb250]? = some (.cells #[(.slice A0_0 l0_0.length c0_0)] 24 (0, 0))) ∧ Aside0 (wc.heap[gb259]? = some (.cells #[(.slice Ao20 t255.length co20)] 34 (0, 0))) ∧ Aside0 (wc.heap[gb263]? = some (.cells #[(.slice Ao26 t260.length co26)] 34 (0, 0))) ∧ Aside0 (wc.heap[gb268]? = some (.cells #[(.slice Ao32 t264.length co32)] 34 (0, 0))) ∧ Aside0 (Below w.heap.size w wc))
  case first =>
   have H := HC11.out
   clear HC11
   replace H := Option.bind_eq_some_iff.mp H
   obtain ⟨t269, A370, H⟩ := H
   try dsimp only at H
   have A37 := A_ A370
   clear A370
   by_cases c38 : t269 = true
   ·
    subst c38
    have H1 : (laws_FnExactLeastTree.j0 k t258 t267 (t267 != t258) l0_0 t255 t260 t264) = some true := by first | (rw [if_pos rfl] at H; exact H) | rfl
    clear H
    have H := H1
    clear H1
    have H' := A_ H
    clear H
    have hnb39 := NB268_250.out
    have hnc39 := NB250_268.out
    have hnb40 := NB268_259.out
    have hnc40 := NB259_268.out
    have hnb41 := NB268_263.out
    have hnc41 := NB263_268.out
    have hcz42_0 : w31.cell? ⟨gb268, 0, none⟩ = some (.slice none 0 0) := (blk_cell BK268.out 0).trans rfl
    have hfz42_0 := blk_frozen BK268.out 0
    have hnb43 := NB259_250.out
    have hnc43 := NB250_259.out
    have hnb44 := NB259_263.out
    have hnc44 := NB263_259.out
    have hcz45_0 : w31.cell? ⟨gb259, 0, none⟩ = some (.slice Ao20 t255.length co20) := (blk_cell BK259.out 0).trans rfl
    have hfz45_0 := blk_frozen BK259.out 0
    go_wp2_with (first | ((with_reducible refine gate_callee (f := 21) rfl ?_); refine goesL_ (some 34) rfl rfl Try.func21 (by kernel_rfl) rfl #[.agg #[.slice Ao32 t264.length co32], .agg #[.slice Ao20 t255.length co20]] rfl z6_5_ ?_; (with_reducible refine (laws_eqTree.calls k _ _ t264 _ _ t255 true _ ?side1 ?side2 ?side3 ?side4 A37.out).mono ?_); (case side1 => refine (Kd.R_reads' (e := 89) (base := w.heap.size) (ok := fun k_ => (((True ∧ some k_ ≠ (.slice Ao17 t252.length co17 : Value).ownBlock) ∧ some k_ ≠ (.slice Ao20 t255.length co20 : Value).ownBlock) ∧ some k_ ≠ (.slice Ao26 t260.length co26 : Value).ownBlock)) (n := t264.length) (c := co32) ?_).2.2; exact z6_16_); (case side2 => exact (Kd.R_reads' HO266.out).2.1); (case side3 => refine (Kd.R_reads' (e := 89) (base := w.heap.size) (ok := fun k_ => (((True ∧ some k_ ≠ (.slice Ao17 t252.length co17 : Value).ownBlock) ∧ some k_ ≠ (.slice Ao26 t260.length co26 : Value).ownBlock) ∧ some k_ ≠ (.slice Ao32 t264.length co32 : Value).ownBlock)) (n := t255.length) (c := co20) ?_).2.2; exact z6_17_); (case side4 => exact (Kd.R_reads' HO257.out).2.1); rintro e w46 ⟨rfl, hb⟩; refine ⟨_, rfl, ?_⟩; have _ := A_ (Kd.R_below z6_31_ hb); have _ := A_ (Kd.R_below z6_17_ hb); have _ := A_ (Kd.R_below z6_30_ hb); have _ := A_ (Kd.R_below z6_16_ hb); have _ := A_ (blk_below (g := gb250) (o := .cells #[.slice A0_0 l0_0.length c0_0] 24 (0, 0)) z6_42_ hb); have _ := A_ (blk_below (g := gb259) (o := .cells #[.slice Ao20 t255.length co20] 34 (0, 0)) z6_40_ hb); have _ := A_ (blk_below (g := gb263) (o := .cells #[.slice Ao26 t260.length co26] 34 (0, 0)) z6_38_ hb); have _ := A_ (blk_below (g := gb268) (o := .cells #[.slice Ao32 t264.length co32] 34 (0, 0)) z6_26_ hb); have _ := A_ (below_step z6_1_ hb); clear HO254 HO257 HO262 HO266 BK250 BK259 BK263 BK268 HB; rename_i HO254 HO257 HO262 HO266 BK250 BK259 BK263 BK268 HB; (try clear hb)))
    go_meet
    case rel => exact ⟨_, ((t267 != t258)), z6_21_, H', ⟨(by first | omega | exact Nat.le_refl _)⟩, ⟨z6_57_⟩, ⟨z6_56_⟩, ⟨z6_55_⟩, ⟨z6_2_⟩, ⟨z6_3_⟩, ⟨z6_4_⟩, ⟨z6_6_⟩, ⟨z6_1_⟩⟩
   ·
    replace c38 := Bool.eq_false_iff.mpr c38
    subst c38
    have H1 : (laws_FnExactLeastTree.j0 k t258 t267 true l0_0 t255 t260 t264) = some true := by first | (rw [if_neg (show ¬ (false = true) by decide)] at H; exact H) | rfl
    clear H
    have H := H1
    clear H1
    have H' := A_ H
    clear H
    have hnb47 := NB268_250.out
    have hnc47 := NB250_268.out
    have hnb48 := NB268_259.out
    have hnc48 := NB259_268.out
    have hnb49 := NB268_263.out
    have hnc49 := NB263_268.out
    have hcz50_0 : w31.cell? ⟨gb268, 0, none⟩ = some (.slice none 0 0) := (blk_cell BK268.out 0).trans rfl
    have hfz50_0 := blk_frozen BK268.out 0
    have hnb51 := NB259_250.out
    have hnc51 := NB250_259.out
    have hnb52 := NB259_263.out
    have hnc52 := NB263_259.out
    have hcz53_0 : w31.cell? ⟨gb259, 0, none⟩ = some (.slice Ao20 t255.length co20) := (blk_cell BK259.out 0).trans rfl
    have hfz53_0 := blk_frozen BK259.out 0
    go_wp2_with (first | ((with_reducible refine gate_callee (f := 21) rfl ?_); refine goesL_ (some 34) rfl rfl Try.func21 (by kernel_rfl) rfl #[.agg #[.slice Ao32 t264.length co32], .agg #[.slice Ao20 t255.length co20]] rfl z6_5_ ?_; (with_reducible refine (laws_eqTree.calls k _ _ t264 _ _ t255 false _ ?side1 ?side2 ?side3 ?side4 A37.out).mono ?_); (case side1 => refine (Kd.R_reads' (e := 89) (base := w.heap.size) (ok := fun k_ => (((True ∧ some k_ ≠ (.slice Ao17 t252.length co17 : Value).ownBlock) ∧ some k_ ≠ (.slice Ao20 t255.length co20 : Value).ownBlock) ∧ some k_ ≠ (.slice Ao26 t260.length co26 : Value).ownBlock)) (n := t264.length) (c := co32) ?_).2.2; exact z6_16_); (case side2 => exact (Kd.R_reads' HO266.out).2.1); (case side3 => refine (Kd.R_reads' (e := 89) (base := w.heap.size) (ok := fun k_ => (((True ∧ some k_ ≠ (.slice Ao17 t252.length co17 : Value).ownBlock) ∧ some k_ ≠ (.slice Ao26 t260.length co26 : Value).ownBlock) ∧ some k_ ≠ (.slice Ao32 t264.length co32 : Value).ownBlock)) (n := t255.length) (c := co20) ?_).2.2; exact z6_17_); (case side4 => exact (Kd.R_reads' HO257.out).2.1); rintro e w54 ⟨rfl, hb⟩; refine ⟨_, rfl, ?_⟩; have _ := A_ (Kd.R_below z6_31_ hb); have _ := A_ (Kd.R_below z6_17_ hb); have _ := A_ (Kd.R_below z6_30_ hb); have _ := A_ (Kd.R_below z6_16_ hb); have _ := A_ (blk_below (g := gb250) (o := .cells #[.slice A0_0 l0_0.length c0_0] 24 (0, 0)) z6_42_ hb); have _ := A_ (blk_below (g := gb259) (o := .cells #[.slice Ao20 t255.length co20] 34 (0, 0)) z6_40_ hb); have _ := A_ (blk_below (g := gb263) (o := .cells #[.slice Ao26 t260.length co26] 34 (0, 0)) z6_38_ hb); have _ := A_ (blk_below (g := gb268) (o := .cells #[.slice Ao32 t264.length co32] 34 (0, 0)) z6_26_ hb); have _ := A_ (below_step z6_1_ hb); clear HO254 HO257 HO262 HO266 BK250 BK259 BK263 BK268 HB; rename_i HO254 HO257 HO262 HO266 BK250 BK259 BK263 BK268 HB; (try clear hb)))
    go_meet
    case rel => exact ⟨_, (true), z6_21_, H', ⟨(by first | omega | exact Nat.le_refl _)⟩, ⟨z6_57_⟩, ⟨z6_56_⟩, ⟨z6_55_⟩, ⟨z6_2_⟩, ⟨z6_3_⟩, ⟨z6_4_⟩, ⟨z6_6_⟩, ⟨z6_1_⟩⟩
  case rest =>
   clear HC11
   try clear c1
   try clear c2
   try clear p2
   try clear c3
   try clear c3b0
   try clear c4
   try clear c5
   try clear c9
   try clear c14
   try clear c17
   try clear c21
   try clear c27
   try clear c28
   try clear c33
   try clear c34
   try clear c35
   try clear c38
   try clear c39
   try clear c40
   try clear c41
   try clear c43
   try clear c44
   try clear c47
   try clear c48
   try clear c49
   try clear c51
   try clear c52
   try clear hcz13_0
   try clear hcz15_0
   try clear hcz22_0
   try clear hcz23_0
   try clear hcz29_0
   try clear hcz36_0
   try clear hcz42_0
   try clear hcz45_0
   try clear hcz50_0
   try clear hcz53_0
   try clear hcz5_0
   try clear hfz13_0
   try clear hfz15_0
   try clear hfz22_0
   try clear hfz23_0
   try clear hfz29_0
   try clear hfz36_0
   try clear hfz42_0
   try clear hfz45_0
   try clear hfz50_0
   try clear hfz53_0
   try clear hfz5_0
   obtain ⟨kq, x40_10, rfl, HA, HJ10, HO_260000, HO_264000, HO_269000, BK250, BK259, BK263, BK268, HB⟩ := hcut
   cases kq with
   | zero => exact absurd HA.out (by simp [laws_FnExactLeastTree.j0])
   | succ kj10 =>
    have H := HA.out
    clear HA
    simp only [laws_FnExactLeastTree.j0] at H
    by_cases c55 : x40_10 = true
    ·
     subst c55
     have H1 : (some false) = some true := by first | (rw [if_pos rfl] at H; exact H) | rfl
     clear H
     have H := H1
     clear H1
     exact absurd H (by decide)
    ·
     replace c55 := Bool.eq_false_iff.mpr c55
     subst c55
     have H1 : ((laws_toTree.f kj10 l0_0).bind fun t270 => ((laws_eqTree.f kj10 t260 t270).bind fun t273 => (if t273 = true then ((laws_markTree.f kj10 t260 1).bind fun bt274 => (if bt274.1 < 0 then (laws_FnExactLeastTree.j1 kj10 t258 true l0_0 t255 t264) else ((laws_eqTree.f kj10 t264 t255).bind fun t276 => (if t276 = true then (laws_FnExactLeastTree.j1 kj10 t258 (t267 != t258) l0_0 t255 t264) else (laws_FnExactLeastTree.j1 kj10 t258 true l0_0 t255 t264))))) else (some false)))) = some true := by first | (rw [if_neg (show ¬ (false = true) by decide)] at H; exact H) | rfl
     clear H
     have H := H1
     clear H1
     replace H := Option.bind_eq_some_iff.mp H
     obtain ⟨t270, A560, H⟩ := H
     try dsimp only at H
     have A56 := A_ A560
     clear A560
     replace H := Option.bind_eq_some_iff.mp H
     obtain ⟨t273, A570, H⟩ := H
     try dsimp only at H
     have A57 := A_ A570
     clear A570
     by_cases c58 : t273 = true
     ·
      subst c58
      have H1 : ((laws_markTree.f kj10 t260 1).bind fun bt274 => (if bt274.1 < 0 then (laws_FnExactLeastTree.j1 kj10 t258 true l0_0 t255 t264) else ((laws_eqTree.f kj10 t264 t255).bind fun t276 => (if t276 = true then (laws_FnExactLeastTree.j1 kj10 t258 (t267 != t258) l0_0 t255 t264) else (laws_FnExactLeastTree.j1 kj10 t258 true l0_0 t255 t264))))) = some true := by first | (rw [if_pos rfl] at H; exact H) | rfl
      clear H
      have H := H1
      clear H1
      replace H := Option.bind_eq_some_iff.mp H
      obtain ⟨⟨t274, t275⟩, A590, H⟩ := H
      try dsimp only at H
      have A59 := A_ A590
      clear A590
      have HC60 := A_ H
      clear H
      try go_wp2
      have _ := A_ (Kd.R_drew HO_260000.out)
      have _ := A_ (Kd.R_drew HO_264000.out)
      have _ := A_ (Kd.R_drew HO_269000.out)
      have _ := A_ (blk_drew BK250.out)
      have _ := A_ (blk_drew BK259.out)
      have _ := A_ (blk_drew BK263.out)
      have _ := A_ (blk_drew BK268.out)
      have _ := A_ (below_drew1 HB.out)
      clear HO_260000 HO_264000 HO_269000 BK250 BK259 BK263 BK268 HB
      rename_i HO_260000 HO_264000 HO_269000 BK250 BK259 BK263 BK268 HB
      refine start_ (n := 5) (S := fun w' => w'.cell? ⟨gb263, 0, none⟩ = some (.slice Ao26 t260.length co26) ∧ w'.cell? ⟨gb250, 0, none⟩ = some (.slice A0_0 l0_0.length c0_0)) (ds := []) #[false, false, false, false, false] (by kernel_rfl) rfl rfl ⟨(blk_cell BK263.out 0).trans rfl, (blk_cell BK250.out 0).trans rfl⟩ (fun hHeld => ?_)
      generalize wc.drew = w61 at HO_260000 HO_264000 HO_269000 BK250 BK259 BK263 BK268 HB hHeld ⊢
      refine take_ (i := 0) (N := some 41) (v := ?_) (a' := ?_) #[true, false, false, false, false] rfl rfl (by kernel_rfl) (fun _ _ _ h => h) (Or.inl ⟨by rfl, ?_⟩) hHeld ?_ ?_
      rotate_left
      ·
       rintro w' ⟨s0, s1⟩
       go_simp
       with_reducible rfl
      rotate_left
      ·
       simp only [Act.put, sA_, sB_, sC_, i64_w, i32_w]
       rfl
      refine take_ (i := 1) (N := some 42) (v := ?_) (a' := ?_) #[true, true, false, false, false] rfl rfl (by kernel_rfl) (fun _ _ _ h => h) (Or.inl ⟨by rfl, ?_⟩) hHeld ?_ ?_
      rotate_left
      ·
       rintro w' ⟨s0, s1⟩
       go_simp
       with_reducible rfl
      rotate_left
      ·
       simp only [Act.put, sA_, sB_, sC_, i64_w, i32_w]
       rfl
      refine one_ (i := 2) (N := some 43) #[true, true, true, false, false] rfl rfl (by kernel_rfl) (by decide) (fun K hK => ?_)
      refine goes_ Try.func17 (by kernel_rfl) rfl #[.agg #[.slice A0_0 l0_0.length c0_0]] (by rfl) rfl rfl z6_5_ ?_
      with_reducible refine (laws_toTree.calls kj10 _ _ l0_0 t270 _ ?side1 ?side2 A56.out).mono ?_
      (case side1 => have hx_ := (Kd.C_below HR0_0.out HB.out); exact kc_)
      (case side2 => exact HC0_0.out)
      rintro e w62 ⟨v271, rfl, ho0, hb⟩
      refine ⟨_, rfl, ?_⟩
      have _ := A_ (Kd.R_elder' z6_11_ (Kd.R_base ho0) hb)
      have _ := A_ (Kd.R_elder' z6_10_ (Kd.R_base ho0) hb)
      have _ := A_ (Kd.R_elder' z6_9_ (Kd.R_base ho0) hb)
      have _ := A_ (Kd.R_lower (Kd.R_new' (Kd.R_new' (Kd.R_new' ho0 (Kd.R_lt z6_11_)) (Kd.R_lt z6_10_)) (Kd.R_lt z6_9_)) (below_size z6_1_))
      have _ := A_ (blk_below (g := gb250) (o := .cells #[.slice A0_0 l0_0.length c0_0] 24 (0, 0)) z6_2_ hb)
      have _ := A_ (blk_below (g := gb259) (o := .cells #[.slice Ao20 t255.length co20] 34 (0, 0)) z6_3_ hb)
      have _ := A_ (blk_below (g := gb263) (o := .cells #[.slice Ao26 t260.length co26] 34 (0, 0)) z6_4_ hb)
      have _ := A_ (blk_below (g := gb268) (o := .cells #[.slice Ao32 t264.length co32] 34 (0, 0)) z6_6_ hb)
      have _ := A_ (below_step z6_1_ hb)
      clear HO_260000 HO_264000 HO_269000 BK250 BK259 BK263 BK268 HB
      rename_i HO_260000 HO_264000 HO_269000 HO272 BK250 BK259 BK263 BK268 HB
      (try clear hb)
      (try clear hb2)
      (try clear hk)
      (try clear hi)
      (try clear ho0)
      obtain ⟨Ao63, co63, eo63⟩ := Kd.R_slice HO272.out
      (first | subst eo63 | (injection eo63 with f1_ f2_ f3_; have f4_ := f1_.symm; have f5_ := f3_.symm; clear f1_ f2_ f3_; subst f4_; subst f5_))
      refine hK.out _ _ ⟨(blk_cell BK263.out 0).trans rfl, (blk_cell BK250.out 0).trans rfl⟩ (fun hHeld => ?_)
      clear hK K
      refine norm_ (a' := ?_) ?_ ?_
      rotate_left
      ·
       show Act.put _ (some 43) _ = _
       simp only [Act.put, sA_, sB_, sC_, i64_w, i32_w]
       rfl
      refine one_ (i := 3) (N := some 44) #[true, true, true, true, false] rfl rfl (by kernel_rfl) (by decide) (fun K hK => ?_)
      refine goes_ Try.func21 (by kernel_rfl) rfl #[.agg #[.slice Ao26 t260.length co26], .agg #[.slice Ao63 t270.length co63]] (by rfl) rfl rfl z6_5_ ?_
      with_reducible refine (laws_eqTree.calls kj10 _ _ t260 _ _ t270 true _ ?side1 ?side2 ?side3 ?side4 A57.out).mono ?_
      (case side1 => have hx_ := (Kd.R_reads' HO_264000.out).2.2; exact kc_)
      (case side2 => exact (Kd.R_reads' HO_264000.out).2.1)
      (case side3 => have hx_ := (Kd.R_reads' HO272.out).2.2; exact kc_)
      (case side4 => exact (Kd.R_reads' HO272.out).2.1)
      rintro e w64 ⟨rfl, hb⟩
      refine ⟨_, rfl, ?_⟩
      have _ := A_ (Kd.R_below z6_11_ hb)
      have _ := A_ (Kd.R_below z6_10_ hb)
      have _ := A_ (Kd.R_below z6_9_ hb)
      have _ := A_ (Kd.R_below z6_44_ hb)
      have _ := A_ (blk_below (g := gb250) (o := .cells #[.slice A0_0 l0_0.length c0_0] 24 (0, 0)) z6_2_ hb)
      have _ := A_ (blk_below (g := gb259) (o := .cells #[.slice Ao20 t255.length co20] 34 (0, 0)) z6_3_ hb)
      have _ := A_ (blk_below (g := gb263) (o := .cells #[.slice Ao26 t260.length co26] 34 (0, 0)) z6_4_ hb)
      have _ := A_ (blk_below (g := gb268) (o := .cells #[.slice Ao32 t264.length co32] 34 (0, 0)) z6_6_ hb)
      have _ := A_ (below_step z6_1_ hb)
      clear HO_260000 HO_264000 HO_269000 HO272 BK250 BK259 BK263 BK268 HB
      rename_i HO_260000 HO_264000 HO_269000 HO272 BK250 BK259 BK263 BK268 HB
      (try clear hb)
      (try clear hb2)
      (try clear hk)
      (try clear hi)
      refine hK.out _ _ ⟨(blk_cell BK263.out 0).trans rfl, (blk_cell BK250.out 0).trans rfl⟩ (fun hHeld => ?_)
      clear hK K
      refine norm_ (a' := ?_) ?_ ?_
      rotate_left
      ·
       show Act.put _ (some 44) _ = _
       simp only [Act.put, sA_, sB_, sC_, i64_w, i32_w]
       rfl
      refine pure_ (i := 4) (N := some 45) (v := ?_) (a' := ?_) #[true, true, true, true, true] rfl rfl (by kernel_rfl) (fun _ _ _ h => h) (Or.inl ⟨by rfl, ?_⟩) ?_ ?_
      rotate_left
      ·
       intro w'
       go_simp
       with_reducible rfl
      rotate_left
      ·
       simp only [Act.put, sA_, sB_, sC_, i64_w, i32_w]
       rfl
      refine done_ (by kernel_rfl) ?_
      have hnb65 := NB263_250.out
      have hnc65 := NB250_263.out
      have hnb66 := NB263_259.out
      have hnc66 := NB259_263.out
      have hnb67 := NB263_268.out
      have hnc67 := NB268_263.out
      have hcz68_0 : w64.cell? ⟨gb263, 0, none⟩ = some (.slice Ao26 t260.length co26) := (blk_cell BK263.out 0).trans rfl
      have hfz68_0 := blk_frozen BK263.out 0
      go_upto_region 14 with (first | ((with_reducible refine gate_callee (f := 23) rfl ?_); refine goesL_ (some 48) rfl rfl Try.func23 (by kernel_rfl) rfl #[.agg #[.slice Ao26 t260.length co26], .int .i64 1] rfl z6_5_ ?_; (with_reducible refine (laws_markTree.calls kj10 (fun k_ => some k_ = (.slice Ao26 t260.length co26 : Value).ownBlock) (.slice Ao26 t260.length co26) t260 1 t274 t275 w _ ?side1 ?side2 A59.out).mono ?_); (case side1 => repeat (first | (with_reducible first | exact HB.out | apply below_alloc | apply pw_below_drewN | apply below_drew1 | refine below_set ?_ GE250.out | refine below_set ?_ GE259.out | refine below_set ?_ GE263.out | refine below_set ?_ GE268.out) | exact HB.out)); (case side2 => exact Kd.R_tight rfl HO_264000.out); rintro e w69 ⟨rfl, hy0, hb, hkp⟩; refine ⟨_, rfl, ?_⟩; have _ := A_ (Kd.R_mono (ok' := fun k_ => some k_ ≠ (.slice Ao26 t260.length co26 : Value).ownBlock ∧ some k_ ≠ (.slice Ao32 t264.length co32 : Value).ownBlock ∧ some k_ ≠ (.slice Ao63 t270.length co63 : Value).ownBlock) (Kd.R_keptB (HO_260000.out) hkp (fun k_ hk_ hs_ => (hk_.1.1) hs_)) (fun k_ hk_ => ⟨hk_.1.1.1, hk_.1.1.2, hk_.1.2⟩)); have _ := A_ (Kd.R_reok rfl hy0 (fun k_ e_ => HO_264000.out.1 k_ e_)); have _ := A_ (Kd.R_mono (ok' := fun k_ => some k_ ≠ (.slice Ao20 t255.length co20 : Value).ownBlock ∧ some k_ ≠ (.slice Ao26 t260.length co26 : Value).ownBlock ∧ some k_ ≠ (.slice Ao63 t270.length co63 : Value).ownBlock) (Kd.R_keptB (HO_269000.out) hkp (fun k_ hk_ hs_ => (hk_.1.2) hs_)) (fun k_ hk_ => ⟨hk_.1.1.1, hk_.1.1.2, hk_.1.2⟩)); have _ := A_ (blk_kept z6_2_ hkp (fun hs_ => (fun e_ => (Kd.R_ne HO_264000.out BK250.out (by decide)) e_) hs_)); have _ := A_ (blk_kept z6_3_ hkp (fun hs_ => (fun e_ => (Kd.R_ne HO_264000.out BK259.out (by decide)) e_) hs_)); have _ := A_ (blk_kept z6_4_ hkp (fun hs_ => (fun e_ => (Kd.R_ne HO_264000.out BK263.out (by decide)) e_) hs_)); have _ := A_ (blk_kept z6_6_ hkp (fun hs_ => (fun e_ => (Kd.R_ne HO_264000.out BK268.out (by decide)) e_) hs_)); have _ := A_ (Kd.R_mono (ok' := fun k_ => some k_ ≠ (.slice Ao20 t255.length co20 : Value).ownBlock ∧ some k_ ≠ (.slice Ao26 t260.length co26 : Value).ownBlock ∧ some k_ ≠ (.slice Ao32 t264.length co32 : Value).ownBlock) (Kd.R_keptB (HO272.out) hkp (fun k_ hk_ hs_ => (hk_.1.2) hs_)) (fun k_ hk_ => ⟨hk_.1.1.1.2, hk_.1.1.2, hk_.1.2⟩)); have _ := A_ (hb); clear HO_260000 HO_264000 HO_269000 BK250 BK259 BK263 BK268 HO272 HB; rename_i HO_260000 HO_264000 HO_269000 BK250 BK259 BK263 BK268 HO272 HB; (try clear hb); (try clear hkp); (try clear hy0)))
      (try simp only [Act.put, sA_, sB_, sC_])
      go_cut [61] (fun v61 wc => ∃ (kq : Nat) (x61_59 : Bool), v61 = .bool x61_59 ∧ Aside0 (laws_FnExactLeastTree.j1 kq t258 x61_59 l0_0 t255 t264 = some true) ∧ Aside0 (kq ≤ kj10) ∧ Aside0 (Kd.R k89 89 wc w.heap.size (fun k_ => some k_ ≠ ((.slice Ao26 t260.length co26) : Value).ownBlock ∧ some k_ ≠ ((.slice Ao32 t264.length co32) : Value).ownBlock) (.slice Ao20 t255.length co20) t255) ∧ Aside0 (Kd.R k89 89 wc w.heap.size (fun k_ => some k_ ≠ ((.slice Ao20 t255.length co20) : Value).ownBlock ∧ some k_ ≠ ((.slice Ao32 t264.length co32) : Value).ownBlock) (.slice Ao26 t260.length co26) t275) ∧ Aside0 (Kd.R k89 89 wc w.heap.size (fun k_ => some k_ ≠ ((.slice Ao20 t255.length co20) : Value).ownBlock ∧ some k_ ≠ ((.slice Ao26 t260.length co26) : Value).ownBlock) (.slice Ao32 t264.length co32) t264) ∧ Aside0 (wc.heap[gb250]? = some (.cells #[(.slice A0_0 l0_0.length c0_0)] 24 (0, 0))) ∧ Aside0 (wc.heap[gb259]? = some (.cells #[(.slice Ao20 t255.length co20)] 34 (0, 0))) ∧ Aside0 (wc.heap[gb263]? = some (.cells #[(.slice Ao26 t260.length co26)] 34 (0, 0))) ∧ Aside0 (wc.heap[gb268]? = some (.cells #[(.slice Ao32 t264.length co32)] 34 (0, 0))) ∧ Aside0 (Below w.heap.size w wc))
      case first =>
       have H := HC60.out
       clear HC60
       by_cases c70 : t274 < 0
       ·
        rw [if_pos c70] at H
        have c70b0 := decide_eq_true c70
        clear c70
        (first | rw [c70b0] | (simp only [i64_w, i32_w]; rw [c70b0]) | skip)
        have H' := A_ H
        clear H
        go_wp2
        go_meet
        case rel => exact ⟨_, (true), z6_21_, H', ⟨z6_58_⟩, ⟨z6_24_⟩, ⟨z6_22_⟩, ⟨z6_23_⟩, ⟨z6_2_⟩, ⟨z6_3_⟩, ⟨z6_4_⟩, ⟨z6_6_⟩, ⟨z6_1_⟩⟩
       ·
        rw [if_neg c70] at H
        have c70b0 := decide_eq_false c70
        clear c70
        (first | rw [c70b0] | (simp only [i64_w, i32_w]; rw [c70b0]) | skip)
        replace H := Option.bind_eq_some_iff.mp H
        obtain ⟨t276, A710, H⟩ := H
        try dsimp only at H
        have A71 := A_ A710
        clear A710
        by_cases c72 : t276 = true
        ·
         subst c72
         have H1 : (laws_FnExactLeastTree.j1 kj10 t258 (t267 != t258) l0_0 t255 t264) = some true := by first | (rw [if_pos rfl] at H; exact H) | rfl
         clear H
         have H := H1
         clear H1
         have H' := A_ H
         clear H
         have hnb73 := NB268_250.out
         have hnc73 := NB250_268.out
         have hnb74 := NB268_259.out
         have hnc74 := NB259_268.out
         have hnb75 := NB268_263.out
         have hnc75 := NB263_268.out
         have hcz76_0 : w69.cell? ⟨gb268, 0, none⟩ = some (.slice Ao32 t264.length co32) := (blk_cell BK268.out 0).trans rfl
         have hfz76_0 := blk_frozen BK268.out 0
         have hnb77 := NB259_250.out
         have hnc77 := NB250_259.out
         have hnb78 := NB259_263.out
         have hnc78 := NB263_259.out
         have hcz79_0 : w69.cell? ⟨gb259, 0, none⟩ = some (.slice Ao20 t255.length co20) := (blk_cell BK259.out 0).trans rfl
         have hfz79_0 := blk_frozen BK259.out 0
         go_wp2_with (first | (go_at_call 21; (with_reducible refine (laws_eqTree.calls kj10 _ _ t264 _ _ t255 true _ ?side1 ?side2 ?side3 ?side4 A71.out).mono ?_); (case side1 => have hx_ := (Kd.R_reads' HO_269000.out).2.2; exact kc_); (case side2 => exact (Kd.R_reads' HO_269000.out).2.1); (case side3 => have hx_ := (Kd.R_reads' HO_260000.out).2.2; exact kc_); (case side4 => exact (Kd.R_reads' HO_260000.out).2.1); rintro e w80 ⟨rfl, hb⟩; have _ := A_ (Kd.R_below z6_11_ hb); have _ := A_ (Kd.R_below z6_10_ hb); have _ := A_ (Kd.R_below z6_9_ hb); have _ := A_ (Kd.R_below z6_44_ hb); have _ := A_ (blk_below (g := gb250) (o := .cells #[.slice A0_0 l0_0.length c0_0] 24 (0, 0)) z6_2_ hb); have _ := A_ (blk_below (g := gb259) (o := .cells #[.slice Ao20 t255.length co20] 34 (0, 0)) z6_3_ hb); have _ := A_ (blk_below (g := gb263) (o := .cells #[.slice Ao26 t260.length co26] 34 (0, 0)) z6_4_ hb); have _ := A_ (blk_below (g := gb268) (o := .cells #[.slice Ao32 t264.length co32] 34 (0, 0)) z6_6_ hb); have _ := A_ (below_step z6_1_ hb); clear HO_260000 HO_264000 HO_269000 HO272 BK250 BK259 BK263 BK268 HB; rename_i HO_260000 HO_264000 HO_269000 HO272 BK250 BK259 BK263 BK268 HB; (try clear hb)))
         go_meet
         case rel => exact ⟨_, ((t267 != t258)), z6_21_, H', ⟨z6_58_⟩, ⟨z6_24_⟩, ⟨z6_22_⟩, ⟨z6_23_⟩, ⟨z6_2_⟩, ⟨z6_3_⟩, ⟨z6_4_⟩, ⟨z6_6_⟩, ⟨z6_1_⟩⟩
        ·
         replace c72 := Bool.eq_false_iff.mpr c72
         subst c72
         have H1 : (laws_FnExactLeastTree.j1 kj10 t258 true l0_0 t255 t264) = some true := by first | (rw [if_neg (show ¬ (false = true) by decide)] at H; exact H) | rfl
         clear H
         have H := H1
         clear H1
         have H' := A_ H
         clear H
         have hnb81 := NB268_250.out
         have hnc81 := NB250_268.out
         have hnb82 := NB268_259.out
         have hnc82 := NB259_268.out
         have hnb83 := NB268_263.out
         have hnc83 := NB263_268.out
         have hcz84_0 : w69.cell? ⟨gb268, 0, none⟩ = some (.slice Ao32 t264.length co32) := (blk_cell BK268.out 0).trans rfl
         have hfz84_0 := blk_frozen BK268.out 0
         have hnb85 := NB259_250.out
         have hnc85 := NB250_259.out
         have hnb86 := NB259_263.out
         have hnc86 := NB263_259.out
         have hcz87_0 : w69.cell? ⟨gb259, 0, none⟩ = some (.slice Ao20 t255.length co20) := (blk_cell BK259.out 0).trans rfl
         have hfz87_0 := blk_frozen BK259.out 0
         go_wp2_with (first | (go_at_call 21; (with_reducible refine (laws_eqTree.calls kj10 _ _ t264 _ _ t255 false _ ?side1 ?side2 ?side3 ?side4 A71.out).mono ?_); (case side1 => have hx_ := (Kd.R_reads' HO_269000.out).2.2; exact kc_); (case side2 => exact (Kd.R_reads' HO_269000.out).2.1); (case side3 => have hx_ := (Kd.R_reads' HO_260000.out).2.2; exact kc_); (case side4 => exact (Kd.R_reads' HO_260000.out).2.1); rintro e w88 ⟨rfl, hb⟩; have _ := A_ (Kd.R_below z6_11_ hb); have _ := A_ (Kd.R_below z6_10_ hb); have _ := A_ (Kd.R_below z6_9_ hb); have _ := A_ (Kd.R_below z6_44_ hb); have _ := A_ (blk_below (g := gb250) (o := .cells #[.slice A0_0 l0_0.length c0_0] 24 (0, 0)) z6_2_ hb); have _ := A_ (blk_below (g := gb259) (o := .cells #[.slice Ao20 t255.length co20] 34 (0, 0)) z6_3_ hb); have _ := A_ (blk_below (g := gb263) (o := .cells #[.slice Ao26 t260.length co26] 34 (0, 0)) z6_4_ hb); have _ := A_ (blk_below (g := gb268) (o := .cells #[.slice Ao32 t264.length co32] 34 (0, 0)) z6_6_ hb); have _ := A_ (below_step z6_1_ hb); clear HO_260000 HO_264000 HO_269000 HO272 BK250 BK259 BK263 BK268 HB; rename_i HO_260000 HO_264000 HO_269000 HO272 BK250 BK259 BK263 BK268 HB; (try clear hb)))
         go_meet
         case rel => exact ⟨_, (true), z6_21_, H', ⟨z6_58_⟩, ⟨z6_24_⟩, ⟨z6_22_⟩, ⟨z6_23_⟩, ⟨z6_2_⟩, ⟨z6_3_⟩, ⟨z6_4_⟩, ⟨z6_6_⟩, ⟨z6_1_⟩⟩
      case rest =>
       clear HC60
       try clear c1
       try clear c2
       try clear p2
       try clear c3
       try clear c3b0
       try clear c4
       try clear c5
       try clear c6
       try clear c7
       try clear c8
       try clear c9
       try clear c14
       try clear c17
       try clear c21
       try clear c23
       try clear c27
       try clear c28
       try clear c33
       try clear c34
       try clear c35
       try clear c38
       try clear c39
       try clear c40
       try clear c41
       try clear c43
       try clear c44
       try clear c47
       try clear c48
       try clear c49
       try clear c51
       try clear c52
       try clear c55
       try clear c58
       try clear c65
       try clear c66
       try clear c67
       try clear c70
       try clear c70b0
       try clear c72
       try clear c73
       try clear c74
       try clear c75
       try clear c77
       try clear c78
       try clear c81
       try clear c82
       try clear c83
       try clear c85
       try clear c86
       try clear hcz13_0
       try clear hcz15_0
       try clear hcz22_0
       try clear hcz23_0
       try clear hcz29_0
       try clear hcz36_0
       try clear hcz42_0
       try clear hcz45_0
       try clear hcz50_0
       try clear hcz53_0
       try clear hcz5_0
       try clear hcz68_0
       try clear hcz76_0
       try clear hcz79_0
       try clear hcz84_0
       try clear hcz87_0
       try clear hfz13_0
       try clear hfz15_0
       try clear hfz22_0
       try clear hfz23_0
       try clear hfz29_0
       try clear hfz36_0
       try clear hfz42_0
       try clear hfz45_0
       try clear hfz50_0
       try clear hfz53_0
       try clear hfz5_0
       try clear hfz68_0
       try clear hfz76_0
       try clear hfz79_0
       try clear hfz84_0
       try clear hfz87_0
       try clear p2
       obtain ⟨kq, x61_59, rfl, HA, HJ59, HO_260000, HO_264000, HO_269000, BK250, BK259, BK263, BK268, HB⟩ := hcut
       have hl264000_59 := (Kd.R_reads' HO_264000.out).1
       rw [hl264000_59] at HO_264000
       (try simp only [hl264000_59])
       (try simp only [hl264000_59] at BK250)
       (try simp only [hl264000_59] at BK259)
       (try simp only [hl264000_59] at BK263)
       (try simp only [hl264000_59] at BK268)
       (try simp only [hl264000_59] at HO_260000)
       (try simp only [hl264000_59] at HO_269000)
       cases kq with
       | zero => exact absurd HA.out (by simp [laws_FnExactLeastTree.j1])
       | succ kj59 =>
        have H := HA.out
        clear HA
        simp only [laws_FnExactLeastTree.j1] at H
        by_cases c89 : x61_59 = true
        ·
         subst c89
         have H1 : (some false) = some true := by first | (rw [if_pos rfl] at H; exact H) | rfl
         clear H
         have H := H1
         clear H1
         exact absurd H (by decide)
        ·
         replace c89 := Bool.eq_false_iff.mpr c89
         subst c89
         have H1 : ((laws_markTree.f kj59 t264 1).bind fun bt277 => ((laws_heldTree.f kj59 bt277.2 1).bind fun t279 => (if t279 < 0 then (some false) else (if t279 = bt277.1 then ((laws_toTree.f kj59 l0_0).bind fun t280 => ((impl_LeastTree.f kj59 t280).bind fun bt283 => ((laws_eqTree.f kj59 bt283.1 t255).bind fun t288 => (if t288 = true then (laws_FnExactLeastTree.j2 kj59 bt277.1 (bt283.2 != t258) bt277.2) else (laws_FnExactLeastTree.j2 kj59 bt277.1 true bt277.2))))) else (some false))))) = some true := by first | (rw [if_neg (show ¬ (false = true) by decide)] at H; exact H) | rfl
         clear H
         have H := H1
         clear H1
         replace H := Option.bind_eq_some_iff.mp H
         obtain ⟨⟨t277, t278⟩, A900, H⟩ := H
         try dsimp only at H
         have A90 := A_ A900
         clear A900
         replace H := Option.bind_eq_some_iff.mp H
         obtain ⟨t279, A910, H⟩ := H
         try dsimp only at H
         have A91 := A_ A910
         clear A910
         by_cases c92 : t279 < 0
         ·
          rw [if_pos c92] at H
          have c92b0 := decide_eq_true c92
          clear c92
          exact absurd H (by decide)
         ·
          rw [if_neg c92] at H
          have c92b0 := decide_eq_false c92
          clear c92
          by_cases c93 : t279 = t277
          ·
           rw [if_pos c93] at H
           have c93b0 := beq_iff_eq.mpr c93
           have c93b1 := bne_eq_false_iff_eq.mpr c93
           clear c93
           replace H := Option.bind_eq_some_iff.mp H
           obtain ⟨t280, A940, H⟩ := H
           try dsimp only at H
           have A94 := A_ A940
           clear A940
           replace H := Option.bind_eq_some_iff.mp H
           obtain ⟨⟨t283, t286⟩, A950, H⟩ := H
           try dsimp only at H
           have A95 := A_ A950
           clear A950
           have HC96 := A_ H
           clear H
           have hnb97 := NB268_250.out
           have hnc97 := NB250_268.out
           have hnb98 := NB268_259.out
           have hnc98 := NB259_268.out
           have hnb99 := NB268_263.out
           have hnc99 := NB263_268.out
           have hcz100_0 : wc.cell? ⟨gb268, 0, none⟩ = some (.slice Ao32 t264.length co32) := (blk_cell BK268.out 0).trans rfl
           have hfz100_0 := blk_frozen BK268.out 0
           go_upto_region 25 with (first | ((with_reducible refine gate_callee (f := 23) rfl ?_); refine goesL_ (some 64) rfl rfl Try.func23 (by kernel_rfl) rfl #[.agg #[.slice Ao32 t264.length co32], .int .i64 1] rfl z6_5_ ?_; (with_reducible refine (laws_markTree.calls kj59 (fun k_ => some k_ = (.slice Ao32 t264.length co32 : Value).ownBlock) (.slice Ao32 t264.length co32) t264 1 t277 t278 w _ ?side1 ?side2 A90.out).mono ?_); (case side1 => repeat (first | (with_reducible first | exact HB.out | apply below_alloc | apply pw_below_drewN | apply below_drew1 | refine below_set ?_ GE250.out | refine below_set ?_ GE259.out | refine below_set ?_ GE263.out | refine below_set ?_ GE268.out) | exact HB.out)); (case side2 => exact Kd.R_tight rfl HO_269000.out); rintro e w101 ⟨rfl, hy0, hb, hkp⟩; refine ⟨_, rfl, ?_⟩; have _ := A_ (Kd.R_mono (ok' := fun k_ => some k_ ≠ (.slice Ao26 t275.length co26 : Value).ownBlock ∧ some k_ ≠ (.slice Ao32 t264.length co32 : Value).ownBlock) (Kd.R_keptB (HO_260000.out) hkp (fun k_ hk_ hs_ => (hk_.2) hs_)) (fun k_ hk_ => ⟨hk_.1.1, hk_.1.2⟩)); have _ := A_ (Kd.R_mono (ok' := fun k_ => some k_ ≠ (.slice Ao20 t255.length co20 : Value).ownBlock ∧ some k_ ≠ (.slice Ao32 t264.length co32 : Value).ownBlock) (Kd.R_keptB (HO_264000.out) hkp (fun k_ hk_ hs_ => (hk_.2) hs_)) (fun k_ hk_ => ⟨hk_.1.1, hk_.1.2⟩)); have _ := A_ (Kd.R_reok rfl hy0 (fun k_ e_ => HO_269000.out.1 k_ e_)); have _ := A_ (blk_kept z6_2_ hkp (fun hs_ => (fun e_ => (Kd.R_ne HO_269000.out BK250.out (by decide)) e_) hs_)); have _ := A_ (blk_kept z6_3_ hkp (fun hs_ => (fun e_ => (Kd.R_ne HO_269000.out BK259.out (by decide)) e_) hs_)); have _ := A_ (blk_kept z6_4_ hkp (fun hs_ => (fun e_ => (Kd.R_ne HO_269000.out BK263.out (by decide)) e_) hs_)); have _ := A_ (blk_kept z6_6_ hkp (fun hs_ => (fun e_ => (Kd.R_ne HO_269000.out BK268.out (by decide)) e_) hs_)); have _ := A_ (hb); clear HO_260000 HO_264000 HO_269000 BK250 BK259 BK263 BK268 HB; rename_i HO_260000 HO_264000 HO_269000 BK250 BK259 BK263 BK268 HB; (try clear hb); (try clear hkp); (try clear hy0); have hcz102_0 : w101.cell? ⟨gb268, 0, none⟩ = some (.slice Ao32 t264.length co32) := (blk_cell BK268.out 0).trans rfl; have hfz102_0 := blk_frozen BK268.out 0) | ((with_reducible refine gate_callee (f := 31) rfl ?_); refine goesL_ (some 67) rfl rfl Try.func31 (by kernel_rfl) rfl #[.agg #[.slice Ao32 t278.length co32], .int .i64 1] rfl (by (try simp only [List.map_toArray, List.map_cons, List.map_nil]); first | done | (rw [show t278.length = t264.length from (Kd.R_reads' HO_269000.out).1.symm] <;> rfl) | rfl | (simp only [List.length_drop, List.length_take]; rfl)) ?_; (with_reducible refine (laws_heldTree.calls kj59 _ _ t278 1 t279 _ ?side1 ?side2 A91.out).mono ?_); (case side1 => have hx_ := (Kd.R_reads' HO_269000.out).2.2; exact kc_); (case side2 => rw [show t278.length = t264.length from (Kd.R_reads' HO_269000.out).1.symm]; exact (Kd.R_reads' HO_269000.out).2.1); rintro e w103 ⟨rfl, hb⟩; refine ⟨_, rfl, ?_⟩; have _ := A_ (Kd.R_below z6_11_ hb); have _ := A_ (Kd.R_below z6_10_ hb); have _ := A_ (Kd.R_below z6_9_ hb); have _ := A_ (blk_below (g := gb250) (o := .cells #[.slice A0_0 l0_0.length c0_0] 24 (0, 0)) z6_2_ hb); have _ := A_ (blk_below (g := gb259) (o := .cells #[.slice Ao20 t255.length co20] 34 (0, 0)) z6_3_ hb); have _ := A_ (blk_below (g := gb263) (o := .cells #[.slice Ao26 t275.length co26] 34 (0, 0)) z6_4_ hb); have _ := A_ (blk_below (g := gb268) (o := .cells #[.slice Ao32 t264.length co32] 34 (0, 0)) z6_6_ hb); have _ := A_ (below_step z6_1_ hb); clear HO_260000 HO_264000 HO_269000 BK250 BK259 BK263 BK268 HB; rename_i HO_260000 HO_264000 HO_269000 BK250 BK259 BK263 BK268 HB; (try clear hb); have hnb104 := NB250_259.out; have hnc104 := NB259_250.out; have hnb105 := NB250_263.out; have hnc105 := NB263_250.out; have hcz106_0 : w103.cell? ⟨gb250, 0, none⟩ = some (.slice A0_0 l0_0.length c0_0) := (blk_cell BK250.out 0).trans rfl; have hfz106_0 := blk_frozen BK250.out 0) | ((with_reducible refine gate_callee (f := 17) rfl ?_); refine goesL_ (some 75) rfl rfl Try.func17 (by kernel_rfl) rfl #[.agg #[.slice A0_0 l0_0.length c0_0]] rfl z6_5_ ?_; (with_reducible refine (laws_toTree.calls kj59 _ _ l0_0 t280 _ ?side1 ?side2 A94.out).mono ?_); (case side1 => have hx_ := (Kd.C_below HR0_0.out HB.out); exact kc_); (case side2 => exact HC0_0.out); rintro e w107 ⟨v281, rfl, ho0, hb⟩; refine ⟨_, rfl, ?_⟩; have _ := A_ (Kd.R_elder' z6_11_ (Kd.R_base ho0) hb); have _ := A_ (Kd.R_elder' z6_10_ (Kd.R_base ho0) hb); have _ := A_ (Kd.R_elder' z6_9_ (Kd.R_base ho0) hb); have _ := A_ (Kd.R_lower (Kd.R_new' (Kd.R_new' (Kd.R_new' ho0 (Kd.R_lt z6_11_)) (Kd.R_lt z6_10_)) (Kd.R_lt z6_9_)) (below_size z6_1_)); have _ := A_ (blk_below (g := gb250) (o := .cells #[.slice A0_0 l0_0.length c0_0] 24 (0, 0)) z6_2_ hb); have _ := A_ (blk_below (g := gb259) (o := .cells #[.slice Ao20 t255.length co20] 34 (0, 0)) z6_3_ hb); have _ := A_ (blk_below (g := gb263) (o := .cells #[.slice Ao26 t275.length co26] 34 (0, 0)) z6_4_ hb); have _ := A_ (blk_below (g := gb268) (o := .cells #[.slice Ao32 t264.length co32] 34 (0, 0)) z6_6_ hb); have _ := A_ (below_step z6_1_ hb); clear HO_260000 HO_264000 HO_269000 BK250 BK259 BK263 BK268 HB; rename_i HO_260000 HO_264000 HO_269000 HO282 BK250 BK259 BK263 BK268 HB; (try clear hb); (try clear ho0); obtain ⟨Ao108, co108, eo108⟩ := Kd.R_slice HO282.out; subst eo108) | ((with_reducible refine gate_callee (f := 39) rfl ?_); refine goesL_ (some 76) rfl rfl Try.func39 (by kernel_rfl) rfl #[.agg #[.slice Ao108 t280.length co108]] rfl z6_5_ ?_; (with_reducible refine (impl_LeastTree.calls kj59 _ _ t280 t283 t286 _ ?side1 ?side2 A95.out).mono ?_); (case side1 => have hx_ := (Kd.R_reads' HO282.out).2.2; exact kc_); (case side2 => exact (Kd.R_reads' HO282.out).2.1); rintro e w109 ⟨v284, rfl, ho0, hb⟩; refine ⟨_, rfl, ?_⟩; have _ := A_ (Kd.R_elder' z6_11_ (Kd.R_base ho0) hb); have _ := A_ (Kd.R_elder' z6_10_ (Kd.R_base ho0) hb); have _ := A_ (Kd.R_elder' z6_9_ (Kd.R_base ho0) hb); have _ := A_ (Kd.R_elder' z6_43_ (Kd.R_base ho0) hb); have _ := A_ (Kd.R_lower (Kd.R_new' (Kd.R_new' (Kd.R_new' (Kd.R_new' ho0 (Kd.R_lt z6_11_)) (Kd.R_lt z6_10_)) (Kd.R_lt z6_9_)) (Kd.R_lt z6_43_)) (below_size z6_1_)); have _ := A_ (blk_below (g := gb250) (o := .cells #[.slice A0_0 l0_0.length c0_0] 24 (0, 0)) z6_2_ hb); have _ := A_ (blk_below (g := gb259) (o := .cells #[.slice Ao20 t255.length co20] 34 (0, 0)) z6_3_ hb); have _ := A_ (blk_below (g := gb263) (o := .cells #[.slice Ao26 t275.length co26] 34 (0, 0)) z6_4_ hb); have _ := A_ (blk_below (g := gb268) (o := .cells #[.slice Ao32 t264.length co32] 34 (0, 0)) z6_6_ hb); have _ := A_ (below_step z6_1_ hb); clear HO_260000 HO_264000 HO_269000 HO282 BK250 BK259 BK263 BK268 HB; rename_i HO_260000 HO_264000 HO_269000 HO282 HO285 BK250 BK259 BK263 BK268 HB; (try clear hb); (try clear ho0)) | ((with_reducible refine gate_dst (N := 12) rfl ?_); refine box_event ?hg (N := 12) ?hd (cs := #[.slice none 0 0]) (t := 34) ?hr ?_; (case hd => rfl); (case hg => rfl); (case hr => first | (go_simp; done) | (go_simp; rfl)); intro gb287 hg w110 hbox hb; have _ := A_ (Kd.R_below z6_11_ hb); have _ := A_ (Kd.R_below z6_10_ hb); have _ := A_ (Kd.R_below z6_9_ hb); have _ := A_ (Kd.R_below z6_43_ hb); have _ := A_ (Kd.R_below (by (with_reducible repeat (first | apply Kd.R_alloc | apply Kd.R_drewN | apply Kd.R_drew)); exact HO285.out) hb); have _ := A_ (blk_below (g := gb250) (o := .cells #[.slice A0_0 l0_0.length c0_0] 24 (0, 0)) z6_2_ hb); have _ := A_ (blk_below (g := gb259) (o := .cells #[.slice Ao20 t255.length co20] 34 (0, 0)) z6_3_ hb); have _ := A_ (blk_below (g := gb263) (o := .cells #[.slice Ao26 t275.length co26] 34 (0, 0)) z6_4_ hb); have _ := A_ (blk_below (g := gb268) (o := .cells #[.slice Ao32 t264.length co32] 34 (0, 0)) z6_6_ hb); have _ := A_ (below_step z6_1_ hb); have _ := A_ (hbox); have _ := A_ ((by rw [hg]; exact (below_size z6_1_) : w.heap.size ≤ gb287)); have _ := A_ ((by rw [hg]; exact (below_size z6_1_) : w.heap.size ≤ gb287)); have _ := A_ ((by rw [hg]; exact Nat.ne_of_lt (blk_lt (g := gb250) (o := .cells #[.slice A0_0 l0_0.length c0_0] 24 (0, 0)) z6_2_) : gb250 ≠ gb287)); have _ := A_ ((by rw [hg]; exact Nat.ne_of_gt (blk_lt (g := gb250) (o := .cells #[.slice A0_0 l0_0.length c0_0] 24 (0, 0)) z6_2_) : gb287 ≠ gb250)); have _ := A_ ((by rw [hg]; exact Nat.ne_of_lt (blk_lt (g := gb259) (o := .cells #[.slice Ao20 t255.length co20] 34 (0, 0)) z6_3_) : gb259 ≠ gb287)); have _ := A_ ((by rw [hg]; exact Nat.ne_of_gt (blk_lt (g := gb259) (o := .cells #[.slice Ao20 t255.length co20] 34 (0, 0)) z6_3_) : gb287 ≠ gb259)); have _ := A_ ((by rw [hg]; exact Nat.ne_of_lt (blk_lt (g := gb263) (o := .cells #[.slice Ao26 t275.length co26] 34 (0, 0)) z6_4_) : gb263 ≠ gb287)); have _ := A_ ((by rw [hg]; exact Nat.ne_of_gt (blk_lt (g := gb263) (o := .cells #[.slice Ao26 t275.length co26] 34 (0, 0)) z6_4_) : gb287 ≠ gb263)); have _ := A_ ((by rw [hg]; exact Nat.ne_of_lt (blk_lt (g := gb268) (o := .cells #[.slice Ao32 t264.length co32] 34 (0, 0)) z6_6_) : gb268 ≠ gb287)); have _ := A_ ((by rw [hg]; exact Nat.ne_of_gt (blk_lt (g := gb268) (o := .cells #[.slice Ao32 t264.length co32] 34 (0, 0)) z6_6_) : gb287 ≠ gb268)); clear HO_260000 HO_264000 HO_269000 HO282 HO285 BK250 BK259 BK263 BK268 HB; rename_i HO_260000 HO_264000 HO_269000 HO282 HO285 BK250 BK259 BK263 BK268 HB BK287 GW287 GE287 NB250_287 NB287_250 NB259_287 NB287_259 NB263_287 NB287_263 NB268_287 NB287_268; clear hb hbox hg; obtain ⟨Ao111, co111, eo111⟩ := Kd.R_slice HO285.out; subst eo111; have hnb112 := NB287_250.out; have hnc112 := NB250_287.out; have hnb113 := NB287_259.out; have hnc113 := NB259_287.out; have hnb114 := NB287_263.out; have hnc114 := NB263_287.out; have hnb115 := NB287_268.out; have hnc115 := NB268_287.out; have hcz116_0 : w110.cell? ⟨gb287, 0, none⟩ = some (.slice none 0 0) := (blk_cell BK287.out 0).trans rfl; have hfz116_0 := blk_frozen BK287.out 0))
           (try simp only [Act.put, sA_, sB_, sC_])
           go_cut [87] (fun v87 wc => ∃ (kq : Nat) (x87_95 : Bool), v87 = .bool x87_95 ∧ Aside0 (laws_FnExactLeastTree.j2 kq t277 x87_95 t278 = some true) ∧ Aside0 (kq ≤ kj59) ∧ Aside0 (Kd.R k89 89 wc w.heap.size (fun k_ => some k_ ≠ ((.slice Ao26 t275.length co26) : Value).ownBlock ∧ some k_ ≠ ((.slice Ao32 t264.length co32) : Value).ownBlock ∧ some k_ ≠ ((.slice Ao111 t283.length co111) : Value).ownBlock) (.slice Ao20 t255.length co20) t255) ∧ Aside0 (Kd.R k89 89 wc w.heap.size (fun k_ => some k_ ≠ ((.slice Ao20 t255.length co20) : Value).ownBlock ∧ some k_ ≠ ((.slice Ao32 t264.length co32) : Value).ownBlock ∧ some k_ ≠ ((.slice Ao111 t283.length co111) : Value).ownBlock) (.slice Ao26 t275.length co26) t275) ∧ Aside0 (Kd.R k89 89 wc w.heap.size (fun k_ => some k_ ≠ ((.slice Ao20 t255.length co20) : Value).ownBlock ∧ some k_ ≠ ((.slice Ao26 t275.length co26) : Value).ownBlock ∧ some k_ ≠ ((.slice Ao111 t283.length co111) : Value).ownBlock) (.slice Ao32 t264.length co32) t278) ∧ Aside0 (Kd.R k89 89 wc w.heap.size (fun k_ => some k_ ≠ ((.slice Ao20 t255.length co20) : Value).ownBlock ∧ some k_ ≠ ((.slice Ao26 t275.length co26) : Value).ownBlock ∧ some k_ ≠ ((.slice Ao32 t264.length co32) : Value).ownBlock) (.slice Ao111 t283.length co111) t283) ∧ Aside0 (wc.heap[gb250]? = some (.cells #[(.slice A0_0 l0_0.length c0_0)] 24 (0, 0))) ∧ Aside0 (wc.heap[gb259]? = some (.cells #[(.slice Ao20 t255.length co20)] 34 (0, 0))) ∧ Aside0 (wc.heap[gb263]? = some (.cells #[(.slice Ao26 t275.length co26)] 34 (0, 0))) ∧ Aside0 (wc.heap[gb268]? = some (.cells #[(.slice Ao32 t264.length co32)] 34 (0, 0))) ∧ Aside0 (wc.heap[gb287]? = some (.cells #[(.slice Ao111 t283.length co111)] 34 (0, 0))) ∧ Aside0 (Below w.heap.size w wc))
           case first =>
            have H := HC96.out
            clear HC96
            replace H := Option.bind_eq_some_iff.mp H
            obtain ⟨t288, A1170, H⟩ := H
            try dsimp only at H
            have A117 := A_ A1170
            clear A1170
            by_cases c118 : t288 = true
            ·
             subst c118
             have H1 : (laws_FnExactLeastTree.j2 kj59 t277 (t286 != t258) t278) = some true := by first | (rw [if_pos rfl] at H; exact H) | rfl
             clear H
             have H := H1
             clear H1
             have H' := A_ H
             clear H
             have hnb119 := NB287_250.out
             have hnc119 := NB250_287.out
             have hnb120 := NB287_259.out
             have hnc120 := NB259_287.out
             have hnb121 := NB287_263.out
             have hnc121 := NB263_287.out
             have hnb122 := NB287_268.out
             have hnc122 := NB268_287.out
             have hcz123_0 : w110.cell? ⟨gb287, 0, none⟩ = some (.slice none 0 0) := (blk_cell BK287.out 0).trans rfl
             have hfz123_0 := blk_frozen BK287.out 0
             have hnb124 := NB259_250.out
             have hnc124 := NB250_259.out
             have hnb125 := NB259_263.out
             have hnc125 := NB263_259.out
             have hnb126 := NB259_268.out
             have hnc126 := NB268_259.out
             have hcz127_0 : w110.cell? ⟨gb259, 0, none⟩ = some (.slice Ao20 t255.length co20) := (blk_cell BK259.out 0).trans rfl
             have hfz127_0 := blk_frozen BK259.out 0
             go_wp2_with (first | ((with_reducible refine gate_callee (f := 21) rfl ?_); refine goesL_ (some 81) rfl rfl Try.func21 (by kernel_rfl) rfl #[.agg #[.slice Ao111 t283.length co111], .agg #[.slice Ao20 t255.length co20]] rfl z6_5_ ?_; (with_reducible refine (laws_eqTree.calls kj59 _ _ t283 _ _ t255 true _ ?side1 ?side2 ?side3 ?side4 A117.out).mono ?_); (case side1 => refine (Kd.R_reads' (e := 89) (base := w.heap.size) (ok := fun k_ => ((((True ∧ some k_ ≠ (.slice Ao20 t255.length co20 : Value).ownBlock) ∧ some k_ ≠ (.slice Ao26 t275.length co26 : Value).ownBlock) ∧ some k_ ≠ (.slice Ao32 t264.length co32 : Value).ownBlock) ∧ some k_ ≠ (.slice Ao108 t280.length co108 : Value).ownBlock)) (n := t283.length) (c := co111) ?_).2.2; exact z6_15_); (case side2 => exact (Kd.R_reads' HO285.out).2.1); (case side3 => refine (Kd.R_reads' (e := 89) (base := w.heap.size) (ok := fun k_ => (((some k_ ≠ (.slice Ao26 t275.length co26 : Value).ownBlock ∧ some k_ ≠ (.slice Ao32 t264.length co32 : Value).ownBlock) ∧ some k_ ≠ (.slice Ao108 t280.length co108 : Value).ownBlock) ∧ some k_ ≠ (.slice Ao111 t283.length co111 : Value).ownBlock)) (n := t255.length) (c := co20) ?_).2.2; exact z6_14_); (case side4 => exact (Kd.R_reads' HO_260000.out).2.1); rintro e w128 ⟨rfl, hb⟩; refine ⟨_, rfl, ?_⟩; have _ := A_ (Kd.R_below z6_14_ hb); have _ := A_ (Kd.R_below z6_28_ hb); have _ := A_ (Kd.R_below z6_27_ hb); have _ := A_ (Kd.R_below z6_29_ hb); have _ := A_ (Kd.R_below z6_15_ hb); have _ := A_ (blk_below (g := gb250) (o := .cells #[.slice A0_0 l0_0.length c0_0] 24 (0, 0)) z6_41_ hb); have _ := A_ (blk_below (g := gb259) (o := .cells #[.slice Ao20 t255.length co20] 34 (0, 0)) z6_39_ hb); have _ := A_ (blk_below (g := gb263) (o := .cells #[.slice Ao26 t275.length co26] 34 (0, 0)) z6_37_ hb); have _ := A_ (blk_below (g := gb268) (o := .cells #[.slice Ao32 t264.length co32] 34 (0, 0)) z6_36_ hb); have _ := A_ (blk_below (g := gb287) (o := .cells #[.slice Ao111 t283.length co111] 34 (0, 0)) z6_25_ hb); have _ := A_ (below_step z6_8_ hb); clear HO_260000 HO_264000 HO_269000 HO282 HO285 BK250 BK259 BK263 BK268 BK287 HB; rename_i HO_260000 HO_264000 HO_269000 HO282 HO285 BK250 BK259 BK263 BK268 BK287 HB; (try clear hb)))
             go_meet
             case rel => exact ⟨_, ((t286 != t258)), z6_21_, H', ⟨(by have := HJ10.out; have := HJ59.out; first | omega | exact Nat.le_refl _)⟩, ⟨z6_48_⟩, ⟨z6_47_⟩, ⟨z6_46_⟩, ⟨z6_49_⟩, ⟨z6_54_⟩, ⟨z6_53_⟩, ⟨z6_52_⟩, ⟨z6_51_⟩, ⟨z6_50_⟩, ⟨z6_8_⟩⟩
            ·
             replace c118 := Bool.eq_false_iff.mpr c118
             subst c118
             have H1 : (laws_FnExactLeastTree.j2 kj59 t277 true t278) = some true := by first | (rw [if_neg (show ¬ (false = true) by decide)] at H; exact H) | rfl
             clear H
             have H := H1
             clear H1
             have H' := A_ H
             clear H
             have hnb129 := NB287_250.out
             have hnc129 := NB250_287.out
             have hnb130 := NB287_259.out
             have hnc130 := NB259_287.out
             have hnb131 := NB287_263.out
             have hnc131 := NB263_287.out
             have hnb132 := NB287_268.out
             have hnc132 := NB268_287.out
             have hcz133_0 : w110.cell? ⟨gb287, 0, none⟩ = some (.slice none 0 0) := (blk_cell BK287.out 0).trans rfl
             have hfz133_0 := blk_frozen BK287.out 0
             have hnb134 := NB259_250.out
             have hnc134 := NB250_259.out
             have hnb135 := NB259_263.out
             have hnc135 := NB263_259.out
             have hnb136 := NB259_268.out
             have hnc136 := NB268_259.out
             have hcz137_0 : w110.cell? ⟨gb259, 0, none⟩ = some (.slice Ao20 t255.length co20) := (blk_cell BK259.out 0).trans rfl
             have hfz137_0 := blk_frozen BK259.out 0
             go_wp2_with (first | ((with_reducible refine gate_callee (f := 21) rfl ?_); refine goesL_ (some 81) rfl rfl Try.func21 (by kernel_rfl) rfl #[.agg #[.slice Ao111 t283.length co111], .agg #[.slice Ao20 t255.length co20]] rfl z6_5_ ?_; (with_reducible refine (laws_eqTree.calls kj59 _ _ t283 _ _ t255 false _ ?side1 ?side2 ?side3 ?side4 A117.out).mono ?_); (case side1 => refine (Kd.R_reads' (e := 89) (base := w.heap.size) (ok := fun k_ => ((((True ∧ some k_ ≠ (.slice Ao20 t255.length co20 : Value).ownBlock) ∧ some k_ ≠ (.slice Ao26 t275.length co26 : Value).ownBlock) ∧ some k_ ≠ (.slice Ao32 t264.length co32 : Value).ownBlock) ∧ some k_ ≠ (.slice Ao108 t280.length co108 : Value).ownBlock)) (n := t283.length) (c := co111) ?_).2.2; exact z6_15_); (case side2 => exact (Kd.R_reads' HO285.out).2.1); (case side3 => refine (Kd.R_reads' (e := 89) (base := w.heap.size) (ok := fun k_ => (((some k_ ≠ (.slice Ao26 t275.length co26 : Value).ownBlock ∧ some k_ ≠ (.slice Ao32 t264.length co32 : Value).ownBlock) ∧ some k_ ≠ (.slice Ao108 t280.length co108 : Value).ownBlock) ∧ some k_ ≠ (.slice Ao111 t283.length co111 : Value).ownBlock)) (n := t255.length) (c := co20) ?_).2.2; exact z6_14_); (case side4 => exact (Kd.R_reads' HO_260000.out).2.1); rintro e w138 ⟨rfl, hb⟩; refine ⟨_, rfl, ?_⟩; have _ := A_ (Kd.R_below z6_14_ hb); have _ := A_ (Kd.R_below z6_28_ hb); have _ := A_ (Kd.R_below z6_27_ hb); have _ := A_ (Kd.R_below z6_29_ hb); have _ := A_ (Kd.R_below z6_15_ hb); have _ := A_ (blk_below (g := gb250) (o := .cells #[.slice A0_0 l0_0.length c0_0] 24 (0, 0)) z6_41_ hb); have _ := A_ (blk_below (g := gb259) (o := .cells #[.slice Ao20 t255.length co20] 34 (0, 0)) z6_39_ hb); have _ := A_ (blk_below (g := gb263) (o := .cells #[.slice Ao26 t275.length co26] 34 (0, 0)) z6_37_ hb); have _ := A_ (blk_below (g := gb268) (o := .cells #[.slice Ao32 t264.length co32] 34 (0, 0)) z6_36_ hb); have _ := A_ (blk_below (g := gb287) (o := .cells #[.slice Ao111 t283.length co111] 34 (0, 0)) z6_25_ hb); have _ := A_ (below_step z6_8_ hb); clear HO_260000 HO_264000 HO_269000 HO282 HO285 BK250 BK259 BK263 BK268 BK287 HB; rename_i HO_260000 HO_264000 HO_269000 HO282 HO285 BK250 BK259 BK263 BK268 BK287 HB; (try clear hb)))
             go_meet
             case rel => exact ⟨_, (true), z6_21_, H', ⟨(by have := HJ10.out; have := HJ59.out; first | omega | exact Nat.le_refl _)⟩, ⟨z6_48_⟩, ⟨z6_47_⟩, ⟨z6_46_⟩, ⟨z6_49_⟩, ⟨z6_54_⟩, ⟨z6_53_⟩, ⟨z6_52_⟩, ⟨z6_51_⟩, ⟨z6_50_⟩, ⟨z6_8_⟩⟩
           case rest =>
            clear HC96
            try clear c1
            try clear c2
            try clear p2
            try clear c3
            try clear c3b0
            try clear c4
            try clear c5
            try clear c6
            try clear c7
            try clear c8
            try clear c9
            try clear c10
            try clear c11
            try clear c12
            try clear c13
            try clear c14
            try clear c17
            try clear c21
            try clear c23
            try clear c27
            try clear c28
            try clear c31
            try clear c33
            try clear c34
            try clear c35
            try clear c38
            try clear c39
            try clear c40
            try clear c41
            try clear c43
            try clear c44
            try clear c47
            try clear c48
            try clear c49
            try clear c51
            try clear c52
            try clear c55
            try clear c58
            try clear c65
            try clear c66
            try clear c67
            try clear c70
            try clear c70b0
            try clear c72
            try clear c73
            try clear c74
            try clear c75
            try clear c77
            try clear c78
            try clear c81
            try clear c82
            try clear c83
            try clear c85
            try clear c86
            try clear c89
            try clear c92
            try clear c92b0
            try clear c93
            try clear c93b0
            try clear c93b1
            try clear c97
            try clear c98
            try clear c99
            try clear c104
            try clear c105
            try clear c112
            try clear c113
            try clear c114
            try clear c115
            try clear c118
            try clear c119
            try clear c120
            try clear c121
            try clear c122
            try clear c124
            try clear c125
            try clear c126
            try clear c129
            try clear c130
            try clear c131
            try clear c132
            try clear c134
            try clear c135
            try clear c136
            try clear hcz100_0
            try clear hcz102_0
            try clear hcz106_0
            try clear hcz116_0
            try clear hcz123_0
            try clear hcz127_0
            try clear hcz133_0
            try clear hcz137_0
            try clear hcz13_0
            try clear hcz15_0
            try clear hcz22_0
            try clear hcz23_0
            try clear hcz29_0
            try clear hcz36_0
            try clear hcz42_0
            try clear hcz45_0
            try clear hcz50_0
            try clear hcz53_0
            try clear hcz5_0
            try clear hcz68_0
            try clear hcz76_0
            try clear hcz79_0
            try clear hcz84_0
            try clear hcz87_0
            try clear hfz100_0
            try clear hfz102_0
            try clear hfz106_0
            try clear hfz116_0
            try clear hfz123_0
            try clear hfz127_0
            try clear hfz133_0
            try clear hfz137_0
            try clear hfz13_0
            try clear hfz15_0
            try clear hfz22_0
            try clear hfz23_0
            try clear hfz29_0
            try clear hfz36_0
            try clear hfz42_0
            try clear hfz45_0
            try clear hfz50_0
            try clear hfz53_0
            try clear hfz5_0
            try clear hfz68_0
            try clear hfz76_0
            try clear hfz79_0
            try clear hfz84_0
            try clear hfz87_0
            try clear p2
            obtain ⟨kq, x87_95, rfl, HA, HJ95, HO_260000, HO_264000, HO_269000, HO_288000, BK250, BK259, BK263, BK268, BK287, HB⟩ := hcut
            have hl269000_95 := (Kd.R_reads' HO_269000.out).1
            rw [hl269000_95] at HO_269000
            (try simp only [hl269000_95])
            (try simp only [hl269000_95] at BK250)
            (try simp only [hl269000_95] at BK259)
            (try simp only [hl269000_95] at BK263)
            (try simp only [hl269000_95] at BK268)
            (try simp only [hl269000_95] at BK287)
            (try simp only [hl269000_95] at HO_260000)
            (try simp only [hl269000_95] at HO_264000)
            (try simp only [hl269000_95] at HO_288000)
            cases kq with
            | zero => exact absurd HA.out (by simp [laws_FnExactLeastTree.j2])
            | succ kj95 =>
             have H := HA.out
             clear HA
             simp only [laws_FnExactLeastTree.j2] at H
             by_cases c139 : x87_95 = true
             ·
              subst c139
              have H1 : (some false) = some true := by first | (rw [if_pos rfl] at H; exact H) | rfl
              clear H
              have H := H1
              clear H1
              exact absurd H (by decide)
             ·
              replace c139 := Bool.eq_false_iff.mpr c139
              subst c139
              have H1 : ((laws_heldTree.f kj95 t278 1).bind fun t289 => (if t289 < 0 then (some false) else (if t289 = t277 then (some true) else (some false)))) = some true := by first | (rw [if_neg (show ¬ (false = true) by decide)] at H; exact H) | rfl
              clear H
              have H := H1
              clear H1
              replace H := Option.bind_eq_some_iff.mp H
              obtain ⟨t289, A1400, H⟩ := H
              try dsimp only at H
              have A140 := A_ A1400
              clear A1400
              by_cases c141 : t289 < 0
              ·
               rw [if_pos c141] at H
               have c141b0 := decide_eq_true c141
               clear c141
               exact absurd H (by decide)
              ·
               rw [if_neg c141] at H
               have c141b0 := decide_eq_false c141
               clear c141
               by_cases c142 : t289 = t277
               ·
                rw [if_pos c142] at H
                have c142b0 := beq_iff_eq.mpr c142
                have c142b1 := bne_eq_false_iff_eq.mpr c142
                clear c142
                clear H
                have hnb143 := NB268_250.out
                have hnc143 := NB250_268.out
                have hnb144 := NB268_259.out
                have hnc144 := NB259_268.out
                have hnb145 := NB268_263.out
                have hnc145 := NB263_268.out
                have hnb146 := NB268_287.out
                have hnc146 := NB287_268.out
                have hcz147_0 : wc.cell? ⟨gb268, 0, none⟩ = some (.slice Ao32 t278.length co32) := (blk_cell BK268.out 0).trans rfl
                have hfz147_0 := blk_frozen BK268.out 0
                go_wp2_with (first | ((with_reducible refine gate_callee (f := 31) rfl ?_); refine goesL_ (some 90) rfl rfl Try.func31 (by kernel_rfl) rfl #[.agg #[.slice Ao32 t278.length co32], .int .i64 1] rfl z6_5_ ?_; (with_reducible refine (laws_heldTree.calls kj95 _ _ t278 1 t289 _ ?side1 ?side2 A140.out).mono ?_); (case side1 => have hx_ := (Kd.R_reads' HO_269000.out).2.2; exact kc_); (case side2 => exact (Kd.R_reads' HO_269000.out).2.1); rintro e w148 ⟨rfl, hb⟩; refine ⟨_, rfl, ?_⟩; have _ := A_ (Kd.R_below z6_11_ hb); have _ := A_ (Kd.R_below z6_10_ hb); have _ := A_ (Kd.R_below z6_9_ hb); have _ := A_ (Kd.R_below (by (with_reducible repeat (first | apply Kd.R_alloc | apply Kd.R_drewN | apply Kd.R_drew)); exact HO_288000.out) hb); have _ := A_ (blk_below (g := gb250) (o := .cells #[.slice A0_0 l0_0.length c0_0] 24 (0, 0)) z6_2_ hb); have _ := A_ (blk_below (g := gb259) (o := .cells #[.slice Ao20 t255.length co20] 34 (0, 0)) z6_3_ hb); have _ := A_ (blk_below (g := gb263) (o := .cells #[.slice Ao26 t275.length co26] 34 (0, 0)) z6_4_ hb); have _ := A_ (blk_below (g := gb268) (o := .cells #[.slice Ao32 t278.length co32] 34 (0, 0)) z6_6_ hb); have _ := A_ (blk_below (g := gb287) (o := .cells #[.slice Ao111 t283.length co111] 34 (0, 0)) (by (with_reducible repeat (first | refine blk_drewN ?_ _ | refine blk_drew ?_ | refine blk_alloc ?_ _)); exact BK287.out) hb); have _ := A_ (below_step z6_8_ hb); clear HO_260000 HO_264000 HO_269000 HO_288000 BK250 BK259 BK263 BK268 BK287 HB; rename_i HO_260000 HO_264000 HO_269000 HO_288000 BK250 BK259 BK263 BK268 BK287 HB; (try clear hb)))
                go_ret
                exact ⟨z6_60_, z6_8_⟩
               ·
                rw [if_neg c142] at H
                have c142b0 : (t289 == t277) = false := beq_eq_false_iff_ne.mpr c142
                have c142b1 : (t289 != t277) = true := bne_iff_ne.mpr c142
                exact absurd H (by decide)
          ·
           rw [if_neg c93] at H
           have c93b0 : (t279 == t277) = false := beq_eq_false_iff_ne.mpr c93
           have c93b1 : (t279 != t277) = true := bne_iff_ne.mpr c93
           exact absurd H (by decide)
     ·
      replace c58 := Bool.eq_false_iff.mpr c58
      subst c58
      have H1 : (some false) = some true := by first | (rw [if_neg (show ¬ (false = true) by decide)] at H; exact H) | rfl
      clear H
      have H := H1
      clear H1
      exact absurd H (by decide)
end Go.Proofs.Ytpfnohdnaocpdaa.PT

/- (impl.Tree).least by hand. -/
import Derived.Test.YtpfnohdnaocpdaaPTx5
import Derived.Test.YtpfnohdnaocpdaaPTx2
import Derived.Test.YtpfnohdnaocpdaaPTleastA
import Derived.Deep.RegionWith
namespace Go.Proofs.Ytpfnohdnaocpdaa.PT
open Go.RowKit Go.Proofs.YtpfnohdnaocpdaaW.PrintWords Go.Proofs.YtpfnohdnaocpdaaW.PrintLast Go.Proofs.YtpfnohdnaocpdaaW.PrintMore Go.Lib Go.Proofs.YtpfnohdnaocpdaaRP
set_option linter.unusedVariables false
set_option linter.unusedSimpArgs false
theorem infoI85 : (Try.prog.info? 85).map (fun i => (i.zero, i.size, i.bytes)) = some (some (.int .i16 0), 1, 2) := by kernel_rfl
theorem chkR_of {l : List S89} {R : List Int} (h : chkR l R = true) : 0 < R.length ∧ R.length ≤ 60 ∧ ∀ a ∈ R, 0 ≤ a ∧ a < (l.length : Int) := by
  unfold chkR at h
  rw [Bool.and_eq_true, decide_eq_true_iff, List.all_eq_true] at h
  exact ⟨h.1.1, h.1.2, fun a ha => of_decide_eq_true (h.2 a ha)⟩
theorem chkM_rd {M : List S89} (h : chkM M = true) (i : Nat) (hi : i < M.length) : -128 ≤ (rd_T89 M (i : Int)).f1 ∧ (rd_T89 M (i : Int)).f1 ≤ 127 := by
  unfold chkM at h
  rw [Bool.and_eq_true, List.all_eq_true] at h
  have e : rd_T89 M (i : Int) = M[i] := by simp [rd_T89, List.getD, hi]
  rw [e]
  exact of_decide_eq_true (h.2 _ (List.getElem_mem hi))
theorem renT_len (T : List S89) (R : List Int) (g : Int → Int) : (renT T R g).length = R.length := by simp [renT]
/-- What lies fixed while the classes are found. -/
structure LX (M : List S89) (gm cm : Nat) (oM : Obj) (tb rb : Nat) (wr : World) : Prop where
  m : wr.heap[gm]? = some oM
  t : wr.heap[tb]? = some (.cells #[.slice (some ⟨gm, 0, none⟩) M.length cm] 34 (0, 0))
  r : wr.heap[rb]? = some (.cells #[.slice none 0 0] 34 (0, 0))
theorem LX.below {M : List S89} {gm cm : Nat} {oM : Obj} {tb rb : Nat} {w w1 : World} (h : LX M gm cm oM tb rb w) (hb : Below w.heap.size w w1) : LX M gm cm oM tb rb w1 :=
  ⟨(hb.block _ (blk_lt_ h.m)).trans h.m, (hb.block _ (blk_lt_ h.t)).trans h.t, (hb.block _ (blk_lt_ h.r)).trans h.r⟩
theorem LX.ks {M : List S89} {gm cm : Nat} {oM : Obj} {tb rb : Nat} {w w1 : World} (h : LX M gm cm oM tb rb w) {T : List Nat} (hk : Ks T w w1) (hT : 34 ∉ T) (hm : w1.heap[gm]? = w.heap[gm]?) : LX M gm cm oM tb rb w1 :=
  ⟨hm.trans h.m, hk.2 _ _ _ _ h.t hT, hk.2 _ _ _ _ h.r hT⟩
theorem LX.far {M : List S89} {gm cm : Nat} {oM : Obj} {tb rb : Nat} {w : World} (h : LX M gm cm oM tb rb w) {p : Addr} (u : Value) (h1 : gm ≠ p.block) (h2 : tb ≠ p.block) (h3 : rb ≠ p.block) : LX M gm cm oM tb rb (w.setCell p u) :=
  ⟨hs_ne u h.m h1, hs_ne u h.t h2, hs_ne u h.r h3⟩
theorem B16.atI {g : Nat} {xs : List Int} {w : World} (h : B16 g xs w) {i : Int} (h0 : 0 ≤ i) (h1 : i < xs.length) : w.cell? ⟨g, i.toNat, none⟩ = some (.int .i16 (rd xs i)) := by
  obtain ⟨n, rfl⟩ : ∃ n : Nat, i = (n : Int) := ⟨i.toNat, by omega⟩
  exact h.at (by omega)
theorem B16.type {g : Nat} {xs : List Int} {w : World} (h : B16 g xs w) : ∃ cur : Array Value, w.heap[g]? = some (.cells cur 85 (0, 0)) := by
  obtain ⟨cur, hc, _⟩ := h
  exact ⟨cur, hc⟩
theorem ky_len (M : List S89) (p : List Int) : (kyW M p).length = M.length := by simp [kyW]
theorem ne_len (M : List S89) (p : List Int) : (neW M p).length = M.length := by simp [neW, kyW]
theorem ky_take (M : List S89) (p : List Int) (i : Nat) (hi : i < M.length) : (kyW M p).take (i + 1) = (kyW M p).take i ++ [renN (rd p) (rd_T89 M (i : Int))] := by
  rw [List.take_add_one]
  simp [kyW, rd_T89, List.getD, hi]
theorem fo_step (M : List S89) (p : List Int) (i : Nat) (hi : i < M.length) : fndL (fndsL [] ((kyW M p).take i)) (renN (rd p) (rd_T89 M (i : Int))) = fndsL [] ((kyW M p).take (i + 1)) := by
  rw [ky_take M p i hi, fndsL_snoc]
theorem fo_pre (M : List S89) (p : List Int) (i : Nat) : fndsL [] ((kyW M p).take i) <+: foW M p := by
  unfold foW
  have h : ∀ (a b xs : List S89), fndsL xs (a ++ b) = fndsL (fndsL xs a) b := by
    intro a
    induction a with
    | nil => intro b xs; rfl
    | cons x a ih => intro b xs; exact ih b _
  have e := h ((kyW M p).take i) ((kyW M p).drop i) []
  rw [List.take_append_drop] at e
  rw [e]
  exact fndsL_pre _ _
theorem fo_len (M : List S89) (p : List Int) (i : Nat) : (fndsL [] ((kyW M p).take i)).length ≤ M.length := by
  have h := fndsL_len ((kyW M p).take i) []
  rw [List.length_nil, List.length_take, ky_len] at h
  omega
theorem ne_step (M : List S89) (p : List Int) (ys : List Int) (i : Nat) (hi : i < M.length) (hy : ys.length = M.length) (h : ys.take i = (neW M p).take i) : (ys.set i ((ixP (fndsL [] ((kyW M p).take i)) (renN (rd p) (rd_T89 M (i : Int))) : Nat) : Int)).take (i + 1) = (neW M p).take (i + 1) := by
  rw [List.take_add_one, List.take_add_one, List.take_set, List.set_eq_of_length_le (by simp; omega), h, List.getElem?_set_self (by omega)]
  congr 2
  have hk : (kyW M p)[i]? = some (renN (rd p) (rd_T89 M (i : Int))) := by simp [kyW, rd_T89, List.getD, hi]
  unfold neW
  rw [List.getElem?_map, hk]
  obtain ⟨h1, h2, h3⟩ := fndL_has (fndsL [] ((kyW M p).take i)) (renN (rd p) (rd_T89 M (i : Int)))
  rw [fo_step M p i hi] at h2 h3
  have h4 := ixP_pre (fo_pre M p (i + 1)) (p := renN (rd p) (rd_T89 M (i : Int))) (by rw [h2]; exact h3)
  rw [← h2, ← h4]
  rfl
theorem ren_I16 {g : Int → Int} {x : S89} (h0 : x.f0 = 1 ∨ x.f0 = 2) (h1 : -128 ≤ x.f1 ∧ x.f1 ≤ 127) (hw : ∀ v ∈ waysL x, -1 ≤ g v ∧ g v ≤ 60) (h2 : 0 ≤ x.f2.f0 ∧ x.f2.f0 ≤ 60) (h3 : 0 ≤ x.f2.f1 ∧ x.f2.f1 ≤ 60) (h4 : 0 ≤ x.f2.f2 ∧ x.f2.f2 ≤ 60) : I16p (renN g x) := by
  unfold renN
  unfold waysL at hw
  have w8 : ∀ v : Int, -128 ≤ v → v ≤ 127 → (Lit.int .i8 v).wf = true := fun v a b => WalkArith.wf_i8 ⟨a, b⟩
  by_cases c : x.f0 = 2
  · rw [if_pos c] at hw ⊢
    have a := hw x.f2.f0 (by simp)
    exact ⟨w8 _ (by show -128 ≤ x.f0; omega) (by show x.f0 ≤ 127; omega), w8 _ h1.1 h1.2, wf16 (by show _ ≤ g x.f2.f0; omega) (by show g x.f2.f0 ≤ _; omega), wf16 (by show _ ≤ x.f2.f1; omega) (by show x.f2.f1 ≤ _; omega), wf16 (by show _ ≤ x.f2.f2; omega) (by show x.f2.f2 ≤ _; omega)⟩
  · rw [if_neg c] at hw ⊢
    have a := hw x.f2.f0 (by simp)
    have b := hw x.f2.f1 (by simp)
    have d := hw x.f2.f2 (by simp)
    exact ⟨w8 _ (by show -128 ≤ x.f0; omega) (by show x.f0 ≤ 127; omega), w8 _ h1.1 h1.2, wf16 (by show _ ≤ g x.f2.f0; omega) (by show g x.f2.f0 ≤ _; omega), wf16 (by show _ ≤ g x.f2.f1; omega) (by show g x.f2.f1 ≤ _; omega), wf16 (by show _ ≤ g x.f2.f2; omega) (by show g x.f2.f2 ≤ _; omega)⟩
theorem rd_in60 {p : List Int} (h : ∀ v ∈ p, 0 ≤ v ∧ v ≤ 60) {i : Int} (h0 : 0 ≤ i) (h1 : i < p.length) : 0 ≤ rd p i ∧ rd p i ≤ 60 := by
  obtain ⟨n, rfl⟩ : ∃ n : Nat, i = (n : Int) := ⟨i.toNat, by omega⟩
  exact h _ (rdR_mem (by omega))
end Go.Proofs.Ytpfnohdnaocpdaa.PT

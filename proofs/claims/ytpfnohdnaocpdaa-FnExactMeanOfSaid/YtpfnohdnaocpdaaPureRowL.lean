/- The rows of a productive tree: both texts tell the same ones. Plain Lean over the printed functions. -/
import Derived.Test.YtpfnohdnaocpdaaPTx3
import Derived.Test.YtpfnohdnaocpdaaPureProdC
import Derived.Test.YtpfnohdnaocpdaaPTtable
import Derived.Test.YtpfnohdnaocpdaaPTsTable
namespace Go.Proofs.Ytpfnohdnaocpdaa.Pure
open Go.RowKit Go.Proofs.Ytpfnohdnaocpdaa.PT Go.Proofs.YtpfnohdnaocpdaaW.PrintWords Go.Proofs.YtpfnohdnaocpdaaW.PrintLast Go.Proofs.YtpfnohdnaocpdaaW.PrintMore Go.Proofs.YtpfnohdnaocpdaaRP
set_option linter.unusedVariables false
set_option linter.unusedSimpArgs false
/-- At most so many questions come ahead of the next digit. -/
def Dep (l : List S89) : Nat → Int → Prop
  | 0, a => (rd_T89 l a).f0 = 2
  | d + 1, a => (rd_T89 l a).f0 = 2 ∨ (Dep l d (rd_T89 l a).f2.f0 ∧ Dep l d (rd_T89 l a).f2.f1 ∧ Dep l d (rd_T89 l a).f2.f2)
theorem Dep_up (l : List S89) (d : Nat) : ∀ a, Dep l d a → Dep l (d + 1) a := by
  induction d with
  | zero => intro a h; exact .inl h
  | succ d ih =>
    intro a h
    rcases h with h | ⟨h0, h1, h2⟩
    · exact .inl h
    · exact .inr ⟨ih _ h0, ih _ h1, ih _ h2⟩
theorem Dep_le {l : List S89} {d e : Nat} (h : d ≤ e) {a : Int} (ha : Dep l d a) : Dep l e a := by
  obtain ⟨c, rfl⟩ : ∃ c, e = d + c := ⟨e - d, by omega⟩
  clear h
  induction c with
  | zero => exact ha
  | succ c ih => exact Dep_up l _ _ ih
def Mk (l : List S89) (D : Nat) (g : List Bool) : Prop := ∀ b : Int, 0 ≤ b → rdOf false g b = true → Dep l D b
theorem rdB_set (g : List Bool) (a b : Int) (v : Bool) (a0 : 0 ≤ a) (a1 : a < g.length) (b0 : 0 ≤ b) : rdOf false (g.set a.toNat v) b = if a = b then v else rdOf false g b := by
  by_cases c : a = b
  · subst c
    rw [if_pos rfl]
    simp [rdOf, List.getD, show a.toNat < g.length by omega]
  · rw [if_neg c]
    simp [rdOf, List.getD, List.getElem?_set, show ¬ a.toNat = b.toNat by omega]
theorem Mk_step {l : List S89} (hk : okT l = true) {R : List Int} {s : List Bool} (hI : Inv l.length R s) {D : Nat} {g : List Bool} (hg : g.length = l.length) (h : Mk l D g) {i : Nat} (hi : i < R.length) : Mk l (D + 1) (gstep l R g i) := by
  have hr := hI.rng _ (rd_memI hi)
  obtain ⟨hkd, h0, h1, h2⟩ := okT_rd hk _ hr.1 hr.2
  intro b b0 hb
  unfold gstep at hb
  rw [rdB_set g _ b _ hr.1 (by rw [hg]; exact hr.2) b0] at hb
  by_cases c : rd R (i : Int) = b
  · rw [if_pos c] at hb
    rw [c] at hb hkd h0 h1 h2
    rcases hkd with hx | hx
    · rw [nodeB_1 _ g hx] at hb
      simp only [Bool.and_eq_true] at hb
      refine .inr ⟨h _ h0.1 ?_, h _ h1.1 ?_, h _ h2.1 ?_⟩
      · simp_all
      · simp_all
      · simp_all
    · exact .inl hx
  · rw [if_neg c] at hb
    exact Dep_up l _ _ (h b b0 hb)
theorem Mk_gp {l : List S89} (hk : okT l = true) {R : List Int} {s : List Bool} (hI : Inv l.length R s) (d : Nat) : ∀ (i D : Nat) (g : List Bool), g.length = l.length → i + d ≤ R.length → Mk l D g → Mk l (D + d) (gp l R d i g) := by
  induction d with
  | zero => intro i D g _ _ h; exact h
  | succ d ih =>
    intro i D g hg hi h
    have := ih (i + 1) (D + 1) (gstep l R g i) (by rw [gstep, List.length_set]; exact hg) (by omega) (Mk_step hk hI hg h (by omega))
    rw [show D + (d + 1) = D + 1 + d by omega]
    exact this
theorem Mk_gr {l : List S89} (hk : okT l = true) {R : List Int} {s : List Bool} (hI : Inv l.length R s) (t : Nat) : ∀ (D : Nat) (g : List Bool), g.length = l.length → Mk l D g → Mk l (D + t * R.length) (gr l R t g) := by
  induction t with
  | zero => intro D g _ h; rw [Nat.zero_mul]; exact h
  | succ t ih =>
    intro D g hg h
    have h1 := Mk_gp hk hI R.length 0 D g hg (by omega) h
    have := ih (D + R.length) (gp l R R.length 0 g) (by rw [gp_len]; exact hg) h1
    rw [show D + (t + 1) * R.length = D + R.length + t * R.length by rw [Nat.succ_mul]; omega]
    exact this
theorem prod_dep {l : List S89} (hk : okT l = true) (hl : l.length ≤ 60) {R : List Int} {s : List Bool} (hI : Inv l.length R s) (hp : prodB l R = true) {a : Int} (ha : a ∈ R) : Dep l 3600 a := by
  have hle := hI.le
  have hr := hI.rng _ ha
  have h0 : Mk l 0 (List.replicate l.length false) := fun b b0 hb => by
    exfalso
    unfold rdOf at hb
    rw [List.getD_eq_getElem?_getD, List.getElem?_replicate] at hb
    split at hb <;> simp at hb
  have h1 := Mk_gr hk hI R.length 0 _ (by simp) h0
  have hm : rdOf false (marksG l R) a = true := List.all_eq_true.1 hp a ha
  have h2 := h1 a hr.1 hm
  have h3 : R.length * R.length ≤ 60 * 60 := Nat.mul_le_mul (by omega) (by omega)
  exact Dep_le (by omega) h2
theorem mem_rd {R : List Int} {a : Int} (h : a ∈ R) : ∃ p : Nat, p < R.length ∧ rd R (p : Int) = a := by
  obtain ⟨p, hp, e⟩ := List.getElem_of_mem h
  exact ⟨p, hp, by rw [rd_at R p hp]; exact e⟩
theorem way_mem {l : List S89} {R : List Int} (hC : Cl l R 0) {a : Int} (ha : a ∈ R) {q : Nat} (hq : q < nW (rd_T89 l a)) : rd [(rd_T89 l a).f2.f0, (rd_T89 l a).f2.f1, (rd_T89 l a).f2.f2] (q : Int) ∈ R := by
  obtain ⟨p, hp, rfl⟩ := mem_rd ha
  exact hC p (by omega) hp q hq
def SAt (l : List S89) (N : Int) (out : List S151) (a : Int) (qs ts : List Int) (v : List S151 × Bool) : Prop := ∃ p, Ev (fun k => tellS l N k a ts) p ∧ Ev (fun k => endS (fun o b q t => rowsS k l o b N q t) l out p.1 N qs p.2) v
theorem SAt.rows {l : List S89} {N : Int} {out : List S151} {a : Int} {qs ts : List Int} {v : List S151 × Bool} (h : SAt l N out a qs ts v) : Ev (fun k => rowsS k l out a N qs ts) v := by
  obtain ⟨p, h1, h2⟩ := h
  exact Ev.step (fun k => rfl) (Ev.bind h1 h2)
/-- A row as it comes about: at most twenty digits are told. -/
def OKr (r : S151) : Prop := r.f1.length ≤ 20 ∧ ∀ d ∈ r.f1, -1 ≤ d ∧ d ≤ 1
def OKo (o : List S151) : Prop := o.length ≤ 729 ∧ ∀ r ∈ o, OKr r
/-- Both texts from here. -/
def Both (l : List S89) (N : Int) (out : List S151) (a : Int) (qs ts : List Int) : Prop := ∃ (rI rS : List S151) (g : Bool), SAt l N out a qs ts (rS, g) ∧ Ev (fun k => rowsI k l out a N qs ts) (rI, g) ∧ (g = true → rI = rS ∧ OKo rS)
theorem rest_both (l : List S89) (N : Int) (qs ts : List Int) (ws : List (Int × Int)) : (∀ d b, (d, b) ∈ ws → ∀ o : List S151, OKo o → Both l N o b (qs ++ [d]) ts) → ∀ o : List S151, OKo o →
    ∃ (rI rS : List S151) (g : Bool), Ev (fun k => restI (fun o b q => rowsS k l o b N q ts) qs ws o) (rS, g) ∧ Ev (fun k => restI (fun o b q => rowsI k l o b N q ts) qs ws o) (rI, g) ∧ (g = true → rI = rS ∧ OKo rS) := by
  induction ws with
  | nil => intro _ o ho; exact ⟨o, o, true, Ev.now _, Ev.now _, fun _ => ⟨rfl, ho⟩⟩
  | cons x ws ih =>
    intro H o ho
    obtain ⟨d, b⟩ := x
    obtain ⟨rI, rS, g, h1, h2, h3⟩ := H d b (List.mem_cons_self ..) o ho
    simp only [restI_cons]
    cases g with
    | true =>
      obtain ⟨rfl, hl⟩ := h3 rfl
      obtain ⟨rI', rS', g', e1, e2, e3⟩ := ih (fun d' b' hm => H d' b' (List.mem_cons_of_mem _ hm)) rI hl
      exact ⟨rI', rS', g', Ev.bind h1.rows (Ev.pos rfl e1), Ev.bind h2 (Ev.pos rfl e2), e3⟩
    | false => exact ⟨[], [], false, Ev.bind h1.rows (Ev.neg (by simp) (Ev.now _)), Ev.bind h2 (Ev.neg (by simp) (Ev.now _)), fun h => by cases h⟩
theorem rows_both (l : List S89) (hk : okT l = true) (hl : l.length ≤ 60) (R : List Int) (s : List Bool) (hI : Inv l.length R s) (hC : Cl l R 0) (hprod : prodB l R = true) (hdig : ∀ a ∈ R, (rd_T89 l a).f0 = 2 → -1 ≤ (rd_T89 l a).f1 ∧ (rd_T89 l a).f1 ≤ 1) (N : Nat) (hN : N ≤ 20) (m : Nat) : ∀ (ts : List Int), ts.length + m = N → (∀ d ∈ ts, -1 ≤ d ∧ d ≤ 1) → ∀ (d : Nat) (a : Int), a ∈ R → Dep l d a → ∀ (qs : List Int) (out : List S151), qs.length + d + m * 3601 ≤ 100000 → OKo out → Both l (N : Int) out a qs ts := by
  induction m with
  | zero =>
    intro ts hts hds d a ha hd qs out hq hoo
    have ho := hoo.1
    have hr := hI.rng _ ha
    have ok : okR l out a qs ts := ⟨by omega, by omega, by omega, hr.1, hr.2⟩
    have e1 : Ev (fun k => tellS l (N : Int) k a ts) (a, ts) := Ev.step (fun k => tellS_succ _ _ _ _ _) (Ev.pos ⟨by omega, hr.1, hr.2⟩ (Ev.neg (by omega) (Ev.now _)))
    have eI : Ev (fun k => rowsI k l out a (N : Int) qs ts) (out ++ [⟨qs, ts⟩], decide ((out.length : Int) + 1 ≤ 729)) := Ev.step (fun k => rowsI_succ _ _ _ _ _ _ _) (Ev.pos ok (Ev.pos (by omega) (Ev.now _)))
    by_cases c : out.length = 729
    · refine ⟨_, [], false, ⟨_, e1, ?_⟩, Ev.to eI (by rw [decide_eq_false (by omega)]), fun h => by cases h⟩
      unfold endS
      exact Ev.pos ⟨ok, by show (ts.length : Int) ≤ _; omega⟩ (Ev.pos (by show (ts.length : Int) = _; omega) (Ev.pos c (Ev.now _)))
    · refine ⟨_, out ++ [⟨qs, ts⟩], true, ⟨_, e1, ?_⟩, Ev.to eI (by rw [decide_eq_true (by omega)]), fun _ => ⟨rfl, by simp; omega, fun r hr_ => by
        rcases List.mem_append.1 hr_ with h | h
        · exact hoo.2 r h
        · rw [List.mem_singleton] at h; subst h; exact ⟨by show ts.length ≤ 20; omega, hds⟩⟩⟩
      unfold endS
      exact Ev.pos ⟨ok, by show (ts.length : Int) ≤ _; omega⟩ (Ev.pos (by show (ts.length : Int) = _; omega) (Ev.neg c (Ev.now _)))
  | succ m ih =>
    intro ts hts hds
    have tell : ∀ (a : Int), a ∈ R → (rd_T89 l a).f0 = 2 → ∀ (qs : List Int) (out : List S151), qs.length + (m + 1) * 3601 ≤ 100000 → OKo out → Both l (N : Int) out a qs ts := by
      intro a ha hx qs out hq hoo
      have ho := hoo.1
      have hr := hI.rng _ ha
      have ok : okR l out a qs ts := ⟨by omega, by omega, by omega, hr.1, hr.2⟩
      have hm : (rd_T89 l a).f2.f0 ∈ R := way_mem hC ha (q := 0) (by unfold nW; split <;> omega)
      obtain ⟨rI, rS, g, ⟨p, p1, p2⟩, h2, h3⟩ := ih (ts ++ [(rd_T89 l a).f1]) (by simp; omega) (fun d hd_ => by
        rcases List.mem_append.1 hd_ with h | h
        · exact hds d h
        · rw [List.mem_singleton] at h; subst h; exact hdig a ha hx) 3600 _ hm (prod_dep hk hl hI hprod hm) qs out (by omega) hoo
      exact ⟨rI, rS, g, ⟨p, Ev.step (fun k => tellS_succ _ _ _ _ _) (Ev.pos ⟨by omega, hr.1, hr.2⟩ (Ev.pos ⟨by omega, hx⟩ p1)), p2⟩, Ev.step (fun k => rowsI_succ _ _ _ _ _ _ _) (Ev.pos ok (Ev.neg (by omega) (Ev.pos hx h2))), h3⟩
    intro d
    induction d with
    | zero => intro a ha hd qs out hq ho; exact tell a ha hd qs out (by omega) ho
    | succ d ihd =>
      intro a ha hd qs out hq hoo
      have ho := hoo.1
      by_cases hx : (rd_T89 l a).f0 = 2
      · exact tell a ha hx qs out (by omega) hoo
      rcases hd with hd | ⟨d0, d1, d2⟩
      · exact absurd hd hx
      have hr := hI.rng _ ha
      have ok : okR l out a qs ts := ⟨by omega, by omega, by omega, hr.1, hr.2⟩
      have hx1 : (rd_T89 l a).f0 = 1 := by rcases (okT_rd hk a hr.1 hr.2).1 with h | h; exact h; exact absurd h hx
      have hn : nW (rd_T89 l a) = 3 := by unfold nW; rw [if_pos hx1]
      have m0 : (rd_T89 l a).f2.f0 ∈ R := way_mem hC ha (q := 0) (by omega)
      have m1 : (rd_T89 l a).f2.f1 ∈ R := way_mem hC ha (q := 1) (by omega)
      have m2 : (rd_T89 l a).f2.f2 ∈ R := way_mem hC ha (q := 2) (by omega)
      obtain ⟨rI, rS, g, e1, e2, e3⟩ := rest_both l (N : Int) qs ts (waysI (rd_T89 l a)) (fun dd b hm o ho' => by
        have hq' : (qs ++ [dd]).length + d + (m + 1) * 3601 ≤ 100000 := by simp; omega
        simp only [waysI, List.mem_cons, Prod.mk.injEq, List.not_mem_nil, or_false] at hm
        rcases hm with ⟨rfl, rfl⟩ | ⟨rfl, rfl⟩ | ⟨rfl, rfl⟩
        · exact ihd _ m0 d0 _ o hq' ho'
        · exact ihd _ m1 d1 _ o hq' ho'
        · exact ihd _ m2 d2 _ o hq' ho') out hoo
      refine ⟨rI, rS, g, ⟨(a, ts), Ev.step (fun k => tellS_succ _ _ _ _ _) (Ev.pos ⟨by omega, hr.1, hr.2⟩ (Ev.neg (fun h => hx h.2) (Ev.now _))), ?_⟩, Ev.step (fun k => rowsI_succ _ _ _ _ _ _ _) (Ev.pos ok (Ev.neg (by omega) (Ev.neg hx e2))), e3⟩
      unfold endS
      exact Ev.pos ⟨ok, by show (ts.length : Int) ≤ _; omega⟩ (Ev.neg (by show ¬ (ts.length : Int) = _; omega) e1)
end Go.Proofs.Ytpfnohdnaocpdaa.Pure

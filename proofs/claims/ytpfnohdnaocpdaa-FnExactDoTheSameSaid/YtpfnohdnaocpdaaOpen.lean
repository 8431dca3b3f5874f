/- What comes in, opened: data that the row can read are read as Lean values of a kind (Kd), with what is known of their sizes. -/
import Derived.ProofKit
import Derived.Deep.Slices
import Derived.SizedLaws
import Derived.OpenShut
import Derived.Test.YtpfnohdnaocpdaaWMore
namespace Go.Proofs.YtpfnohdnaocpdaaOpen
open Go.ChangeShapes Go.WideShapes Go.Deep Go.Proofs.YtpfnohdnaocpdaaW.PrintWords

/-- A reading of the type t gives a value of the kind d, of which G is known. -/
def Opens {α : Type} (P : Program) (t : TypeId) (d : Kd α) (G : α → Prop) : Prop :=
  P.cellsOf t = d.sz ∧ ∀ (H : Type) (enc : TypeId × Value → H) (w : World) (fuel : Nat) (cs : List Value) (x : DataW H × List MemPlace),
    DataW.trod enc P w 0 (fun _ => true) true fuel t cs = some x → (∀ b ∈ DataW.weights P t x.1, b ≤ reachBytes) → ∃ a : α, d.K w a cs ∧ G a

section
variable {P : Program} {t : TypeId}

theorem opens_int {k : IntKind} (ht : P.underlying t = some (.int k)) (hc : P.cellsOf t = 1) : Opens P t (Kd.int k) (fun n => (Lit.int k n).wf = true) := by
  refine ⟨hc, fun H enc w fuel cs x h _ => ?_⟩
  obtain ⟨n, rfl, rfl, hw⟩ := DataW.trod_int ht h
  exact ⟨n, rfl, hw⟩

theorem opens_bool (ht : P.underlying t = some .bool) (hc : P.cellsOf t = 1) : Opens P t Kd.bool (fun _ => True) := by
  refine ⟨hc, fun H enc w fuel cs x h _ => ?_⟩
  obtain ⟨b, rfl, rfl⟩ := DataW.trod_bool ht h
  exact ⟨b, rfl, trivial⟩

theorem opens_string (ht : P.underlying t = some .string) (hc : P.cellsOf t = 1) : Opens P t Kd.string (fun s => s.size ≤ 140737488351232) := by
  refine ⟨hc, fun H enc w fuel cs x h hw => ?_⟩
  obtain ⟨s, rfl, rfl, _⟩ := DataW.trod_string ht h
  refine ⟨s, rfl, ?_⟩
  have := hw s.data.toList.length (by simp [DataW.weights])
  rw [Array.length_toList] at this
  exact this

theorem opens_iso {α β : Type} {d : Kd α} {G : α → Prop} (h : Opens P t d G) (f : β → α) (g : α → β) (hfg : ∀ a, f (g a) = a) : Opens P t (Kd.iso d f) (fun b => G (f b)) := by
  refine ⟨h.1, fun H enc w fuel cs x hx hw => ?_⟩
  obtain ⟨a, ha, hg⟩ := h.2 H enc w fuel cs x hx hw
  refine ⟨g a, ?_, ?_⟩
  · show d.K w (f (g a)) cs
    rw [hfg]
    exact ha
  · show G (f (g a))
    rw [hfg]
    exact hg

theorem opens_imp {α : Type} {d : Kd α} {G G' : α → Prop} (h : Opens P t d G) (hG : ∀ a, G a → G' a) : Opens P t d G' := by
  refine ⟨h.1, fun H enc w fuel cs x hx hw => ?_⟩
  obtain ⟨a, ha, hg⟩ := h.2 H enc w fuel cs x hx hw
  exact ⟨a, ha, hG a hg⟩

theorem weights_all {H : Type} {e : TypeId} {b : Nat} {d : DataW H} : ∀ (l : List (DataW H)), d ∈ l → b ∈ DataW.weights P e d → b ∈ DataW.weightsAll P e l
  | [], h, _ => by cases h
  | c :: l, h, hb => by
    rw [DataW.weightsAll]
    rcases List.mem_cons.1 h with rfl | h
    · exact List.mem_append_left _ hb
    · exact List.mem_append_right _ (weights_all l h hb)

theorem opens_slice {α : Type} [Inhabited α] {e : TypeId} {d : Kd α} {G : α → Prop} (ht : P.underlying t = some (.slice e)) (hc : P.cellsOf t = 1) (he : Opens P e d G) :
    Opens P t (Kd.slice e d) (fun xs => (∀ x ∈ xs, G x) ∧ xs.length * P.bytesOf e ≤ 140737488351232) := by
  refine ⟨hc, fun H enc w fuel cs x h hw => ?_⟩
  rcases open_slice ht h with ⟨rfl, rfl⟩ | ⟨a, len, cap, m, n, D, Pl, rfl, hb, hl, hm, hmm, rfl, hx⟩
  · exact ⟨[], ⟨none, 0, rfl, Nat.le_refl _, rfl, by simp, fun h0 => absurd h0 (by simp)⟩, fun x hx => (by cases hx), by simp⟩
  · have hlm : len ≤ m := by
      rw [hmm]
      split <;> omega
    have hel : ∀ i, i < len → ∃ a' : α, G a' ∧ ∃ cs', cs'.length = d.sz ∧ d.K w a' cs' ∧ ∀ j u, cs'[j]? = some u → w.cell? (a.add (i * d.sz + j)) = some u := by
      intro i hi
      obtain ⟨cs', h1, h2⟩ := hx i (by omega)
      obtain ⟨a', hk, hg⟩ := he.2 H enc w n cs' _ h2 (fun b hb' => hw b (by
        have : D i ∈ (List.range len).map D := List.mem_map.2 ⟨i, List.mem_range.2 hi, rfl⟩
        have := weights_all (P := P) (e := e) _ this hb'
        simp only [DataW.weights, ht]
        exact List.mem_cons_of_mem _ (List.mem_append_left _ this)))
      obtain ⟨_, hlen, hcell⟩ := World.cells?_some h1
      refine ⟨a', hg, cs', by rw [hlen, he.1], hk, fun j u hu => ?_⟩
      have hj : j < P.cellsOf e := by rw [← hlen]; exact (List.getElem?_eq_some_iff.1 hu).1
      have := hcell j hj
      rw [hu, Go.Deep.add_add] at this
      rw [← he.1]
      exact this
    obtain ⟨f, hf⟩ := choose_lt hel
    have hlw : len * P.bytesOf e ≤ 140737488351232 := by
      have := hw ((((List.range len).map D).length + ((List.range (m - len)).map fun j => D (len + j)).length) * P.bytesOf e) (by simp [DataW.weights, ht])
      simp only [List.length_map, List.length_range] at this
      exact Nat.le_trans (Nat.mul_le_mul_right _ (by omega)) this
    refine ⟨(List.range len).map f, ⟨some a, cap, by simp, by simpa using hl, by simp, by simp only [maxLen] at hm; simp; omega, fun _ => ⟨a, rfl, fun j p hj => ?_⟩⟩, ?_, by simpa using hlw⟩
    · have hjl : j < len := by
        have := (List.getElem?_eq_some_iff.1 hj).1
        simpa using this
      have hp : p = f j := by
        rw [List.getElem?_map, List.getElem?_range hjl] at hj
        exact (Option.some.inj hj).symm
      obtain ⟨_, cs', h1, h2, h3⟩ := hf j hjl
      rw [hp]
      exact ⟨cs', h1, h2, h3⟩
    · intro x hx
      obtain ⟨i, hi, rfl⟩ := List.mem_map.1 hx
      exact (hf i (List.mem_range.1 hi)).1

/-- Fields in line, from the cell off on. -/
def OpensF {α : Type} (P : Program) (fs : List Field) (off : Nat) (d : Kd α) (G : α → Prop) : Prop :=
  ∀ (H : Type) (enc : TypeId × Value → H) (w : World) (fuel : Nat) (cs : List Value) (xs : List (DataW H × List MemPlace)), xs.length = fs.length →
    (∀ (i : Nat) (f : Field), fs[i]? = some f → DataW.trod enc P w 0 (fun _ => true) true fuel f.type ((cs.drop f.offset).take (P.cellsOf f.type)) = xs[i]?) →
    (∀ b ∈ DataW.weightsEach P (fs.map (·.type)) (xs.map (·.1)), b ≤ reachBytes) → ∃ a : α, d.K w a ((cs.drop off).take d.sz) ∧ G a

theorem opensF_one {α : Type} {f : Field} {d : Kd α} {G : α → Prop} (h : Opens P f.type d G) {off : Nat} (ho : f.offset = off) : OpensF P [f] off d G := by
  intro H enc w fuel cs xs hl hf hw
  match xs, hl with
  | [x], _ =>
    have h1 := hf 0 f rfl
    rw [h.1, ho] at h1
    exact h.2 H enc w fuel _ x h1 (fun b hb => hw b (by simp [DataW.weightsEach, hb]))

theorem opensF_cons {α β : Type} {f : Field} {fs : List Field} {d : Kd α} {d' : Kd β} {G : α → Prop} {G' : β → Prop} {off off' : Nat} (h : Opens P f.type d G) (ho : f.offset = off) (hs : OpensF P fs off' d' G') (ho' : off' = off + d.sz) :
    OpensF P (f :: fs) off (Kd.pair d d') (fun p => G p.1 ∧ G' p.2) := by
  subst ho'
  intro H enc w fuel cs xs hl hf hw
  match xs, hl with
  | x :: xs, hl =>
    have h1 := hf 0 f rfl
    rw [h.1, ho] at h1
    obtain ⟨a, ha, hg⟩ := h.2 H enc w fuel _ x h1 (fun b hb => hw b (by simp [DataW.weightsEach, hb]))
    obtain ⟨a', ha', hg'⟩ := hs H enc w fuel cs xs (by simpa using hl) (fun i f' hi => hf (i + 1) f' hi) (fun b hb => hw b (by simp [DataW.weightsEach, hb]))
    refine ⟨(a, a'), ⟨_, _, ?_, ha, ha'⟩, hg, hg'⟩
    rw [show (Kd.pair d d').sz = d.sz + d'.sz from rfl, List.take_add, List.drop_drop]

theorem opens_struct {α : Type} {fs : Array Field} {d : Kd α} {G : α → Prop} (ht : P.underlying t = some (.struct fs)) (hc : P.cellsOf t = d.sz) (hs : OpensF P fs.toList 0 d G) : Opens P t d G := by
  refine ⟨hc, fun H enc w fuel cs x h hw => ?_⟩
  obtain ⟨xs, n, _, rfl, hl, hlen, hf⟩ := DataW.trod_struct ht h
  obtain ⟨a, ha, hg⟩ := hs H enc w n cs xs (by simpa using hlen) (fun i f hi => hf i f (by simpa using hi)) (fun b hb => hw b (by simpa [DataW.weights, ht] using hb))
  refine ⟨a, ?_, hg⟩
  rw [List.drop_zero, ← hc, ← hl, List.take_length] at ha
  exact ha
theorem weightsEach_same {H : Type} {e : TypeId} : ∀ (ts : List TypeId) (l : List (DataW H)), (∀ t ∈ ts, t = e) → ts.length = l.length → DataW.weightsEach P ts l = DataW.weightsAll P e l
  | [], [], _, _ => by simp [DataW.weightsEach, DataW.weightsAll]
  | [], _ :: _, _, h => by simp at h
  | _ :: _, [], _, h => by simp at h
  | t :: ts, d :: l, ht, h => by
    rw [DataW.weightsEach, DataW.weightsAll, ht t List.mem_cons_self, weightsEach_same ts l (fun t h => ht t (List.mem_cons_of_mem _ h)) (by simpa using h)]
/-- An array: as fields of one type, in line. -/
theorem opens_array {α : Type} {n : Nat} {e : TypeId} {fs : List Field} {d : Kd α} {G : α → Prop} (ht : P.underlying t = some (.array n e)) (hc : P.cellsOf t = d.sz) (hn : fs.length = n)
    (hf : ∀ i f, fs[i]? = some f → f.type = e ∧ f.offset = i * P.cellsOf e) (hs : OpensF P fs 0 d G) : Opens P t d G := by
  refine ⟨hc, fun H enc w fuel cs x h hw => ?_⟩
  obtain ⟨xs, m, _, rfl, hl, hlen, hel⟩ := DataW.trod_array ht h
  obtain ⟨a, ha, hg⟩ := hs H enc w m cs xs (by omega) (fun i f hi => by
    obtain ⟨h1, h2⟩ := hf i f hi
    rw [h1, h2]
    exact hel i (by have := (List.getElem?_eq_some_iff.1 hi).1; omega)) (fun b hb => hw b (by
      have hall : ∀ t' ∈ fs.map (·.type), t' = e := by
        intro t' h'
        obtain ⟨f, hf', rfl⟩ := List.mem_map.1 h'
        obtain ⟨i, hi, hfi⟩ := List.getElem_of_mem hf'
        exact (hf i f (by rw [List.getElem?_eq_getElem hi, hfi])).1
      rw [weightsEach_same (P := P) (e := e) _ _ hall (by simp; omega)] at hb
      simpa [DataW.weights, ht] using hb))
  refine ⟨a, ?_, hg⟩
  rw [List.drop_zero, ← hc, ← hl, List.take_length] at ha
  exact ha

end

/-- What the row's size says of one argument. -/
theorem weights_arg {H : Type} {P : Program} : ∀ (ts : List TypeId) (ds : List (DataW H)) (j : Nat) (t : TypeId) (d : DataW H), ts[j]? = some t → ds[j]? = some d →
    (DataW.weightsEach P ts ds).all (· ≤ reachBytes) = true → ∀ b ∈ DataW.weights P t d, b ≤ reachBytes
  | [], _, j, t, d, ht, _, _ => by simp at ht
  | _ :: _, [], j, t, d, _, hd, _ => by simp at hd
  | t0 :: ts, d0 :: ds, 0, t, d, ht, hd, h => by
    simp only [List.getElem?_cons_zero, Option.some.injEq] at ht hd
    subst ht; subst hd
    intro b hb
    have := List.all_eq_true.1 h b (by rw [DataW.weightsEach]; exact List.mem_append_left _ hb)
    simpa using this
  | t0 :: ts, d0 :: ds, j + 1, t, d, ht, hd, h => by
    refine weights_arg ts ds j t d (by simpa using ht) (by simpa using hd) ?_
    rw [DataW.weightsEach, List.all_append, Bool.and_eq_true] at h
    exact h.2
end Go.Proofs.YtpfnohdnaocpdaaOpen

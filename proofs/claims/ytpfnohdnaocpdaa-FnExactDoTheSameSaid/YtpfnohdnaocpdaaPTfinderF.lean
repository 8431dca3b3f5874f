/- newFinder and find by hand. -/
import Derived.Test.YtpfnohdnaocpdaaPTx2
import Derived.Test.YtpfnohdnaocpdaaPTfindF
import Derived.Test.YtpfnohdnaocpdaaPTha
import Derived.IntWalk
import Derived.BigRegion
namespace Go.Proofs.Ytpfnohdnaocpdaa.PT
open Go.RowKit Go.Proofs.YtpfnohdnaocpdaaW.PrintWords Go.Proofs.YtpfnohdnaocpdaaW.PrintLast Go.Proofs.YtpfnohdnaocpdaaW.PrintMore Go.Lib Go.Proofs.YtpfnohdnaocpdaaRP
set_option linter.unusedVariables false
set_option linter.unusedSimpArgs false
theorem infoK : (Try.prog.info? 89).map (fun i => (i.zero, i.size, i.bytes)) = some (some (.agg #[.int .i8 0, .int .i8 0, .int .i16 0, .int .i16 0, .int .i16 0]), 5, 8) := by kernel_rfl
def FindPost (b0 gc bm : Nat) (av : List Nat) (xs : List S89) (p : S89) (W0 w : World) (e : Ending) (w' : World) : Prop := e = .returned (.int .i16 (ixP xs p : Nat)) ∧ FS b0 gc bm av (fndL xs p) w' ∧ Below b0 W0 w' ∧ Ks [89, 177] w w' ∧ ∀ k, k ∈ av → w'.heap[k]? = w.heap[k]?
set_option maxHeartbeats 8000000 in
set_option maxRecDepth 100000 in
theorem find_calls (b0 gc bm : Nat) (av : List Nat) (xs : List S89) (p : S89) (hp : I16p p) (hl : xs.length ≤ 4000) (W0 w : World) (hf : FS b0 gc bm av xs w) (hb : Below b0 W0 w) (hbs : b0 ≤ w.heap.size) :
    Calls Try.prog 125 #[.pointer (some ⟨gc, 0, none⟩), .agg #[.int .i8 p.f0, .int .i8 p.f1, .int .i16 p.f2.f0, .int .i16 p.f2.f1, .int .i16 p.f2.f2]] w fun e w' => FindPost b0 gc bm av xs p W0 w e w' := by
  obtain ⟨a, b, ⟨a2, a3, a4⟩⟩ := p
  have HP := Aside0.mk hp
  have HL := Aside0.mk hl
  have HF := Aside0.mk hf
  have HB := Aside0.mk hb
  have HBS := Aside0.mk hbs
  have HKEY := Aside0.mk (keyP_of hp)
  have hlt := hf.lt
  have HLT := Aside0.mk hlt
  clear hp hl hf hb hbs hlt
  go_enter Try.func125, Try.ntmps125
  go_upto_region 1 with (fail)
  generalize hwA : World.alloc w _ = wA
  have hkb0 : wA.cell? ⟨w.heap.size, 0, none⟩ = some (.int .i8 a) := by rw [← hwA]; simp
  have hkb1 : wA.cell? ⟨w.heap.size, 1, none⟩ = some (.int .i8 b) := by rw [← hwA]; simp
  have hkb2 : wA.cell? ⟨w.heap.size, 2, none⟩ = some (.int .i16 a2) := by rw [← hwA]; simp
  have hkb3 : wA.cell? ⟨w.heap.size, 3, none⟩ = some (.int .i16 a3) := by rw [← hwA]; simp
  have hkb4 : wA.cell? ⟨w.heap.size, 4, none⟩ = some (.int .i16 a4) := by rw [← hwA]; simp
  have bA : Below w.heap.size w wA := by rw [← hwA]; exact below_alloc (Below.refl _ _) _
  have hszA : wA.heap.size = w.heap.size + 1 := by rw [← hwA]; simp
  have FA := Aside0.mk (HF.out.below bA)
  have BA := Aside0.mk (HB.out.trans (bA.mono HBS.out))
  have hkbl : w.heap.size < wA.heap.size := by omega
  have KBL := Aside0.mk (show w.heap.size < wA.heap.size ∧ w.heap.size ≠ gc ∧ w.heap.size ≠ bm from ⟨by omega, by have := HLT.out; omega, by have := HLT.out; omega⟩)
  have bAA := Aside0.mk bA
  clear hwA bA hszA hkbl
  obtain ⟨gl, ml, al, ⟨v, hv, hR⟩, D, hD, hO⟩ := FA.out
  obtain ⟨A, c0, rfl, hle, hC⟩ := Kd.R_reads hR
  have hcell := bc2 hv
  have hfz := bf2 hv
  have HD := Aside0.mk hD
  have HO := Aside0.mk hO
  have HR := Aside0.mk hR
  have HV := Aside0.mk hv
  have HC := Aside0.mk hC
  clear hD hR hv hC
  obtain ⟨hhas, hat⟩ := HD.out.val ⟨a, b, ⟨a2, a3, a4⟩⟩ HP.out
  obtain ⟨z0, ps, hrun, hz⟩ := (hO.drew).look_ok law101 Try.underlying175 (zeroE85 _) (plainElem_int Try.underlying85 (by decide)) HKEY.out
  obtain ⟨c, rfl, hc, hcw⟩ := plainElem_int_inv Try.underlying85 hz
  simp only [Prod.mk.injEq] at hc
  have HAT := Aside0.mk hc.1
  clear hc hz hO gl ml al
  rw [hhas] at hrun
  generalize hkb : w.heap.size = kb at hkb0 hkb1 hkb2 hkb3 hkb4 KBL ⊢
  by_cases cx : ixP xs ⟨a, b, ⟨a2, a3, a4⟩⟩ < xs.length
  · have e1 := hat cx
    rw [HAT.out] at e1
    have hcv : c = (ixP xs ⟨a, b, ⟨a2, a3, a4⟩⟩ : Nat) := by simpa using e1
    subst hcv
    rw [decide_eq_true cx] at hrun
    have CX := Aside0.mk cx
    have hfx : fndL xs ⟨a, b, ⟨a2, a3, a4⟩⟩ = xs := if_pos cx
    clear cx hat hhas e1
    go_region
    go_wp2
    go_ret
    exact ⟨rfl, by rw [hfx]; exact FA.out.below (below_drew1 (Below.refl _ _)), Below.drew BA.out, Ks.below (below_drew1 bAA.out), fun k hk => bAA.out.block k (HF.out.al k hk).1⟩
  · rw [decide_eq_false cx] at hrun
    have CX := Aside0.mk cx
    clear cx hat hhas
    have hix : ixP xs ⟨a, b, ⟨a2, a3, a4⟩⟩ = xs.length := by
      have h1 : ixP xs ⟨a, b, ⟨a2, a3, a4⟩⟩ ≤ xs.length := List.findIdx_le_length
      have h2 := CX.out
      omega
    have HIX := Aside0.mk hix
    have hfx : fndL xs ⟨a, b, ⟨a2, a3, a4⟩⟩ = xs ++ [⟨a, b, ⟨a2, a3, a4⟩⟩] := if_neg CX.out
    have HFX := Aside0.mk hfx
    clear hix hfx
    go_region
    generalize hwB : World.drew wA = wB
    have n1 : Below w.heap.size w wB := by rw [← hwB]; exact below_drew1 bAA.out
    have n2 : FS b0 gc bm av xs wB := by rw [← hwB]; exact FA.out.below (below_drew1 (Below.refl _ _))
    have n3 : wB.ownsMap Try.prog 89 (plainElem Try.prog 85) bm (Go.Maps.size D) D := by rw [← hwB]; exact HO.out
    have n4 : Kd.R k89 89 wB b0 (fun k => k ∉ av) (.slice A xs.length c0) xs := by rw [← hwB]; exact Kd.R_below HR.out (below_drew1 (Below.refl _ _))
    have n5 : wB.heap[gc]? = some (.cells #[.slice A xs.length c0, .map (some bm)] 177 (0, 0)) := by rw [← hwB]; exact HV.out
    have n6_0 : wB.cell? ⟨kb, 0, none⟩ = some (.int .i8 a) := by rw [← hwB]; exact hkb0
    have n6_1 : wB.cell? ⟨kb, 1, none⟩ = some (.int .i8 b) := by rw [← hwB]; exact hkb1
    have n6_2 : wB.cell? ⟨kb, 2, none⟩ = some (.int .i16 a2) := by rw [← hwB]; exact hkb2
    have n6_3 : wB.cell? ⟨kb, 3, none⟩ = some (.int .i16 a3) := by rw [← hwB]; exact hkb3
    have n6_4 : wB.cell? ⟨kb, 4, none⟩ = some (.int .i16 a4) := by rw [← hwB]; exact hkb4
    have n8 : kb < wB.heap.size := by rw [← hwB]; exact KBL.out.1
    have n9 : Below b0 W0 wB := by rw [← hwB]; exact Below.drew BA.out
    clear hrun hkb0 hkb1 hkb2 hkb3 hkb4 hcell hfz HO HR HV FA BA bAA hwB HAT
    have HBW := Aside0.mk n1
    have FB := Aside0.mk n2
    have HO := Aside0.mk n3
    have HR := Aside0.mk n4
    have HV := Aside0.mk n5
    have HK0 := Aside0.mk (And.intro n6_0 (And.intro n6_1 (And.intro n6_2 (And.intro n6_3 n6_4))))
    have KL := Aside0.mk n8
    have BB := Aside0.mk n9
    clear n1 n2 n3 n4 n5 n6_0 n6_1 n6_2 n6_3 n6_4 n8 n9
    have hcell := bc2 HV.out
    have hk2 := HK0.out
    obtain ⟨es, clock, hmb⟩ := own_block HO.out
    have HMB := Aside0.mk hmb
    clear hmb
    have hw16 : IntKind.i16.wrap (xs.length : Int) = (xs.length : Nat) := IntWalk.i16_in _ (by have := HL.out; omega)
    obtain ⟨w3, hrun3, hO3, hg3⟩ := ((HO.out).drew).update law101 Try.underlying175 (show Go.Maps.size D < maxLen by have := HD.out.size; have := HL.out; unfold maxLen; omega) HKEY.out (plainElem_int Try.underlying85 (wf16 (v := (xs.length : Nat)) (by omega) (by have := HL.out; omega)))
    have HO3 := Aside0.mk (own_exact_ hO3)
    have HG3 := Aside0.mk (show wB.grownBy w3 (some bm) from ⟨hg3.os, hg3.tape, hg3.output, hg3.size, hg3.block⟩)
    clear hO3 hg3
    go_wp2
    go_region
    have nb : ∀ k, kb = k → k ≠ bm := fun k e => by rw [← e]; exact KBL.out.2.2
    have ngm : gc ≠ bm := fun e => by
      have h1 := HV.out
      rw [e, HMB.out] at h1
      exact absurd h1 (by simp)
    have q3 : ∀ k, k < wB.heap.size → k ≠ bm → w3.heap[k]? = wB.heap[k]? := fun k h1 h2 => HG3.out.block k h1 (fun e => h2 (by injection e))
    have V3 : w3.heap[gc]? = some (.cells #[.slice A xs.length c0, .map (some bm)] 177 (0, 0)) := (q3 gc (blk_lt_ HV.out) ngm).trans HV.out
    have R3 : Kd.R k89 89 w3 b0 (fun k => k ∉ av) (.slice A xs.length c0) xs := Kd.R_mono (Kd.R_move (Kd.R_bound HR.out) (fun k hk => by
      obtain ⟨_, _, hlt, q, hq, cells, hc⟩ := hk
      refine q3 k hlt (fun e => ?_)
      rw [e, HMB.out] at hc
      exact absurd hc (by simp))) (fun _ hk => hk.1)
    have k30 : w3.cell? ⟨kb, 0, none⟩ = some (.int .i8 a) := (World.cell?_of_block (q3 kb KL.out KBL.out.2.2)).trans HK0.out.1
    have k31 : w3.cell? ⟨kb, 1, none⟩ = some (.int .i8 b) := (World.cell?_of_block (q3 kb KL.out KBL.out.2.2)).trans HK0.out.2.1
    have k32 : w3.cell? ⟨kb, 2, none⟩ = some (.int .i16 a2) := (World.cell?_of_block (q3 kb KL.out KBL.out.2.2)).trans HK0.out.2.2.1
    have k33 : w3.cell? ⟨kb, 3, none⟩ = some (.int .i16 a3) := (World.cell?_of_block (q3 kb KL.out KBL.out.2.2)).trans HK0.out.2.2.2.1
    have k34 : w3.cell? ⟨kb, 4, none⟩ = some (.int .i16 a4) := (World.cell?_of_block (q3 kb KL.out KBL.out.2.2)).trans HK0.out.2.2.2.2
    have B3 : Below b0 W0 w3 := BB.out.grown HG3.out (by have := HBW.out.size; have := HBS.out; omega) (fun k e => by cases e; exact FB.out.ml)
    have S3 : w.heap.size ≤ w3.heap.size := Nat.le_trans HBW.out.size HG3.out.size
    have KS3 : Ks [89, 177] w w3 := (Ks.below HBW.out).trans (Ks.grown HG3.out (fun k c q fz e hk => by cases e; rw [HMB.out] at hk; exact absurd hk (by simp)))
    have ngl : ∀ k, (Value.slice A xs.length c0).ownBlock = some k → k ≠ gc ∧ k ≠ bm ∧ k ∉ av ∧ b0 ≤ k ∧ ∃ cells, w3.heap[k]? = some (.cells cells 89 (0, 0)) := fun k hk => by
      obtain ⟨cells, hc⟩ := Kd.R_typed R3 k hk
      refine ⟨fun e => ?_, fun e => ?_, R3.1 k hk, ?_, cells, hc⟩
      · rw [e, V3] at hc
        injection hc with hc
        injection hc with _ hc
        exact absurd hc (by decide)
      · obtain ⟨es', clock', hmb'⟩ := own_block HO3.out
        rw [e, hmb'] at hc
        exact absurd hc (by simp)
      · obtain ⟨_, _, ho, _⟩ := R3
        exact own_base ho k hk
    have c3 := bc2 V3
    have NGL := Aside0.mk ngl
    have V3_ := Aside0.mk V3
    have B3_ := Aside0.mk B3
    have S3_ := Aside0.mk S3
    have KS3_ := Aside0.mk KS3
    have R3_ := Aside0.mk R3
    have Q3_ := Aside0.mk q3
    have NGM := Aside0.mk ngm
    clear hrun3 ngl V3 B3 S3 KS3 R3 q3 nb hk2 hcell ngm
    go_wp2
    refine start_ (n := 11) (S := fun w' => w'.cell? ⟨gc, 0, none⟩ = some (.slice A xs.length c0) ∧ w'.cell? ⟨kb, 0, none⟩ = some (.int .i8 a) ∧ w'.cell? ⟨kb, 1, none⟩ = some (.int .i8 b) ∧ w'.cell? ⟨kb, 2, none⟩ = some (.int .i16 a2) ∧ w'.cell? ⟨kb, 3, none⟩ = some (.int .i16 a3) ∧ w'.cell? ⟨kb, 4, none⟩ = some (.int .i16 a4)) (ds := [7, 10]) #[false, false, false, false, false, false, false, false, false, false, false] (by kernel_rfl) rfl rfl ⟨c3.1, k30, k31, k32, k33, k34⟩ (fun hHeld => ?_)
    refine pure_ (i := 0) (N := some 30) (v := ?_) (a' := ?_) #[true, false, false, false, false, false, false, false, false, false, false] rfl rfl (by kernel_rfl) (fun _ _ _ h => h) (Or.inl ⟨by rfl, ?_⟩) ?_ ?_
    rotate_left
    · intro w'
      go_simp
      with_reducible rfl
    rotate_left
    · simp only [Act.put, List.setIfInBounds_toArray, List.set_cons_zero, List.set_cons_succ, i64_w, i32_w]
      rfl
    refine pure_ (i := 1) (N := some 31) (v := ?_) (a' := ?_) #[true, true, false, false, false, false, false, false, false, false, false] rfl rfl (by kernel_rfl) (fun _ _ _ h => h) (Or.inl ⟨by rfl, ?_⟩) ?_ ?_
    rotate_left
    · intro w'
      go_simp
      with_reducible rfl
    rotate_left
    · simp only [Act.put, List.setIfInBounds_toArray, List.set_cons_zero, List.set_cons_succ, i64_w, i32_w]
      rfl
    refine pure_ (i := 2) (N := some 32) (v := ?_) (a' := ?_) #[true, true, true, false, false, false, false, false, false, false, false] rfl rfl (by kernel_rfl) (fun _ _ _ h => h) (Or.inl ⟨by rfl, ?_⟩) ?_ ?_
    rotate_left
    · intro w'
      go_simp
      with_reducible rfl
    rotate_left
    · simp only [Act.put, List.setIfInBounds_toArray, List.set_cons_zero, List.set_cons_succ, i64_w, i32_w]
      rfl
    refine pure_ (i := 3) (N := some 33) (v := ?_) (a' := ?_) #[true, true, true, true, false, false, false, false, false, false, false] rfl rfl (by kernel_rfl) (fun _ _ _ h => h) (Or.inl ⟨by rfl, ?_⟩) ?_ ?_
    rotate_left
    · intro w'
      go_simp
      with_reducible rfl
    rotate_left
    · simp only [Act.put, List.setIfInBounds_toArray, List.set_cons_zero, List.set_cons_succ, i64_w, i32_w]
      rfl
    refine take_ (i := 4) (N := some 34) (v := ?_) (a' := ?_) #[true, true, true, true, true, false, false, false, false, false, false] rfl rfl (by kernel_rfl) (fun _ _ _ h => h) (Or.inl ⟨by rfl, ?_⟩) hHeld ?_ ?_
    rotate_left
    · rintro w' ⟨s0, s1, s2, s3, s4, s5⟩
      go_simp
      with_reducible rfl
    rotate_left
    · simp only [Act.put, List.setIfInBounds_toArray, List.set_cons_zero, List.set_cons_succ, i64_w, i32_w]
      rfl
    refine take_ (i := 5) (N := some 35) (v := ?_) (a' := ?_) #[true, true, true, true, true, true, false, false, false, false, false] rfl rfl (by kernel_rfl) (fun _ _ _ h => h) (Or.inl ⟨by rfl, ?_⟩) hHeld ?_ ?_
    rotate_left
    · rintro w' ⟨s0, s1, s2, s3, s4, s5⟩
      go_simp
      with_reducible rfl
    rotate_left
    · simp only [Act.put, List.setIfInBounds_toArray, List.set_cons_zero, List.set_cons_succ, i64_w, i32_w]
      rfl
    refine one_ (i := 6) (N := some 36) #[true, true, true, true, true, true, true, false, false, false, false] rfl rfl (by kernel_rfl) (by decide) (fun K hK => ?_)
    refine value_ (w1 := ?_) (v := ?_) (by rfl) rfl ?_ ?_
    rotate_left 2
    · go_simp
      constructor
      · rfl
      · rfl
    refine hK.out _ _ ⟨(cel (w := w3.drew) (below_alloc (Below.refl _ _) _) c3.1), (cel (w := w3.drew) (below_alloc (Below.refl _ _) _) k30), (cel (w := w3.drew) (below_alloc (Below.refl _ _) _) k31), (cel (w := w3.drew) (below_alloc (Below.refl _ _) _) k32), (cel (w := w3.drew) (below_alloc (Below.refl _ _) _) k33), (cel (w := w3.drew) (below_alloc (Below.refl _ _) _) k34)⟩ (fun hHeld => ?_)
    clear hK K
    refine norm_ (a' := ?_) ?_ ?_
    rotate_left
    · show Act.put _ (some 36) _ = _
      simp only [Act.put, List.setIfInBounds_toArray, List.set_cons_zero, List.set_cons_succ, i64_w, i32_w]
      rfl
    refine last_ (i := 7) (N := some 37) #[true, true, true, true, true, true, true, true, false, false, false] rfl rfl (by kernel_rfl) (by decide) (fun K hK => ?_)
    refine Kd.R_append_step k89 (w0 := W0) (W := w3.drew) b0 (by first | assumption | rfl) (.tmp 34) (.tmp 36) 32 89 (.agg #[.int .i8 0, .int .i8 0, .int .i16 0, .int .i16 0, .int .i16 0]) 8 rfl Try.underlying32 infoK rfl (by decide) (by decide) (.slice A xs.length c0) xs ⟨a, b, ⟨a2, a3, a4⟩⟩ [.int .i8 a, .int .i8 b, .int .i16 a2, .int .i16 a3, .int .i16 a4] (fun k => k ∉ av) (fun _ => False) rfl rfl (k89_mkM _ _ _ ⟨a, b, ⟨a2, a3, a4⟩⟩) (fun _ h => h.elim) (fun k hk hm => absurd (HF.out.al k hm).1 (by have h2 : w3.heap.size ≤ k := hk; have := S3_.out; omega)) R3_.out (Below.drew B3_.out) (by show b0 ≤ w3.heap.size; have := HBS.out; have := S3_.out; omega) (by have := HL.out; omega) ?_
    intro v1 w5 hR5 hb5 hg5 hat5
    obtain ⟨A5, m5, rfl⟩ := Kd.R_slice hR5
    have HR5 := Aside0.mk hR5
    have HB5 := Aside0.mk hb5
    have HG5 := Aside0.mk (show w3.grownBy w5 (Value.slice A xs.length c0).ownBlock from ⟨hg5.os, hg5.tape, hg5.output, hg5.size, hg5.block⟩)
    have V5 : w5.heap[gc]? = some (.cells #[.slice A xs.length c0, .map (some bm)] 177 (0, 0)) := (HG5.out.block gc (blk_lt_ V3_.out) (fun e => (NGL.out gc e.symm).1 rfl)).trans V3_.out
    have c5 := bc2 V5
    have f5 := bf2 V5
    have V5_ := Aside0.mk V5
    clear hR5 hb5 hg5 hat5 V5
    refine hK.out _ _ ?_
    clear hK K
    refine norm_ (a' := ?_) ?_ ?_
    rotate_left
    · show Act.put _ (some 37) _ = _
      simp only [Act.put, List.setIfInBounds_toArray, List.set_cons_zero, List.set_cons_succ, i64_w, i32_w]
      rfl
    refine pure_ (i := 8) (N := some 38) (v := ?_) (a' := ?_) #[true, true, true, true, true, true, true, true, true, false, false] rfl rfl (by kernel_rfl) (fun _ _ _ h => h) (Or.inl ⟨by rfl, ?_⟩) ?_ ?_
    rotate_left
    · intro w'
      go_simp
      with_reducible rfl
    rotate_left
    · simp only [Act.put, List.setIfInBounds_toArray, List.set_cons_zero, List.set_cons_succ, i64_w, i32_w]
      rfl
    refine pure_ (i := 9) (N := some 39) (v := ?_) (a' := ?_) #[true, true, true, true, true, true, true, true, true, true, false] rfl rfl (by kernel_rfl) (fun _ _ _ h => h) (Or.inl ⟨by rfl, ?_⟩) ?_ ?_
    rotate_left
    · intro w'
      go_simp
      with_reducible rfl
    rotate_left
    · simp only [Act.put, List.setIfInBounds_toArray, List.set_cons_zero, List.set_cons_succ, i64_w, i32_w]
      rfl
    refine last_ (i := 10) (N := none) #[true, true, true, true, true, true, true, true, true, true, true] rfl rfl (by kernel_rfl) (by decide) (fun K hK => ?_)
    refine skip_ (w1 := ?_) (by rfl) rfl ?_ ?_
    rotate_left
    · go_simp
      rfl
    refine hK.out _ _ ?_
    clear hK K
    refine done_ (by kernel_rfl) ?_

    go_wp2
    go_ret
    have hE : k89.E = [] := rfl
    have hbm5 : w5.heap[bm]? = w3.heap[bm]? := HG5.out.block bm HO3.out.lt (fun e => (NGL.out bm e.symm).2.1 rfl)
    have KS5 : Ks [89, 177] w3 w5 := Ks.grown HG5.out (fun k c q fz e hk => by
      obtain ⟨_, _, _, _, cells, hc⟩ := NGL.out k e
      rw [hc] at hk
      injection hk with hk
      injection hk with _ hk
      rw [← hk]
      simp)
    have h5 := HR5.out
    rw [List.length_append, List.length_singleton] at h5
    have h5b : Kd.R k89 89 w5 b0 (fun k => k ∉ av ∧ k ≠ gc) (.slice A5 (xs.length + 1) m5) (xs ++ [⟨a, b, ⟨a2, a3, a4⟩⟩]) := Kd.R_types h5 V5_.out (fun q hq => by rw [hE] at hq; rw [List.mem_singleton.1 hq]; decide)
    have h5c : Kd.R k89 89 (w5.setCell ⟨gc, 0, none⟩ (.slice A5 (xs.length + 1) m5)) b0 (fun k => k ∉ av) (.slice A5 (xs.length + 1) m5) (fndL xs ⟨a, b, ⟨a2, a3, a4⟩⟩) := by
      rw [HFX.out]
      exact Kd.R_mono (Kd.R_far h5b (p := ⟨gc, 0, none⟩) (fun k hk => hk.2) _) (fun _ hk => hk.1)
    refine ⟨by rw [HIX.out]; rfl, ⟨FB.out.gl, FB.out.ml, fun k hk => ⟨?_, (HF.out.al k hk).2⟩, ⟨_, blk_put V5_.out 0 _ rfl, h5c⟩, _, ?_, own_move_ (own_move_ HO3.out hbm5) (Below.heap_setCell w5 _ _ bm (fun e => NGM.out e.symm))⟩, HB5.out.setCell (p := ⟨gc, 0, none⟩) FB.out.gl _, (KS3_.out.trans KS5).trans (Ks.grown (grown_set w5 _ _) (fun k c q fz e hk => by
      injection e with e
      subst e
      rw [V5_.out] at hk
      injection hk with hk
      injection hk with _ hk
      rw [← hk]
      simp)), fun k hk => ?_⟩
    · have h1 := (HF.out.al k hk).1
      have h2 := S3_.out
      have h3 := HG5.out.size
      have h4 : (w5.setCell ⟨gc, 0, none⟩ (.slice A5 (xs.length + 1) m5)).heap.size = w5.heap.size := by simp [World.setCell]
      omega
    · rw [HFX.out]
      exact HD.out.put HP.out CX.out
    · have h1 := (HF.out.al k hk).1
      have h4 := HBW.out.size
      have h5 := HG3.out.size
      rw [Below.heap_setCell w5 _ _ k (HF.out.al k hk).2.1, HG5.out.block k (by omega) (fun e => (NGL.out k e.symm).2.2.1 hk), Q3_.out k (by omega) (HF.out.al k hk).2.2]
      exact HBW.out.block k (by omega)
end Go.Proofs.Ytpfnohdnaocpdaa.PT

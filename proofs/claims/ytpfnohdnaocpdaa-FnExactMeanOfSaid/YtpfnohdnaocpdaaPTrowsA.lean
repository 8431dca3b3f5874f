/- Tree.rows by hand: a node that asks. -/
import Derived.Test.YtpfnohdnaocpdaaPTx2
import Derived.Test.YtpfnohdnaocpdaaPTrowsI
import Derived.Test.YtpfnohdnaocpdaaPTha
import Derived.Test.YtpfnohdnaocpdaaPTks
import Derived.Test.YtpfnohdnaocpdaaPTclone8
import Derived.IntWalk
namespace Go.Proofs.Ytpfnohdnaocpdaa.PT
open Go.RowKit Go.Proofs.YtpfnohdnaocpdaaW.PrintWords Go.Proofs.YtpfnohdnaocpdaaW.PrintLast Go.Proofs.YtpfnohdnaocpdaaW.PrintMore Go.Lib Go.Proofs.YtpfnohdnaocpdaaRP
set_option linter.unusedVariables false
set_option linter.unusedSimpArgs false
theorem idx0_ (X Y Z : Int) (w : World) : Sem.run Try.prog (Instr.index 87 (.agg #[.int .i16 X, .int .i16 Y, .int .i16 Z]) (.int .i64 0)) w = .ok (.int .i16 X) w := by kernel_rfl
theorem idx1_ (X Y Z : Int) (w : World) : Sem.run Try.prog (Instr.index 87 (.agg #[.int .i16 X, .int .i16 Y, .int .i16 Z]) (.int .i64 1)) w = .ok (.int .i16 Y) w := by kernel_rfl
theorem idx2_ (X Y Z : Int) (w : World) : Sem.run Try.prog (Instr.index 87 (.agg #[.int .i16 X, .int .i16 Y, .int .i16 Z]) (.int .i64 2)) w = .ok (.int .i16 Z) w := by kernel_rfl
theorem dg0_ : IntKind.i8.wrap (wrap64 (-1)) = -1 := by rw [show wrap64 (-1) = -1 from by unfold wrap64; omega]; rfl
theorem dg1_ : IntKind.i8.wrap (wrap64 0) = 0 := by rw [show wrap64 0 = 0 from by unfold wrap64; omega]; rfl
theorem dg2_ : IntKind.i8.wrap (wrap64 1) = 1 := by rw [show wrap64 1 = 1 from by unfold wrap64; omega]; rfl
attribute [local go_sem] idx0_ idx1_ idx2_ dg0_ dg1_ dg2_
set_option maxHeartbeats 8000000 in
set_option maxRecDepth 100000 in
theorem rowsI_ask (l : List S89) (W0 : World) (A0 : Option Addr) (c0 : Nat) (hr0 : Kd.C k89 W0 A0 l.length l) (out : List S151) (a n : Int) (qs ts : List Int) (vo va vt : Value) (r1 : List S151) (r2 : Bool) (w : World) (q0 : qs.length ≤ 100000) (i0 : 0 ≤ a) (i1 : a < l.length) (hn : ¬ (ts.length : Int) = n) (hx : (rd_T89 l a).f0 = 1)
    (ho : RR w W0.heap.size vo out) (ha : RI w W0.heap.size va qs) (ht : RI w W0.heap.size vt ts) (hb : Below W0.heap.size W0 w)
    (rec : List S151 → Int → List Int → Option (List S151 × Bool)) (h : restI rec qs (waysI (rd_T89 l a)) out = some (r1, r2))
    (hrec : ∀ (o : List S151) (b d : Int) (t : List S151 × Bool) (u v : Value) (w' : World), rec o b (qs ++ [d]) = some t → RR w' W0.heap.size u o → RI w' W0.heap.size v (qs ++ [d]) → RI w' W0.heap.size vt ts → Below W0.heap.size W0 w' → Calls Try.prog 103 #[.agg #[.slice A0 l.length c0], u, .int .i16 b, .int .i64 n, v, vt] w' fun e w2 => RowsPost W0.heap.size t.1 t.2 W0 w' e w2) :
    Calls Try.prog 103 #[.agg #[.slice A0 l.length c0], vo, .int .i16 a, .int .i64 n, va, vt] w fun e w' => RowsPost W0.heap.size r1 r2 W0 w e w' := by
  obtain ⟨Ao, co, rfl⟩ := Kd.S_slice ho
  obtain ⟨Aa, ca, rfl⟩ := Kd.R_slice ha
  obtain ⟨At, ct, rfl⟩ := Kd.R_slice ht
  obtain ⟨ad0, e0, x0, x1, x2, x3, x4⟩ := at_T89 hr0 a i0 i1
  cases e0
  obtain ⟨X, hX⟩ : ∃ X, X = rd_T89 l a := ⟨_, rfl⟩
  rw [← hX] at x0 x1 x2 x3 x4 hx h
  clear hX
  replace x0 := cel hb x0; replace x1 := cel hb x1; replace x2 := cel hb x2; replace x3 := cel hb x3; replace x4 := cel hb x4
  obtain ⟨X0, X1, X2, X3, X4⟩ := X
  simp only at x0 x1 x2 x3 x4 hx h
  subst hx
  obtain ⟨_, la, _⟩ := Kd.R_reads' ha
  have LA := Aside0.mk la
  have L0 := Aside0.mk q0
  have HB := Aside0.mk hb
  have HREC := Aside0.mk hrec
  have HH := Aside0.mk h
  have HO := Aside0.mk ho
  have HA := Aside0.mk ha
  have HT := Aside0.mk ht
  have e0 : ((ts.length : Int) == n) = false := beq_eq_false_iff_ne.mpr hn
  have D1 := decide_eq_true i0
  have D2 := decide_eq_true i1
  clear ho ha ht la hb hn q0 hrec hr0 h
  have l0 : (Addr.add ad0 (a.toNat * 5)).block < w.heap.size := World.block_lt_of_cell? w _ x0
  have hu34 := Try.underlying34
  have hu89 := Try.underlying89
  have hu87 := Try.underlying87
  go_enter Try.func103, Try.ntmps103
  go_upto_block 0 with (fail)
  generalize hwp : World.alloc (World.alloc w _) _ = wq
  have bp : Below w.heap.size w wq := by rw [← hwp]; exact below_alloc (below_alloc (Below.refl _ _) _) _
  have K0 : wq.heap[w.heap.size]? = some (.cells #[.slice (some ad0) l.length c0] 34 (0, 0)) := by rw [← hwp]; exact ha_old _ (ha_at w _ rfl)
  have BX0 := Aside0.mk K0
  have KP := Aside0.mk (Ks.below (T := [151]) bp)
  have BP := Aside0.mk (HB.out.trans (bp.mono HB.out.size))
  have RO := Aside0.mk (Kd.S_below HO.out bp)
  have RA := Aside0.mk (Kd.R_below HA.out bp)
  have RT := Aside0.mk (Kd.R_below HT.out bp)
  clear hwp bp K0 x0 x1 x2 x3 x4 l0 HO HA HT HB
  generalize hgX : w.heap.size + 1 = gX
  generalize hgB : w.heap.size = gB at BX0 ⊢
  go_wp2_with (fail)
  go_loopw [1, 60] (fun v1 v60 wr => ∃ (j : Nat) (o : List S151) (Au : Option Addr) (cu : Nat), v1 = .slice Au o.length cu ∧ v60 = .int .i64 (j : Int) ∧ Aside0 (j ≤ 3) ∧ Aside0 (restI rec qs ((waysI ⟨1, X1, ⟨X2, X3, X4⟩⟩).drop j) o = some (r1, r2)) ∧ Aside0 (RR wr W0.heap.size (.slice Au o.length cu) o) ∧ Aside0 (RI wr W0.heap.size (.slice Aa qs.length ca) qs) ∧ Aside0 (RI wr W0.heap.size (.slice At ts.length ct) ts) ∧ Aside0 (wr.heap[gB]? = some (.cells #[.slice (some ad0) l.length c0] 34 (0, 0))) ∧ Aside0 (Below W0.heap.size W0 wr) ∧ Aside0 (Ks [151] w wr)) (fun v1 v60 _ => 3 - (intOf v60).toNat)
  case atStart => exact ⟨0, out, Ao, co, rfl, rfl, ⟨by omega⟩, HH, RO, RA, RT, BX0, BP, KP⟩
  case round =>
    clear HH RO RA RT BX0 BP KP
    obtain ⟨j, o, Au, cu, rfl, rfl, HJ3, HS, RO, RA, RT, BX0, BP, KP⟩ := hrel
    have CA := Aside0.mk (Kd.R_reads' RA.out).2.2
    have SP := Aside0.mk BP.out.size
    have pb : wr.cell? ⟨gB, 0, none⟩ = some (.slice (some ad0) l.length c0) := (blk_cell BX0.out 0).trans rfl
    by_cases hj : j < 3
    · rcases (show j = 0 ∨ j = 1 ∨ j = 2 by omega) with rfl | rfl | rfl
      · have HJ := HS.out
        rw [show (waysI ⟨1, X1, ⟨X2, X3, X4⟩⟩).drop 0 = (-1, X2) :: (waysI ⟨1, X1, ⟨X2, X3, X4⟩⟩).drop 1 from rfl, restI_cons] at HJ
        obtain ⟨⟨t1, t2⟩, ht1, HJ⟩ := Option.bind_eq_some_iff.mp HJ
        have HT_ := Aside0.mk ht1
        clear ht1 HS
        cases t2 with
        | true =>
          have HS := Aside0.mk (show restI rec qs ((waysI ⟨1, X1, ⟨X2, X3, X4⟩⟩).drop 1) t1 = some (r1, r2) from HJ)
          clear HJ
          go_wp2
          refine start_ (n := 18) (S := fun w' => w'.cell? ⟨gB, 0, none⟩ = some (.slice (some ad0) l.length c0)) (ds := [12]) #[false, false, false, false, false, false, false, false, false, false, false, false, false, false, false, false, false, false] (by kernel_rfl) rfl rfl (pb) (fun hHeld => ?_)
          refine pure_ (i := 1) (N := some 66) (v := ?_) (a' := ?_) #[false, true, false, false, false, false, false, false, false, false, false, false, false, false, false, false, false, false] rfl rfl (by kernel_rfl) (fun _ _ _ h => h) (Or.inl ⟨by rfl, ?_⟩) ?_ ?_
          rotate_left
          · intro w'
            go_simp
            with_reducible rfl
          rotate_left
          · simp only [Act.put, List.setIfInBounds_toArray, List.set_cons_zero, List.set_cons_succ, i64_w, i32_w]
            rfl
          refine pure_ (i := 2) (N := some 67) (v := ?_) (a' := ?_) #[false, true, true, false, false, false, false, false, false, false, false, false, false, false, false, false, false, false] rfl rfl (by kernel_rfl) (fun _ _ _ h => h) (Or.inl ⟨by rfl, ?_⟩) ?_ ?_
          rotate_left
          · intro w'
            go_simp
            with_reducible rfl
          rotate_left
          · simp only [Act.put, List.setIfInBounds_toArray, List.set_cons_zero, List.set_cons_succ, i64_w, i32_w]
            rfl
          refine pure_ (i := 3) (N := some 68) (v := ?_) (a' := ?_) #[false, true, true, true, false, false, false, false, false, false, false, false, false, false, false, false, false, false] rfl rfl (by kernel_rfl) (fun _ _ _ h => h) (Or.inl ⟨by rfl, ?_⟩) ?_ ?_
          rotate_left
          · intro w'
            go_simp
            with_reducible rfl
          rotate_left
          · simp only [Act.put, List.setIfInBounds_toArray, List.set_cons_zero, List.set_cons_succ, i64_w, i32_w]
            rfl
          refine pure_ (i := 4) (N := some 69) (v := ?_) (a' := ?_) #[false, true, true, true, true, false, false, false, false, false, false, false, false, false, false, false, false, false] rfl rfl (by kernel_rfl) (fun _ _ _ h => h) (Or.inl ⟨by rfl, ?_⟩) ?_ ?_
          rotate_left
          · intro w'
            go_simp
            with_reducible rfl
          rotate_left
          · simp only [Act.put, List.setIfInBounds_toArray, List.set_cons_zero, List.set_cons_succ, i64_w, i32_w]
            rfl
          refine pure_ (i := 6) (N := some 71) (v := ?_) (a' := ?_) #[false, true, true, true, true, false, true, false, false, false, false, false, false, false, false, false, false, false] rfl rfl (by kernel_rfl) (fun _ _ _ h => h) (Or.inl ⟨by rfl, ?_⟩) ?_ ?_
          rotate_left
          · intro w'
            go_simp
            with_reducible rfl
          rotate_left
          · simp only [Act.put, List.setIfInBounds_toArray, List.set_cons_zero, List.set_cons_succ, i64_w, i32_w]
            rfl
          refine pure_ (i := 7) (N := some 72) (v := ?_) (a' := ?_) #[false, true, true, true, true, false, true, true, false, false, false, false, false, false, false, false, false, false] rfl rfl (by kernel_rfl) (fun _ _ _ h => h) (Or.inl ⟨by rfl, ?_⟩) ?_ ?_
          rotate_left
          · intro w'
            go_simp
            with_reducible rfl
          rotate_left
          · simp only [Act.put, List.setIfInBounds_toArray, List.set_cons_zero, List.set_cons_succ, i64_w, i32_w]
            rfl
          refine pure_ (i := 8) (N := some 73) (v := ?_) (a' := ?_) #[false, true, true, true, true, false, true, true, true, false, false, false, false, false, false, false, false, false] rfl rfl (by kernel_rfl) (fun _ _ _ h => h) (Or.inl ⟨by rfl, ?_⟩) ?_ ?_
          rotate_left
          · intro w'
            go_simp
            with_reducible rfl
          rotate_left
          · simp only [Act.put, List.setIfInBounds_toArray, List.set_cons_zero, List.set_cons_succ, i64_w, i32_w]
            rfl
          refine pure_ (i := 11) (N := some 76) (v := ?_) (a' := ?_) #[false, true, true, true, true, false, true, true, true, false, false, true, false, false, false, false, false, false] rfl rfl (by kernel_rfl) (fun _ _ _ h => h) (Or.inl ⟨by rfl, ?_⟩) ?_ ?_
          rotate_left
          · intro w'
            go_simp
            with_reducible rfl
          rotate_left
          · simp only [Act.put, List.setIfInBounds_toArray, List.set_cons_zero, List.set_cons_succ, i64_w, i32_w]
            rfl
          refine take_ (i := 0) (N := some 65) (v := ?_) (a' := ?_) #[true, true, true, true, true, false, true, true, true, false, false, true, false, false, false, false, false, false] rfl rfl (by kernel_rfl) (fun _ _ _ h => h) (Or.inl ⟨by rfl, ?_⟩) hHeld ?_ ?_
          rotate_left
          · intro w' s0
            go_simp
            with_reducible rfl
          rotate_left
          · simp only [Act.put, List.setIfInBounds_toArray, List.set_cons_zero, List.set_cons_succ, i64_w, i32_w]
            rfl
          refine join_ (σ := Option Addr × Nat × Nat) 7 #[true, true, true, true, true, true, true, true, true, true, false, true, false, false, false, false, false, false] (fun s => [(70, .slice s.1 qs.length s.2.1), (74, .slice (some ⟨s.2.2, 0, none⟩) 1 1)]) (fun s w' => Lit_ (World.drew wr) w' s.1 qs s.2.1 s.2.2 (-1)) ?_ ?_
          rotate_left
          · intro hCont
            refine two_ (i := 5) (j := 9) (Ni := some 70) (Nj := some 74) #[true, true, true, true, true, true, true, true, true, false, false, true, false, false, false, false, false, false] #[true, true, true, true, true, false, true, true, true, true, false, true, false, false, false, false, false, false] rfl rfl rfl rfl (by kernel_rfl) (by decide) (by decide) (fun K hK => ?_) (fun K hK => ?_)
            · skip
              refine goes_ Try.func137 (by kernel_rfl) rfl #[.slice Aa qs.length ca] (by rfl) rfl rfl (by simp only [List.map_toArray, List.map_cons, List.map_nil]; rfl) ?_
              with_reducible refine (slices_Clone8.calls Aa ca qs qs (World.drew wr) (Kd.C_below CA.out ((below_drew1 (Below.refl _ _)) : Below wr.heap.size wr _)) LA.out (clone_some L0.out)).mono ?_
              rintro e w3 ⟨v3, rfl, hR3, hb3⟩
              refine ⟨_, rfl, ?_⟩
              obtain ⟨A3, m3, rfl⟩ := Kd.R_slice hR3
              have R3 := Aside0.mk hR3
              have B3 := Aside0.mk hb3
              clear hR3 hb3
              refine hK.out _ _ ((cel (w := World.drew wr) B3.out pb)) (fun hHeld => ?_)
              clear hK K
              refine norm_ (a' := ?_) ?_ ?_
              rotate_left
              · show Act.put _ (some 70) _ = _
                simp only [Act.put, List.setIfInBounds_toArray, List.set_cons_zero, List.set_cons_succ, i64_w, i32_w]
                rfl
              refine one_ (i := 9) (N := some 74) #[true, true, true, true, true, true, true, true, true, true, false, true, false, false, false, false, false, false] rfl rfl (by kernel_rfl) (by decide) (fun K hK => ?_)
              refine value_ (w1 := ?_) (v := ?_) (by rfl) rfl ?_ ?_
              rotate_left 2
              · go_simp
                constructor
                · rfl
                · rfl
              refine hK.out _ _ ((cel (w := World.drew wr) (below_alloc B3.out _) pb)) (fun hHeld => ?_)
              clear hK K
              refine norm_ (a' := ?_) ?_ ?_
              rotate_left
              · show Act.put _ (some 74) _ = _
                simp only [Act.put, List.setIfInBounds_toArray, List.set_cons_zero, List.set_cons_succ, i64_w, i32_w]
                rfl
              exact norm_ (by simp only [putAll, Act.put, List.setIfInBounds_toArray, List.set_cons_zero, List.set_cons_succ]) (hCont (A3, m3, w3.heap.size) _ (Lit_after (wp := (World.drew wr)) (-1) R3.out B3.out))
            · skip
              refine value_ (w1 := ?_) (v := ?_) (by rfl) rfl ?_ ?_
              rotate_left 2
              · go_simp
                constructor
                · rfl
                · rfl
              refine hK.out _ _ ((cel (w := World.drew wr) (below_alloc (Below.refl _ _) _) pb)) (fun hHeld => ?_)
              clear hK K
              refine norm_ (a' := ?_) ?_ ?_
              rotate_left
              · show Act.put _ (some 74) _ = _
                simp only [Act.put, List.setIfInBounds_toArray, List.set_cons_zero, List.set_cons_succ, i64_w, i32_w]
                rfl
              refine one_ (i := 5) (N := some 70) #[true, true, true, true, true, true, true, true, true, true, false, true, false, false, false, false, false, false] rfl rfl (by kernel_rfl) (by decide) (fun K hK => ?_)
              refine goes_ Try.func137 (by kernel_rfl) rfl #[.slice Aa qs.length ca] (by rfl) rfl rfl (by simp only [List.map_toArray, List.map_cons, List.map_nil]; rfl) ?_
              with_reducible refine (slices_Clone8.calls Aa ca qs qs (World.drew (World.alloc wr (.cells #[.int .i8 (-1)] 86))) (Kd.C_below CA.out ((below_drew1 (below_alloc (Below.refl _ _) _)) : Below wr.heap.size wr _)) LA.out (clone_some L0.out)).mono ?_
              rintro e w3 ⟨v3, rfl, hR3, hb3⟩
              refine ⟨_, rfl, ?_⟩
              obtain ⟨A3, m3, rfl⟩ := Kd.R_slice hR3
              have hL3 := Aside0.mk (Lit_before (wp := wr) (-1) hR3 hb3)
              clear hR3 hb3
              refine hK.out _ _ ((cel (w := World.drew wr) hL3.out.2.2.2 pb)) (fun hHeld => ?_)
              clear hK K
              refine norm_ (a' := ?_) ?_ ?_
              rotate_left
              · show Act.put _ (some 70) _ = _
                simp only [Act.put, List.setIfInBounds_toArray, List.set_cons_zero, List.set_cons_succ, i64_w, i32_w]
                rfl
              exact norm_ (by simp only [putAll, Act.put, List.setIfInBounds_toArray, List.set_cons_zero, List.set_cons_succ]) (hCont (A3, m3, wr.heap.size) _ hL3.out)
          rintro ⟨A5, m5, kb⟩ w5 hL5
          replace hL5 : Lit_ (World.drew wr) w5 A5 qs m5 kb (-1) := hL5
          have L5 := Aside0.mk hL5
          clear hL5
          have hHeld : w5.cell? ⟨gB, 0, none⟩ = some (.slice (some ad0) l.length c0) := (cel (w := World.drew wr) L5.out.2.2.2 pb)
          refine norm_ (a' := ?_) ?_ ?_
          rotate_left
          · simp only [putAll, Act.put, List.setIfInBounds_toArray, List.set_cons_zero, List.set_cons_succ]
            rfl
          refine one_ (i := 10) (N := some 75) #[true, true, true, true, true, true, true, true, true, true, true, true, false, false, false, false, false, false] rfl rfl (by kernel_rfl) (by decide) (fun K hK => ?_)
          refine Kd.R_append_rows_step (Kd.int .i8) (w0 := (World.drew wr)) (W := w5) wr.heap.size (by first | assumption | rfl) (.tmp 70) (.tmp 74) 25 86 (.int .i8 0) 1 rfl Try.underlying25 infoC8 rfl (by decide) (by decide) (.slice A5 qs.length m5) qs [(-1)] (some ⟨kb, 0, none⟩) 1 1 (fun k => k ≠ kb) (fun _ => False) rfl rfl L5.out.1 (one_C L5.out.2.1) (fun _ _ h => h) (fun _ h => h.elim) (fun k hk => by have := blk_lt_ L5.out.2.1; omega) L5.out.2.2.2 L5.out.2.2.2.size (by have := L0.out; omega) ?_
          intro v6 w6 hR6 hb6 hg6 hat6
          have R6 := Aside0.mk (Kd.R_lower (Kd.R_mono (ok' := T_) hR6 (fun _ _ => trivial)) SP.out)
          have B6 := Aside0.mk hb6
          have BB6 := Aside0.mk (BP.out.trans ((Below.trans (below_drew1 (Below.refl _ _)) hb6).mono SP.out))
          clear hR6 hb6 hg6 hat6 L5
          refine hK.out _ _ ((cel (w := World.drew wr) B6.out pb)) (fun hHeld => ?_)
          clear hK K
          refine norm_ (a' := ?_) ?_ ?_
          rotate_left
          · show Act.put _ (some 75) _ = _
            simp only [Act.put, List.setIfInBounds_toArray, List.set_cons_zero, List.set_cons_succ, i64_w, i32_w]
            rfl
          refine last_ (i := 12) (N := some 77) #[true, true, true, true, true, true, true, true, true, true, true, true, true, false, false, false, false, false] rfl rfl (by kernel_rfl) (by decide) (fun K hK => ?_)
          refine goes_ Try.func103 (by kernel_rfl) rfl #[.agg #[.slice (some ad0) l.length c0], .slice Au o.length cu, .int .i16 X2, .int .i64 n, v6, .slice At ts.length ct] (by rfl) rfl rfl (by simp only [List.map_toArray, List.map_cons, List.map_nil]; rfl) ?_
          with_reducible refine (HREC.out o X2 (-1) (t1, true) (.slice Au o.length cu) v6 w6 HT_.out (Kd.S_below RO.out (Below.trans (below_drew1 (Below.refl _ _)) B6.out)) R6.out (Kd.R_below RT.out (Below.trans (below_drew1 (Below.refl _ _)) B6.out)) BB6.out).mono ?_
          rintro e w7 ⟨v7, rfl, hR7, hb7, hk7, hs7⟩
          refine ⟨_, rfl, ?_⟩
          obtain ⟨A7, c7, rfl⟩ := Kd.S_slice (hR7 rfl)
          have R7 := Aside0.mk (hR7 rfl)
          have B7 := Aside0.mk hb7
          have J7 := Aside0.mk ((Ks.below (T := [151]) (Below.trans (below_drew1 (Below.refl _ _)) B6.out : Below wr.heap.size wr w6)).trans hk7)
          have K7 := Aside0.mk (KP.out.trans J7.out)
          clear hR7 hb7 hk7 hs7
          refine hK.out _ _ ?_
          clear hK K
          refine norm_ (a' := ?_) ?_ ?_
          rotate_left
          · show Act.put _ (some 77) _ = _
            simp only [Act.put, List.setIfInBounds_toArray, List.set_cons_zero, List.set_cons_succ, i64_w, i32_w]
            rfl
          refine pure_ (i := 13) (N := some 64) (v := ?_) (a' := ?_) #[true, true, true, true, true, true, true, true, true, true, true, true, true, true, false, false, false, false] rfl rfl (by kernel_rfl) (fun _ _ _ h => h) (Or.inl ⟨by rfl, ?_⟩) ?_ ?_
          rotate_left
          · intro w'
            go_simp
            with_reducible rfl
          rotate_left
          · simp only [Act.put, List.setIfInBounds_toArray, List.set_cons_zero, List.set_cons_succ, i64_w, i32_w]
            rfl
          refine pure_ (i := 14) (N := some 78) (v := ?_) (a' := ?_) #[true, true, true, true, true, true, true, true, true, true, true, true, true, true, true, false, false, false] rfl rfl (by kernel_rfl) (fun _ _ _ h => h) (Or.inl ⟨by rfl, ?_⟩) ?_ ?_
          rotate_left
          · intro w'
            go_simp
            with_reducible rfl
          rotate_left
          · simp only [Act.put, List.setIfInBounds_toArray, List.set_cons_zero, List.set_cons_succ, i64_w, i32_w]
            rfl
          refine pure_ (i := 15) (N := some 79) (v := ?_) (a' := ?_) #[true, true, true, true, true, true, true, true, true, true, true, true, true, true, true, true, false, false] rfl rfl (by kernel_rfl) (fun _ _ _ h => h) (Or.inl ⟨by rfl, ?_⟩) ?_ ?_
          rotate_left
          · intro w'
            go_simp
            with_reducible rfl
          rotate_left
          · simp only [Act.put, List.setIfInBounds_toArray, List.set_cons_zero, List.set_cons_succ, i64_w, i32_w]
            rfl
          refine pure_ (i := 16) (N := some 1) (v := ?_) (a' := ?_) #[true, true, true, true, true, true, true, true, true, true, true, true, true, true, true, true, true, false] rfl rfl (by kernel_rfl) (fun _ _ _ h => h) (Or.inl ⟨by rfl, ?_⟩) ?_ ?_
          rotate_left
          · intro w'
            go_simp
            with_reducible rfl
          rotate_left
          · simp only [Act.put, List.setIfInBounds_toArray, List.set_cons_zero, List.set_cons_succ, i64_w, i32_w]
            rfl
          refine pure_ (i := 17) (N := some 17) (v := ?_) (a' := ?_) #[true, true, true, true, true, true, true, true, true, true, true, true, true, true, true, true, true, true] rfl rfl (by kernel_rfl) (fun _ _ _ h => h) (Or.inl ⟨by rfl, ?_⟩) ?_ ?_
          rotate_left
          · intro w'
            go_simp
            with_reducible rfl
          rotate_left
          · simp only [Act.put, List.setIfInBounds_toArray, List.set_cons_zero, List.set_cons_succ, i64_w, i32_w]
            rfl
          refine done_ (by kernel_rfl) ?_
          go_wp2
          go_round
          case rel => exact ⟨1, t1, A7, c7, rfl, by first | (with_reducible rfl) | go_num, ⟨by omega⟩, HS, R7, ⟨R_Ks RA.out J7.out (by decide)⟩, ⟨R_Ks RT.out J7.out (by decide)⟩, ⟨J7.out.2 _ _ _ _ BX0.out (by decide)⟩, B7, K7⟩
          case measure => first | (simp [intOf]; done) | (simp [intOf]; omega)
        | false =>
          have hz : some (([] : List S151), false) = some (r1, r2) := HJ
          obtain ⟨rfl, rfl⟩ := Prod.mk.inj (Option.some.inj hz)
          clear HJ hz
          go_wp2
          refine start_ (n := 18) (S := fun w' => w'.cell? ⟨gB, 0, none⟩ = some (.slice (some ad0) l.length c0)) (ds := [12]) #[false, false, false, false, false, false, false, false, false, false, false, false, false, false, false, false, false, false] (by kernel_rfl) rfl rfl (pb) (fun hHeld => ?_)
          refine pure_ (i := 1) (N := some 66) (v := ?_) (a' := ?_) #[false, true, false, false, false, false, false, false, false, false, false, false, false, false, false, false, false, false] rfl rfl (by kernel_rfl) (fun _ _ _ h => h) (Or.inl ⟨by rfl, ?_⟩) ?_ ?_
          rotate_left
          · intro w'
            go_simp
            with_reducible rfl
          rotate_left
          · simp only [Act.put, List.setIfInBounds_toArray, List.set_cons_zero, List.set_cons_succ, i64_w, i32_w]
            rfl
          refine pure_ (i := 2) (N := some 67) (v := ?_) (a' := ?_) #[false, true, true, false, false, false, false, false, false, false, false, false, false, false, false, false, false, false] rfl rfl (by kernel_rfl) (fun _ _ _ h => h) (Or.inl ⟨by rfl, ?_⟩) ?_ ?_
          rotate_left
          · intro w'
            go_simp
            with_reducible rfl
          rotate_left
          · simp only [Act.put, List.setIfInBounds_toArray, List.set_cons_zero, List.set_cons_succ, i64_w, i32_w]
            rfl
          refine pure_ (i := 3) (N := some 68) (v := ?_) (a' := ?_) #[false, true, true, true, false, false, false, false, false, false, false, false, false, false, false, false, false, false] rfl rfl (by kernel_rfl) (fun _ _ _ h => h) (Or.inl ⟨by rfl, ?_⟩) ?_ ?_
          rotate_left
          · intro w'
            go_simp
            with_reducible rfl
          rotate_left
          · simp only [Act.put, List.setIfInBounds_toArray, List.set_cons_zero, List.set_cons_succ, i64_w, i32_w]
            rfl
          refine pure_ (i := 4) (N := some 69) (v := ?_) (a' := ?_) #[false, true, true, true, true, false, false, false, false, false, false, false, false, false, false, false, false, false] rfl rfl (by kernel_rfl) (fun _ _ _ h => h) (Or.inl ⟨by rfl, ?_⟩) ?_ ?_
          rotate_left
          · intro w'
            go_simp
            with_reducible rfl
          rotate_left
          · simp only [Act.put, List.setIfInBounds_toArray, List.set_cons_zero, List.set_cons_succ, i64_w, i32_w]
            rfl
          refine pure_ (i := 6) (N := some 71) (v := ?_) (a' := ?_) #[false, true, true, true, true, false, true, false, false, false, false, false, false, false, false, false, false, false] rfl rfl (by kernel_rfl) (fun _ _ _ h => h) (Or.inl ⟨by rfl, ?_⟩) ?_ ?_
          rotate_left
          · intro w'
            go_simp
            with_reducible rfl
          rotate_left
          · simp only [Act.put, List.setIfInBounds_toArray, List.set_cons_zero, List.set_cons_succ, i64_w, i32_w]
            rfl
          refine pure_ (i := 7) (N := some 72) (v := ?_) (a' := ?_) #[false, true, true, true, true, false, true, true, false, false, false, false, false, false, false, false, false, false] rfl rfl (by kernel_rfl) (fun _ _ _ h => h) (Or.inl ⟨by rfl, ?_⟩) ?_ ?_
          rotate_left
          · intro w'
            go_simp
            with_reducible rfl
          rotate_left
          · simp only [Act.put, List.setIfInBounds_toArray, List.set_cons_zero, List.set_cons_succ, i64_w, i32_w]
            rfl
          refine pure_ (i := 8) (N := some 73) (v := ?_) (a' := ?_) #[false, true, true, true, true, false, true, true, true, false, false, false, false, false, false, false, false, false] rfl rfl (by kernel_rfl) (fun _ _ _ h => h) (Or.inl ⟨by rfl, ?_⟩) ?_ ?_
          rotate_left
          · intro w'
            go_simp
            with_reducible rfl
          rotate_left
          · simp only [Act.put, List.setIfInBounds_toArray, List.set_cons_zero, List.set_cons_succ, i64_w, i32_w]
            rfl
          refine pure_ (i := 11) (N := some 76) (v := ?_) (a' := ?_) #[false, true, true, true, true, false, true, true, true, false, false, true, false, false, false, false, false, false] rfl rfl (by kernel_rfl) (fun _ _ _ h => h) (Or.inl ⟨by rfl, ?_⟩) ?_ ?_
          rotate_left
          · intro w'
            go_simp
            with_reducible rfl
          rotate_left
          · simp only [Act.put, List.setIfInBounds_toArray, List.set_cons_zero, List.set_cons_succ, i64_w, i32_w]
            rfl
          refine take_ (i := 0) (N := some 65) (v := ?_) (a' := ?_) #[true, true, true, true, true, false, true, true, true, false, false, true, false, false, false, false, false, false] rfl rfl (by kernel_rfl) (fun _ _ _ h => h) (Or.inl ⟨by rfl, ?_⟩) hHeld ?_ ?_
          rotate_left
          · intro w' s0
            go_simp
            with_reducible rfl
          rotate_left
          · simp only [Act.put, List.setIfInBounds_toArray, List.set_cons_zero, List.set_cons_succ, i64_w, i32_w]
            rfl
          refine join_ (σ := Option Addr × Nat × Nat) 7 #[true, true, true, true, true, true, true, true, true, true, false, true, false, false, false, false, false, false] (fun s => [(70, .slice s.1 qs.length s.2.1), (74, .slice (some ⟨s.2.2, 0, none⟩) 1 1)]) (fun s w' => Lit_ (World.drew wr) w' s.1 qs s.2.1 s.2.2 (-1)) ?_ ?_
          rotate_left
          · intro hCont
            refine two_ (i := 5) (j := 9) (Ni := some 70) (Nj := some 74) #[true, true, true, true, true, true, true, true, true, false, false, true, false, false, false, false, false, false] #[true, true, true, true, true, false, true, true, true, true, false, true, false, false, false, false, false, false] rfl rfl rfl rfl (by kernel_rfl) (by decide) (by decide) (fun K hK => ?_) (fun K hK => ?_)
            · skip
              refine goes_ Try.func137 (by kernel_rfl) rfl #[.slice Aa qs.length ca] (by rfl) rfl rfl (by simp only [List.map_toArray, List.map_cons, List.map_nil]; rfl) ?_
              with_reducible refine (slices_Clone8.calls Aa ca qs qs (World.drew wr) (Kd.C_below CA.out ((below_drew1 (Below.refl _ _)) : Below wr.heap.size wr _)) LA.out (clone_some L0.out)).mono ?_
              rintro e w3 ⟨v3, rfl, hR3, hb3⟩
              refine ⟨_, rfl, ?_⟩
              obtain ⟨A3, m3, rfl⟩ := Kd.R_slice hR3
              have R3 := Aside0.mk hR3
              have B3 := Aside0.mk hb3
              clear hR3 hb3
              refine hK.out _ _ ((cel (w := World.drew wr) B3.out pb)) (fun hHeld => ?_)
              clear hK K
              refine norm_ (a' := ?_) ?_ ?_
              rotate_left
              · show Act.put _ (some 70) _ = _
                simp only [Act.put, List.setIfInBounds_toArray, List.set_cons_zero, List.set_cons_succ, i64_w, i32_w]
                rfl
              refine one_ (i := 9) (N := some 74) #[true, true, true, true, true, true, true, true, true, true, false, true, false, false, false, false, false, false] rfl rfl (by kernel_rfl) (by decide) (fun K hK => ?_)
              refine value_ (w1 := ?_) (v := ?_) (by rfl) rfl ?_ ?_
              rotate_left 2
              · go_simp
                constructor
                · rfl
                · rfl
              refine hK.out _ _ ((cel (w := World.drew wr) (below_alloc B3.out _) pb)) (fun hHeld => ?_)
              clear hK K
              refine norm_ (a' := ?_) ?_ ?_
              rotate_left
              · show Act.put _ (some 74) _ = _
                simp only [Act.put, List.setIfInBounds_toArray, List.set_cons_zero, List.set_cons_succ, i64_w, i32_w]
                rfl
              exact norm_ (by simp only [putAll, Act.put, List.setIfInBounds_toArray, List.set_cons_zero, List.set_cons_succ]) (hCont (A3, m3, w3.heap.size) _ (Lit_after (wp := (World.drew wr)) (-1) R3.out B3.out))
            · skip
              refine value_ (w1 := ?_) (v := ?_) (by rfl) rfl ?_ ?_
              rotate_left 2
              · go_simp
                constructor
                · rfl
                · rfl
              refine hK.out _ _ ((cel (w := World.drew wr) (below_alloc (Below.refl _ _) _) pb)) (fun hHeld => ?_)
              clear hK K
              refine norm_ (a' := ?_) ?_ ?_
              rotate_left
              · show Act.put _ (some 74) _ = _
                simp only [Act.put, List.setIfInBounds_toArray, List.set_cons_zero, List.set_cons_succ, i64_w, i32_w]
                rfl
              refine one_ (i := 5) (N := some 70) #[true, true, true, true, true, true, true, true, true, true, false, true, false, false, false, false, false, false] rfl rfl (by kernel_rfl) (by decide) (fun K hK => ?_)
              refine goes_ Try.func137 (by kernel_rfl) rfl #[.slice Aa qs.length ca] (by rfl) rfl rfl (by simp only [List.map_toArray, List.map_cons, List.map_nil]; rfl) ?_
              with_reducible refine (slices_Clone8.calls Aa ca qs qs (World.drew (World.alloc wr (.cells #[.int .i8 (-1)] 86))) (Kd.C_below CA.out ((below_drew1 (below_alloc (Below.refl _ _) _)) : Below wr.heap.size wr _)) LA.out (clone_some L0.out)).mono ?_
              rintro e w3 ⟨v3, rfl, hR3, hb3⟩
              refine ⟨_, rfl, ?_⟩
              obtain ⟨A3, m3, rfl⟩ := Kd.R_slice hR3
              have hL3 := Aside0.mk (Lit_before (wp := wr) (-1) hR3 hb3)
              clear hR3 hb3
              refine hK.out _ _ ((cel (w := World.drew wr) hL3.out.2.2.2 pb)) (fun hHeld => ?_)
              clear hK K
              refine norm_ (a' := ?_) ?_ ?_
              rotate_left
              · show Act.put _ (some 70) _ = _
                simp only [Act.put, List.setIfInBounds_toArray, List.set_cons_zero, List.set_cons_succ, i64_w, i32_w]
                rfl
              exact norm_ (by simp only [putAll, Act.put, List.setIfInBounds_toArray, List.set_cons_zero, List.set_cons_succ]) (hCont (A3, m3, wr.heap.size) _ hL3.out)
          rintro ⟨A5, m5, kb⟩ w5 hL5
          replace hL5 : Lit_ (World.drew wr) w5 A5 qs m5 kb (-1) := hL5
          have L5 := Aside0.mk hL5
          clear hL5
          have hHeld : w5.cell? ⟨gB, 0, none⟩ = some (.slice (some ad0) l.length c0) := (cel (w := World.drew wr) L5.out.2.2.2 pb)
          refine norm_ (a' := ?_) ?_ ?_
          rotate_left
          · simp only [putAll, Act.put, List.setIfInBounds_toArray, List.set_cons_zero, List.set_cons_succ]
            rfl
          refine one_ (i := 10) (N := some 75) #[true, true, true, true, true, true, true, true, true, true, true, true, false, false, false, false, false, false] rfl rfl (by kernel_rfl) (by decide) (fun K hK => ?_)
          refine Kd.R_append_rows_step (Kd.int .i8) (w0 := (World.drew wr)) (W := w5) wr.heap.size (by first | assumption | rfl) (.tmp 70) (.tmp 74) 25 86 (.int .i8 0) 1 rfl Try.underlying25 infoC8 rfl (by decide) (by decide) (.slice A5 qs.length m5) qs [(-1)] (some ⟨kb, 0, none⟩) 1 1 (fun k => k ≠ kb) (fun _ => False) rfl rfl L5.out.1 (one_C L5.out.2.1) (fun _ _ h => h) (fun _ h => h.elim) (fun k hk => by have := blk_lt_ L5.out.2.1; omega) L5.out.2.2.2 L5.out.2.2.2.size (by have := L0.out; omega) ?_
          intro v6 w6 hR6 hb6 hg6 hat6
          have R6 := Aside0.mk (Kd.R_lower (Kd.R_mono (ok' := T_) hR6 (fun _ _ => trivial)) SP.out)
          have B6 := Aside0.mk hb6
          have BB6 := Aside0.mk (BP.out.trans ((Below.trans (below_drew1 (Below.refl _ _)) hb6).mono SP.out))
          clear hR6 hb6 hg6 hat6 L5
          refine hK.out _ _ ((cel (w := World.drew wr) B6.out pb)) (fun hHeld => ?_)
          clear hK K
          refine norm_ (a' := ?_) ?_ ?_
          rotate_left
          · show Act.put _ (some 75) _ = _
            simp only [Act.put, List.setIfInBounds_toArray, List.set_cons_zero, List.set_cons_succ, i64_w, i32_w]
            rfl
          refine last_ (i := 12) (N := some 77) #[true, true, true, true, true, true, true, true, true, true, true, true, true, false, false, false, false, false] rfl rfl (by kernel_rfl) (by decide) (fun K hK => ?_)
          refine goes_ Try.func103 (by kernel_rfl) rfl #[.agg #[.slice (some ad0) l.length c0], .slice Au o.length cu, .int .i16 X2, .int .i64 n, v6, .slice At ts.length ct] (by rfl) rfl rfl (by simp only [List.map_toArray, List.map_cons, List.map_nil]; rfl) ?_
          with_reducible refine (HREC.out o X2 (-1) (t1, false) (.slice Au o.length cu) v6 w6 HT_.out (Kd.S_below RO.out (Below.trans (below_drew1 (Below.refl _ _)) B6.out)) R6.out (Kd.R_below RT.out (Below.trans (below_drew1 (Below.refl _ _)) B6.out)) BB6.out).mono ?_
          rintro e w7 ⟨v7, rfl, hR7, hb7, hk7, hs7⟩
          refine ⟨_, rfl, ?_⟩
          have R7 := Aside0.mk hR7
          have B7 := Aside0.mk hb7
          have J7 := Aside0.mk ((Ks.below (T := [151]) (Below.trans (below_drew1 (Below.refl _ _)) B6.out : Below wr.heap.size wr w6)).trans hk7)
          have K7 := Aside0.mk (KP.out.trans J7.out)
          clear hR7 hb7 hk7 hs7
          refine hK.out _ _ ?_
          clear hK K
          refine norm_ (a' := ?_) ?_ ?_
          rotate_left
          · show Act.put _ (some 77) _ = _
            simp only [Act.put, List.setIfInBounds_toArray, List.set_cons_zero, List.set_cons_succ, i64_w, i32_w]
            rfl
          refine pure_ (i := 13) (N := some 64) (v := ?_) (a' := ?_) #[true, true, true, true, true, true, true, true, true, true, true, true, true, true, false, false, false, false] rfl rfl (by kernel_rfl) (fun _ _ _ h => h) (Or.inl ⟨by rfl, ?_⟩) ?_ ?_
          rotate_left
          · intro w'
            go_simp
            with_reducible rfl
          rotate_left
          · simp only [Act.put, List.setIfInBounds_toArray, List.set_cons_zero, List.set_cons_succ, i64_w, i32_w]
            rfl
          refine pure_ (i := 14) (N := some 78) (v := ?_) (a' := ?_) #[true, true, true, true, true, true, true, true, true, true, true, true, true, true, true, false, false, false] rfl rfl (by kernel_rfl) (fun _ _ _ h => h) (Or.inl ⟨by rfl, ?_⟩) ?_ ?_
          rotate_left
          · intro w'
            go_simp
            with_reducible rfl
          rotate_left
          · simp only [Act.put, List.setIfInBounds_toArray, List.set_cons_zero, List.set_cons_succ, i64_w, i32_w]
            rfl
          refine pure_ (i := 15) (N := some 79) (v := ?_) (a' := ?_) #[true, true, true, true, true, true, true, true, true, true, true, true, true, true, true, true, false, false] rfl rfl (by kernel_rfl) (fun _ _ _ h => h) (Or.inl ⟨by rfl, ?_⟩) ?_ ?_
          rotate_left
          · intro w'
            go_simp
            with_reducible rfl
          rotate_left
          · simp only [Act.put, List.setIfInBounds_toArray, List.set_cons_zero, List.set_cons_succ, i64_w, i32_w]
            rfl
          refine pure_ (i := 16) (N := some 1) (v := ?_) (a' := ?_) #[true, true, true, true, true, true, true, true, true, true, true, true, true, true, true, true, true, false] rfl rfl (by kernel_rfl) (fun _ _ _ h => h) (Or.inl ⟨by rfl, ?_⟩) ?_ ?_
          rotate_left
          · intro w'
            go_simp
            with_reducible rfl
          rotate_left
          · simp only [Act.put, List.setIfInBounds_toArray, List.set_cons_zero, List.set_cons_succ, i64_w, i32_w]
            rfl
          refine pure_ (i := 17) (N := some 17) (v := ?_) (a' := ?_) #[true, true, true, true, true, true, true, true, true, true, true, true, true, true, true, true, true, true] rfl rfl (by kernel_rfl) (fun _ _ _ h => h) (Or.inl ⟨by rfl, ?_⟩) ?_ ?_
          rotate_left
          · intro w'
            go_simp
            with_reducible rfl
          rotate_left
          · simp only [Act.put, List.setIfInBounds_toArray, List.set_cons_zero, List.set_cons_succ, i64_w, i32_w]
            rfl
          refine done_ (by kernel_rfl) ?_
          go_wp2
          go_ret2
          exact ⟨_, rfl, fun h_ => absurd h_ (by decide), B7.out, K7.out, K7.out.1⟩
      · have HJ := HS.out
        rw [show (waysI ⟨1, X1, ⟨X2, X3, X4⟩⟩).drop 1 = (0, X3) :: (waysI ⟨1, X1, ⟨X2, X3, X4⟩⟩).drop 2 from rfl, restI_cons] at HJ
        obtain ⟨⟨t1, t2⟩, ht1, HJ⟩ := Option.bind_eq_some_iff.mp HJ
        have HT_ := Aside0.mk ht1
        clear ht1 HS
        cases t2 with
        | true =>
          have HS := Aside0.mk (show restI rec qs ((waysI ⟨1, X1, ⟨X2, X3, X4⟩⟩).drop 2) t1 = some (r1, r2) from HJ)
          clear HJ
          go_wp2
          refine start_ (n := 18) (S := fun w' => w'.cell? ⟨gB, 0, none⟩ = some (.slice (some ad0) l.length c0)) (ds := [12]) #[false, false, false, false, false, false, false, false, false, false, false, false, false, false, false, false, false, false] (by kernel_rfl) rfl rfl (pb) (fun hHeld => ?_)
          refine pure_ (i := 1) (N := some 66) (v := ?_) (a' := ?_) #[false, true, false, false, false, false, false, false, false, false, false, false, false, false, false, false, false, false] rfl rfl (by kernel_rfl) (fun _ _ _ h => h) (Or.inl ⟨by rfl, ?_⟩) ?_ ?_
          rotate_left
          · intro w'
            go_simp
            with_reducible rfl
          rotate_left
          · simp only [Act.put, List.setIfInBounds_toArray, List.set_cons_zero, List.set_cons_succ, i64_w, i32_w]
            rfl
          refine pure_ (i := 2) (N := some 67) (v := ?_) (a' := ?_) #[false, true, true, false, false, false, false, false, false, false, false, false, false, false, false, false, false, false] rfl rfl (by kernel_rfl) (fun _ _ _ h => h) (Or.inl ⟨by rfl, ?_⟩) ?_ ?_
          rotate_left
          · intro w'
            go_simp
            with_reducible rfl
          rotate_left
          · simp only [Act.put, List.setIfInBounds_toArray, List.set_cons_zero, List.set_cons_succ, i64_w, i32_w]
            rfl
          refine pure_ (i := 3) (N := some 68) (v := ?_) (a' := ?_) #[false, true, true, true, false, false, false, false, false, false, false, false, false, false, false, false, false, false] rfl rfl (by kernel_rfl) (fun _ _ _ h => h) (Or.inl ⟨by rfl, ?_⟩) ?_ ?_
          rotate_left
          · intro w'
            go_simp
            with_reducible rfl
          rotate_left
          · simp only [Act.put, List.setIfInBounds_toArray, List.set_cons_zero, List.set_cons_succ, i64_w, i32_w]
            rfl
          refine pure_ (i := 4) (N := some 69) (v := ?_) (a' := ?_) #[false, true, true, true, true, false, false, false, false, false, false, false, false, false, false, false, false, false] rfl rfl (by kernel_rfl) (fun _ _ _ h => h) (Or.inl ⟨by rfl, ?_⟩) ?_ ?_
          rotate_left
          · intro w'
            go_simp
            with_reducible rfl
          rotate_left
          · simp only [Act.put, List.setIfInBounds_toArray, List.set_cons_zero, List.set_cons_succ, i64_w, i32_w]
            rfl
          refine pure_ (i := 6) (N := some 71) (v := ?_) (a' := ?_) #[false, true, true, true, true, false, true, false, false, false, false, false, false, false, false, false, false, false] rfl rfl (by kernel_rfl) (fun _ _ _ h => h) (Or.inl ⟨by rfl, ?_⟩) ?_ ?_
          rotate_left
          · intro w'
            go_simp
            with_reducible rfl
          rotate_left
          · simp only [Act.put, List.setIfInBounds_toArray, List.set_cons_zero, List.set_cons_succ, i64_w, i32_w]
            rfl
          refine pure_ (i := 7) (N := some 72) (v := ?_) (a' := ?_) #[false, true, true, true, true, false, true, true, false, false, false, false, false, false, false, false, false, false] rfl rfl (by kernel_rfl) (fun _ _ _ h => h) (Or.inl ⟨by rfl, ?_⟩) ?_ ?_
          rotate_left
          · intro w'
            go_simp
            with_reducible rfl
          rotate_left
          · simp only [Act.put, List.setIfInBounds_toArray, List.set_cons_zero, List.set_cons_succ, i64_w, i32_w]
            rfl
          refine pure_ (i := 8) (N := some 73) (v := ?_) (a' := ?_) #[false, true, true, true, true, false, true, true, true, false, false, false, false, false, false, false, false, false] rfl rfl (by kernel_rfl) (fun _ _ _ h => h) (Or.inl ⟨by rfl, ?_⟩) ?_ ?_
          rotate_left
          · intro w'
            go_simp
            with_reducible rfl
          rotate_left
          · simp only [Act.put, List.setIfInBounds_toArray, List.set_cons_zero, List.set_cons_succ, i64_w, i32_w]
            rfl
          refine pure_ (i := 11) (N := some 76) (v := ?_) (a' := ?_) #[false, true, true, true, true, false, true, true, true, false, false, true, false, false, false, false, false, false] rfl rfl (by kernel_rfl) (fun _ _ _ h => h) (Or.inl ⟨by rfl, ?_⟩) ?_ ?_
          rotate_left
          · intro w'
            go_simp
            with_reducible rfl
          rotate_left
          · simp only [Act.put, List.setIfInBounds_toArray, List.set_cons_zero, List.set_cons_succ, i64_w, i32_w]
            rfl
          refine take_ (i := 0) (N := some 65) (v := ?_) (a' := ?_) #[true, true, true, true, true, false, true, true, true, false, false, true, false, false, false, false, false, false] rfl rfl (by kernel_rfl) (fun _ _ _ h => h) (Or.inl ⟨by rfl, ?_⟩) hHeld ?_ ?_
          rotate_left
          · intro w' s0
            go_simp
            with_reducible rfl
          rotate_left
          · simp only [Act.put, List.setIfInBounds_toArray, List.set_cons_zero, List.set_cons_succ, i64_w, i32_w]
            rfl
          refine join_ (σ := Option Addr × Nat × Nat) 7 #[true, true, true, true, true, true, true, true, true, true, false, true, false, false, false, false, false, false] (fun s => [(70, .slice s.1 qs.length s.2.1), (74, .slice (some ⟨s.2.2, 0, none⟩) 1 1)]) (fun s w' => Lit_ (World.drew wr) w' s.1 qs s.2.1 s.2.2 0) ?_ ?_
          rotate_left
          · intro hCont
            refine two_ (i := 5) (j := 9) (Ni := some 70) (Nj := some 74) #[true, true, true, true, true, true, true, true, true, false, false, true, false, false, false, false, false, false] #[true, true, true, true, true, false, true, true, true, true, false, true, false, false, false, false, false, false] rfl rfl rfl rfl (by kernel_rfl) (by decide) (by decide) (fun K hK => ?_) (fun K hK => ?_)
            · skip
              refine goes_ Try.func137 (by kernel_rfl) rfl #[.slice Aa qs.length ca] (by rfl) rfl rfl (by simp only [List.map_toArray, List.map_cons, List.map_nil]; rfl) ?_
              with_reducible refine (slices_Clone8.calls Aa ca qs qs (World.drew wr) (Kd.C_below CA.out ((below_drew1 (Below.refl _ _)) : Below wr.heap.size wr _)) LA.out (clone_some L0.out)).mono ?_
              rintro e w3 ⟨v3, rfl, hR3, hb3⟩
              refine ⟨_, rfl, ?_⟩
              obtain ⟨A3, m3, rfl⟩ := Kd.R_slice hR3
              have R3 := Aside0.mk hR3
              have B3 := Aside0.mk hb3
              clear hR3 hb3
              refine hK.out _ _ ((cel (w := World.drew wr) B3.out pb)) (fun hHeld => ?_)
              clear hK K
              refine norm_ (a' := ?_) ?_ ?_
              rotate_left
              · show Act.put _ (some 70) _ = _
                simp only [Act.put, List.setIfInBounds_toArray, List.set_cons_zero, List.set_cons_succ, i64_w, i32_w]
                rfl
              refine one_ (i := 9) (N := some 74) #[true, true, true, true, true, true, true, true, true, true, false, true, false, false, false, false, false, false] rfl rfl (by kernel_rfl) (by decide) (fun K hK => ?_)
              refine value_ (w1 := ?_) (v := ?_) (by rfl) rfl ?_ ?_
              rotate_left 2
              · go_simp
                constructor
                · rfl
                · rfl
              refine hK.out _ _ ((cel (w := World.drew wr) (below_alloc B3.out _) pb)) (fun hHeld => ?_)
              clear hK K
              refine norm_ (a' := ?_) ?_ ?_
              rotate_left
              · show Act.put _ (some 74) _ = _
                simp only [Act.put, List.setIfInBounds_toArray, List.set_cons_zero, List.set_cons_succ, i64_w, i32_w]
                rfl
              exact norm_ (by simp only [putAll, Act.put, List.setIfInBounds_toArray, List.set_cons_zero, List.set_cons_succ]) (hCont (A3, m3, w3.heap.size) _ (Lit_after (wp := (World.drew wr)) 0 R3.out B3.out))
            · skip
              refine value_ (w1 := ?_) (v := ?_) (by rfl) rfl ?_ ?_
              rotate_left 2
              · go_simp
                constructor
                · rfl
                · rfl
              refine hK.out _ _ ((cel (w := World.drew wr) (below_alloc (Below.refl _ _) _) pb)) (fun hHeld => ?_)
              clear hK K
              refine norm_ (a' := ?_) ?_ ?_
              rotate_left
              · show Act.put _ (some 74) _ = _
                simp only [Act.put, List.setIfInBounds_toArray, List.set_cons_zero, List.set_cons_succ, i64_w, i32_w]
                rfl
              refine one_ (i := 5) (N := some 70) #[true, true, true, true, true, true, true, true, true, true, false, true, false, false, false, false, false, false] rfl rfl (by kernel_rfl) (by decide) (fun K hK => ?_)
              refine goes_ Try.func137 (by kernel_rfl) rfl #[.slice Aa qs.length ca] (by rfl) rfl rfl (by simp only [List.map_toArray, List.map_cons, List.map_nil]; rfl) ?_
              with_reducible refine (slices_Clone8.calls Aa ca qs qs (World.drew (World.alloc wr (.cells #[.int .i8 0] 86))) (Kd.C_below CA.out ((below_drew1 (below_alloc (Below.refl _ _) _)) : Below wr.heap.size wr _)) LA.out (clone_some L0.out)).mono ?_
              rintro e w3 ⟨v3, rfl, hR3, hb3⟩
              refine ⟨_, rfl, ?_⟩
              obtain ⟨A3, m3, rfl⟩ := Kd.R_slice hR3
              have hL3 := Aside0.mk (Lit_before (wp := wr) 0 hR3 hb3)
              clear hR3 hb3
              refine hK.out _ _ ((cel (w := World.drew wr) hL3.out.2.2.2 pb)) (fun hHeld => ?_)
              clear hK K
              refine norm_ (a' := ?_) ?_ ?_
              rotate_left
              · show Act.put _ (some 70) _ = _
                simp only [Act.put, List.setIfInBounds_toArray, List.set_cons_zero, List.set_cons_succ, i64_w, i32_w]
                rfl
              exact norm_ (by simp only [putAll, Act.put, List.setIfInBounds_toArray, List.set_cons_zero, List.set_cons_succ]) (hCont (A3, m3, wr.heap.size) _ hL3.out)
          rintro ⟨A5, m5, kb⟩ w5 hL5
          replace hL5 : Lit_ (World.drew wr) w5 A5 qs m5 kb 0 := hL5
          have L5 := Aside0.mk hL5
          clear hL5
          have hHeld : w5.cell? ⟨gB, 0, none⟩ = some (.slice (some ad0) l.length c0) := (cel (w := World.drew wr) L5.out.2.2.2 pb)
          refine norm_ (a' := ?_) ?_ ?_
          rotate_left
          · simp only [putAll, Act.put, List.setIfInBounds_toArray, List.set_cons_zero, List.set_cons_succ]
            rfl
          refine one_ (i := 10) (N := some 75) #[true, true, true, true, true, true, true, true, true, true, true, true, false, false, false, false, false, false] rfl rfl (by kernel_rfl) (by decide) (fun K hK => ?_)
          refine Kd.R_append_rows_step (Kd.int .i8) (w0 := (World.drew wr)) (W := w5) wr.heap.size (by first | assumption | rfl) (.tmp 70) (.tmp 74) 25 86 (.int .i8 0) 1 rfl Try.underlying25 infoC8 rfl (by decide) (by decide) (.slice A5 qs.length m5) qs [0] (some ⟨kb, 0, none⟩) 1 1 (fun k => k ≠ kb) (fun _ => False) rfl rfl L5.out.1 (one_C L5.out.2.1) (fun _ _ h => h) (fun _ h => h.elim) (fun k hk => by have := blk_lt_ L5.out.2.1; omega) L5.out.2.2.2 L5.out.2.2.2.size (by have := L0.out; omega) ?_
          intro v6 w6 hR6 hb6 hg6 hat6
          have R6 := Aside0.mk (Kd.R_lower (Kd.R_mono (ok' := T_) hR6 (fun _ _ => trivial)) SP.out)
          have B6 := Aside0.mk hb6
          have BB6 := Aside0.mk (BP.out.trans ((Below.trans (below_drew1 (Below.refl _ _)) hb6).mono SP.out))
          clear hR6 hb6 hg6 hat6 L5
          refine hK.out _ _ ((cel (w := World.drew wr) B6.out pb)) (fun hHeld => ?_)
          clear hK K
          refine norm_ (a' := ?_) ?_ ?_
          rotate_left
          · show Act.put _ (some 75) _ = _
            simp only [Act.put, List.setIfInBounds_toArray, List.set_cons_zero, List.set_cons_succ, i64_w, i32_w]
            rfl
          refine last_ (i := 12) (N := some 77) #[true, true, true, true, true, true, true, true, true, true, true, true, true, false, false, false, false, false] rfl rfl (by kernel_rfl) (by decide) (fun K hK => ?_)
          refine goes_ Try.func103 (by kernel_rfl) rfl #[.agg #[.slice (some ad0) l.length c0], .slice Au o.length cu, .int .i16 X3, .int .i64 n, v6, .slice At ts.length ct] (by rfl) rfl rfl (by simp only [List.map_toArray, List.map_cons, List.map_nil]; rfl) ?_
          with_reducible refine (HREC.out o X3 0 (t1, true) (.slice Au o.length cu) v6 w6 HT_.out (Kd.S_below RO.out (Below.trans (below_drew1 (Below.refl _ _)) B6.out)) R6.out (Kd.R_below RT.out (Below.trans (below_drew1 (Below.refl _ _)) B6.out)) BB6.out).mono ?_
          rintro e w7 ⟨v7, rfl, hR7, hb7, hk7, hs7⟩
          refine ⟨_, rfl, ?_⟩
          obtain ⟨A7, c7, rfl⟩ := Kd.S_slice (hR7 rfl)
          have R7 := Aside0.mk (hR7 rfl)
          have B7 := Aside0.mk hb7
          have J7 := Aside0.mk ((Ks.below (T := [151]) (Below.trans (below_drew1 (Below.refl _ _)) B6.out : Below wr.heap.size wr w6)).trans hk7)
          have K7 := Aside0.mk (KP.out.trans J7.out)
          clear hR7 hb7 hk7 hs7
          refine hK.out _ _ ?_
          clear hK K
          refine norm_ (a' := ?_) ?_ ?_
          rotate_left
          · show Act.put _ (some 77) _ = _
            simp only [Act.put, List.setIfInBounds_toArray, List.set_cons_zero, List.set_cons_succ, i64_w, i32_w]
            rfl
          refine pure_ (i := 13) (N := some 64) (v := ?_) (a' := ?_) #[true, true, true, true, true, true, true, true, true, true, true, true, true, true, false, false, false, false] rfl rfl (by kernel_rfl) (fun _ _ _ h => h) (Or.inl ⟨by rfl, ?_⟩) ?_ ?_
          rotate_left
          · intro w'
            go_simp
            with_reducible rfl
          rotate_left
          · simp only [Act.put, List.setIfInBounds_toArray, List.set_cons_zero, List.set_cons_succ, i64_w, i32_w]
            rfl
          refine pure_ (i := 14) (N := some 78) (v := ?_) (a' := ?_) #[true, true, true, true, true, true, true, true, true, true, true, true, true, true, true, false, false, false] rfl rfl (by kernel_rfl) (fun _ _ _ h => h) (Or.inl ⟨by rfl, ?_⟩) ?_ ?_
          rotate_left
          · intro w'
            go_simp
            with_reducible rfl
          rotate_left
          · simp only [Act.put, List.setIfInBounds_toArray, List.set_cons_zero, List.set_cons_succ, i64_w, i32_w]
            rfl
          refine pure_ (i := 15) (N := some 79) (v := ?_) (a' := ?_) #[true, true, true, true, true, true, true, true, true, true, true, true, true, true, true, true, false, false] rfl rfl (by kernel_rfl) (fun _ _ _ h => h) (Or.inl ⟨by rfl, ?_⟩) ?_ ?_
          rotate_left
          · intro w'
            go_simp
            with_reducible rfl
          rotate_left
          · simp only [Act.put, List.setIfInBounds_toArray, List.set_cons_zero, List.set_cons_succ, i64_w, i32_w]
            rfl
          refine pure_ (i := 16) (N := some 1) (v := ?_) (a' := ?_) #[true, true, true, true, true, true, true, true, true, true, true, true, true, true, true, true, true, false] rfl rfl (by kernel_rfl) (fun _ _ _ h => h) (Or.inl ⟨by rfl, ?_⟩) ?_ ?_
          rotate_left
          · intro w'
            go_simp
            with_reducible rfl
          rotate_left
          · simp only [Act.put, List.setIfInBounds_toArray, List.set_cons_zero, List.set_cons_succ, i64_w, i32_w]
            rfl
          refine pure_ (i := 17) (N := some 17) (v := ?_) (a' := ?_) #[true, true, true, true, true, true, true, true, true, true, true, true, true, true, true, true, true, true] rfl rfl (by kernel_rfl) (fun _ _ _ h => h) (Or.inl ⟨by rfl, ?_⟩) ?_ ?_
          rotate_left
          · intro w'
            go_simp
            with_reducible rfl
          rotate_left
          · simp only [Act.put, List.setIfInBounds_toArray, List.set_cons_zero, List.set_cons_succ, i64_w, i32_w]
            rfl
          refine done_ (by kernel_rfl) ?_
          go_wp2
          go_round
          case rel => exact ⟨2, t1, A7, c7, rfl, by first | (with_reducible rfl) | go_num, ⟨by omega⟩, HS, R7, ⟨R_Ks RA.out J7.out (by decide)⟩, ⟨R_Ks RT.out J7.out (by decide)⟩, ⟨J7.out.2 _ _ _ _ BX0.out (by decide)⟩, B7, K7⟩
          case measure => first | (simp [intOf]; done) | (simp [intOf]; omega)
        | false =>
          have hz : some (([] : List S151), false) = some (r1, r2) := HJ
          obtain ⟨rfl, rfl⟩ := Prod.mk.inj (Option.some.inj hz)
          clear HJ hz
          go_wp2
          refine start_ (n := 18) (S := fun w' => w'.cell? ⟨gB, 0, none⟩ = some (.slice (some ad0) l.length c0)) (ds := [12]) #[false, false, false, false, false, false, false, false, false, false, false, false, false, false, false, false, false, false] (by kernel_rfl) rfl rfl (pb) (fun hHeld => ?_)
          refine pure_ (i := 1) (N := some 66) (v := ?_) (a' := ?_) #[false, true, false, false, false, false, false, false, false, false, false, false, false, false, false, false, false, false] rfl rfl (by kernel_rfl) (fun _ _ _ h => h) (Or.inl ⟨by rfl, ?_⟩) ?_ ?_
          rotate_left
          · intro w'
            go_simp
            with_reducible rfl
          rotate_left
          · simp only [Act.put, List.setIfInBounds_toArray, List.set_cons_zero, List.set_cons_succ, i64_w, i32_w]
            rfl
          refine pure_ (i := 2) (N := some 67) (v := ?_) (a' := ?_) #[false, true, true, false, false, false, false, false, false, false, false, false, false, false, false, false, false, false] rfl rfl (by kernel_rfl) (fun _ _ _ h => h) (Or.inl ⟨by rfl, ?_⟩) ?_ ?_
          rotate_left
          · intro w'
            go_simp
            with_reducible rfl
          rotate_left
          · simp only [Act.put, List.setIfInBounds_toArray, List.set_cons_zero, List.set_cons_succ, i64_w, i32_w]
            rfl
          refine pure_ (i := 3) (N := some 68) (v := ?_) (a' := ?_) #[false, true, true, true, false, false, false, false, false, false, false, false, false, false, false, false, false, false] rfl rfl (by kernel_rfl) (fun _ _ _ h => h) (Or.inl ⟨by rfl, ?_⟩) ?_ ?_
          rotate_left
          · intro w'
            go_simp
            with_reducible rfl
          rotate_left
          · simp only [Act.put, List.setIfInBounds_toArray, List.set_cons_zero, List.set_cons_succ, i64_w, i32_w]
            rfl
          refine pure_ (i := 4) (N := some 69) (v := ?_) (a' := ?_) #[false, true, true, true, true, false, false, false, false, false, false, false, false, false, false, false, false, false] rfl rfl (by kernel_rfl) (fun _ _ _ h => h) (Or.inl ⟨by rfl, ?_⟩) ?_ ?_
          rotate_left
          · intro w'
            go_simp
            with_reducible rfl
          rotate_left
          · simp only [Act.put, List.setIfInBounds_toArray, List.set_cons_zero, List.set_cons_succ, i64_w, i32_w]
            rfl
          refine pure_ (i := 6) (N := some 71) (v := ?_) (a' := ?_) #[false, true, true, true, true, false, true, false, false, false, false, false, false, false, false, false, false, false] rfl rfl (by kernel_rfl) (fun _ _ _ h => h) (Or.inl ⟨by rfl, ?_⟩) ?_ ?_
          rotate_left
          · intro w'
            go_simp
            with_reducible rfl
          rotate_left
          · simp only [Act.put, List.setIfInBounds_toArray, List.set_cons_zero, List.set_cons_succ, i64_w, i32_w]
            rfl
          refine pure_ (i := 7) (N := some 72) (v := ?_) (a' := ?_) #[false, true, true, true, true, false, true, true, false, false, false, false, false, false, false, false, false, false] rfl rfl (by kernel_rfl) (fun _ _ _ h => h) (Or.inl ⟨by rfl, ?_⟩) ?_ ?_
          rotate_left
          · intro w'
            go_simp
            with_reducible rfl
          rotate_left
          · simp only [Act.put, List.setIfInBounds_toArray, List.set_cons_zero, List.set_cons_succ, i64_w, i32_w]
            rfl
          refine pure_ (i := 8) (N := some 73) (v := ?_) (a' := ?_) #[false, true, true, true, true, false, true, true, true, false, false, false, false, false, false, false, false, false] rfl rfl (by kernel_rfl) (fun _ _ _ h => h) (Or.inl ⟨by rfl, ?_⟩) ?_ ?_
          rotate_left
          · intro w'
            go_simp
            with_reducible rfl
          rotate_left
          · simp only [Act.put, List.setIfInBounds_toArray, List.set_cons_zero, List.set_cons_succ, i64_w, i32_w]
            rfl
          refine pure_ (i := 11) (N := some 76) (v := ?_) (a' := ?_) #[false, true, true, true, true, false, true, true, true, false, false, true, false, false, false, false, false, false] rfl rfl (by kernel_rfl) (fun _ _ _ h => h) (Or.inl ⟨by rfl, ?_⟩) ?_ ?_
          rotate_left
          · intro w'
            go_simp
            with_reducible rfl
          rotate_left
          · simp only [Act.put, List.setIfInBounds_toArray, List.set_cons_zero, List.set_cons_succ, i64_w, i32_w]
            rfl
          refine take_ (i := 0) (N := some 65) (v := ?_) (a' := ?_) #[true, true, true, true, true, false, true, true, true, false, false, true, false, false, false, false, false, false] rfl rfl (by kernel_rfl) (fun _ _ _ h => h) (Or.inl ⟨by rfl, ?_⟩) hHeld ?_ ?_
          rotate_left
          · intro w' s0
            go_simp
            with_reducible rfl
          rotate_left
          · simp only [Act.put, List.setIfInBounds_toArray, List.set_cons_zero, List.set_cons_succ, i64_w, i32_w]
            rfl
          refine join_ (σ := Option Addr × Nat × Nat) 7 #[true, true, true, true, true, true, true, true, true, true, false, true, false, false, false, false, false, false] (fun s => [(70, .slice s.1 qs.length s.2.1), (74, .slice (some ⟨s.2.2, 0, none⟩) 1 1)]) (fun s w' => Lit_ (World.drew wr) w' s.1 qs s.2.1 s.2.2 0) ?_ ?_
          rotate_left
          · intro hCont
            refine two_ (i := 5) (j := 9) (Ni := some 70) (Nj := some 74) #[true, true, true, true, true, true, true, true, true, false, false, true, false, false, false, false, false, false] #[true, true, true, true, true, false, true, true, true, true, false, true, false, false, false, false, false, false] rfl rfl rfl rfl (by kernel_rfl) (by decide) (by decide) (fun K hK => ?_) (fun K hK => ?_)
            · skip
              refine goes_ Try.func137 (by kernel_rfl) rfl #[.slice Aa qs.length ca] (by rfl) rfl rfl (by simp only [List.map_toArray, List.map_cons, List.map_nil]; rfl) ?_
              with_reducible refine (slices_Clone8.calls Aa ca qs qs (World.drew wr) (Kd.C_below CA.out ((below_drew1 (Below.refl _ _)) : Below wr.heap.size wr _)) LA.out (clone_some L0.out)).mono ?_
              rintro e w3 ⟨v3, rfl, hR3, hb3⟩
              refine ⟨_, rfl, ?_⟩
              obtain ⟨A3, m3, rfl⟩ := Kd.R_slice hR3
              have R3 := Aside0.mk hR3
              have B3 := Aside0.mk hb3
              clear hR3 hb3
              refine hK.out _ _ ((cel (w := World.drew wr) B3.out pb)) (fun hHeld => ?_)
              clear hK K
              refine norm_ (a' := ?_) ?_ ?_
              rotate_left
              · show Act.put _ (some 70) _ = _
                simp only [Act.put, List.setIfInBounds_toArray, List.set_cons_zero, List.set_cons_succ, i64_w, i32_w]
                rfl
              refine one_ (i := 9) (N := some 74) #[true, true, true, true, true, true, true, true, true, true, false, true, false, false, false, false, false, false] rfl rfl (by kernel_rfl) (by decide) (fun K hK => ?_)
              refine value_ (w1 := ?_) (v := ?_) (by rfl) rfl ?_ ?_
              rotate_left 2
              · go_simp
                constructor
                · rfl
                · rfl
              refine hK.out _ _ ((cel (w := World.drew wr) (below_alloc B3.out _) pb)) (fun hHeld => ?_)
              clear hK K
              refine norm_ (a' := ?_) ?_ ?_
              rotate_left
              · show Act.put _ (some 74) _ = _
                simp only [Act.put, List.setIfInBounds_toArray, List.set_cons_zero, List.set_cons_succ, i64_w, i32_w]
                rfl
              exact norm_ (by simp only [putAll, Act.put, List.setIfInBounds_toArray, List.set_cons_zero, List.set_cons_succ]) (hCont (A3, m3, w3.heap.size) _ (Lit_after (wp := (World.drew wr)) 0 R3.out B3.out))
            · skip
              refine value_ (w1 := ?_) (v := ?_) (by rfl) rfl ?_ ?_
              rotate_left 2
              · go_simp
                constructor
                · rfl
                · rfl
              refine hK.out _ _ ((cel (w := World.drew wr) (below_alloc (Below.refl _ _) _) pb)) (fun hHeld => ?_)
              clear hK K
              refine norm_ (a' := ?_) ?_ ?_
              rotate_left
              · show Act.put _ (some 74) _ = _
                simp only [Act.put, List.setIfInBounds_toArray, List.set_cons_zero, List.set_cons_succ, i64_w, i32_w]
                rfl
              refine one_ (i := 5) (N := some 70) #[true, true, true, true, true, true, true, true, true, true, false, true, false, false, false, false, false, false] rfl rfl (by kernel_rfl) (by decide) (fun K hK => ?_)
              refine goes_ Try.func137 (by kernel_rfl) rfl #[.slice Aa qs.length ca] (by rfl) rfl rfl (by simp only [List.map_toArray, List.map_cons, List.map_nil]; rfl) ?_
              with_reducible refine (slices_Clone8.calls Aa ca qs qs (World.drew (World.alloc wr (.cells #[.int .i8 0] 86))) (Kd.C_below CA.out ((below_drew1 (below_alloc (Below.refl _ _) _)) : Below wr.heap.size wr _)) LA.out (clone_some L0.out)).mono ?_
              rintro e w3 ⟨v3, rfl, hR3, hb3⟩
              refine ⟨_, rfl, ?_⟩
              obtain ⟨A3, m3, rfl⟩ := Kd.R_slice hR3
              have hL3 := Aside0.mk (Lit_before (wp := wr) 0 hR3 hb3)
              clear hR3 hb3
              refine hK.out _ _ ((cel (w := World.drew wr) hL3.out.2.2.2 pb)) (fun hHeld => ?_)
              clear hK K
              refine norm_ (a' := ?_) ?_ ?_
              rotate_left
              · show Act.put _ (some 70) _ = _
                simp only [Act.put, List.setIfInBounds_toArray, List.set_cons_zero, List.set_cons_succ, i64_w, i32_w]
                rfl
              exact norm_ (by simp only [putAll, Act.put, List.setIfInBounds_toArray, List.set_cons_zero, List.set_cons_succ]) (hCont (A3, m3, wr.heap.size) _ hL3.out)
          rintro ⟨A5, m5, kb⟩ w5 hL5
          replace hL5 : Lit_ (World.drew wr) w5 A5 qs m5 kb 0 := hL5
          have L5 := Aside0.mk hL5
          clear hL5
          have hHeld : w5.cell? ⟨gB, 0, none⟩ = some (.slice (some ad0) l.length c0) := (cel (w := World.drew wr) L5.out.2.2.2 pb)
          refine norm_ (a' := ?_) ?_ ?_
          rotate_left
          · simp only [putAll, Act.put, List.setIfInBounds_toArray, List.set_cons_zero, List.set_cons_succ]
            rfl
          refine one_ (i := 10) (N := some 75) #[true, true, true, true, true, true, true, true, true, true, true, true, false, false, false, false, false, false] rfl rfl (by kernel_rfl) (by decide) (fun K hK => ?_)
          refine Kd.R_append_rows_step (Kd.int .i8) (w0 := (World.drew wr)) (W := w5) wr.heap.size (by first | assumption | rfl) (.tmp 70) (.tmp 74) 25 86 (.int .i8 0) 1 rfl Try.underlying25 infoC8 rfl (by decide) (by decide) (.slice A5 qs.length m5) qs [0] (some ⟨kb, 0, none⟩) 1 1 (fun k => k ≠ kb) (fun _ => False) rfl rfl L5.out.1 (one_C L5.out.2.1) (fun _ _ h => h) (fun _ h => h.elim) (fun k hk => by have := blk_lt_ L5.out.2.1; omega) L5.out.2.2.2 L5.out.2.2.2.size (by have := L0.out; omega) ?_
          intro v6 w6 hR6 hb6 hg6 hat6
          have R6 := Aside0.mk (Kd.R_lower (Kd.R_mono (ok' := T_) hR6 (fun _ _ => trivial)) SP.out)
          have B6 := Aside0.mk hb6
          have BB6 := Aside0.mk (BP.out.trans ((Below.trans (below_drew1 (Below.refl _ _)) hb6).mono SP.out))
          clear hR6 hb6 hg6 hat6 L5
          refine hK.out _ _ ((cel (w := World.drew wr) B6.out pb)) (fun hHeld => ?_)
          clear hK K
          refine norm_ (a' := ?_) ?_ ?_
          rotate_left
          · show Act.put _ (some 75) _ = _
            simp only [Act.put, List.setIfInBounds_toArray, List.set_cons_zero, List.set_cons_succ, i64_w, i32_w]
            rfl
          refine last_ (i := 12) (N := some 77) #[true, true, true, true, true, true, true, true, true, true, true, true, true, false, false, false, false, false] rfl rfl (by kernel_rfl) (by decide) (fun K hK => ?_)
          refine goes_ Try.func103 (by kernel_rfl) rfl #[.agg #[.slice (some ad0) l.length c0], .slice Au o.length cu, .int .i16 X3, .int .i64 n, v6, .slice At ts.length ct] (by rfl) rfl rfl (by simp only [List.map_toArray, List.map_cons, List.map_nil]; rfl) ?_
          with_reducible refine (HREC.out o X3 0 (t1, false) (.slice Au o.length cu) v6 w6 HT_.out (Kd.S_below RO.out (Below.trans (below_drew1 (Below.refl _ _)) B6.out)) R6.out (Kd.R_below RT.out (Below.trans (below_drew1 (Below.refl _ _)) B6.out)) BB6.out).mono ?_
          rintro e w7 ⟨v7, rfl, hR7, hb7, hk7, hs7⟩
          refine ⟨_, rfl, ?_⟩
          have R7 := Aside0.mk hR7
          have B7 := Aside0.mk hb7
          have J7 := Aside0.mk ((Ks.below (T := [151]) (Below.trans (below_drew1 (Below.refl _ _)) B6.out : Below wr.heap.size wr w6)).trans hk7)
          have K7 := Aside0.mk (KP.out.trans J7.out)
          clear hR7 hb7 hk7 hs7
          refine hK.out _ _ ?_
          clear hK K
          refine norm_ (a' := ?_) ?_ ?_
          rotate_left
          · show Act.put _ (some 77) _ = _
            simp only [Act.put, List.setIfInBounds_toArray, List.set_cons_zero, List.set_cons_succ, i64_w, i32_w]
            rfl
          refine pure_ (i := 13) (N := some 64) (v := ?_) (a' := ?_) #[true, true, true, true, true, true, true, true, true, true, true, true, true, true, false, false, false, false] rfl rfl (by kernel_rfl) (fun _ _ _ h => h) (Or.inl ⟨by rfl, ?_⟩) ?_ ?_
          rotate_left
          · intro w'
            go_simp
            with_reducible rfl
          rotate_left
          · simp only [Act.put, List.setIfInBounds_toArray, List.set_cons_zero, List.set_cons_succ, i64_w, i32_w]
            rfl
          refine pure_ (i := 14) (N := some 78) (v := ?_) (a' := ?_) #[true, true, true, true, true, true, true, true, true, true, true, true, true, true, true, false, false, false] rfl rfl (by kernel_rfl) (fun _ _ _ h => h) (Or.inl ⟨by rfl, ?_⟩) ?_ ?_
          rotate_left
          · intro w'
            go_simp
            with_reducible rfl
          rotate_left
          · simp only [Act.put, List.setIfInBounds_toArray, List.set_cons_zero, List.set_cons_succ, i64_w, i32_w]
            rfl
          refine pure_ (i := 15) (N := some 79) (v := ?_) (a' := ?_) #[true, true, true, true, true, true, true, true, true, true, true, true, true, true, true, true, false, false] rfl rfl (by kernel_rfl) (fun _ _ _ h => h) (Or.inl ⟨by rfl, ?_⟩) ?_ ?_
          rotate_left
          · intro w'
            go_simp
            with_reducible rfl
          rotate_left
          · simp only [Act.put, List.setIfInBounds_toArray, List.set_cons_zero, List.set_cons_succ, i64_w, i32_w]
            rfl
          refine pure_ (i := 16) (N := some 1) (v := ?_) (a' := ?_) #[true, true, true, true, true, true, true, true, true, true, true, true, true, true, true, true, true, false] rfl rfl (by kernel_rfl) (fun _ _ _ h => h) (Or.inl ⟨by rfl, ?_⟩) ?_ ?_
          rotate_left
          · intro w'
            go_simp
            with_reducible rfl
          rotate_left
          · simp only [Act.put, List.setIfInBounds_toArray, List.set_cons_zero, List.set_cons_succ, i64_w, i32_w]
            rfl
          refine pure_ (i := 17) (N := some 17) (v := ?_) (a' := ?_) #[true, true, true, true, true, true, true, true, true, true, true, true, true, true, true, true, true, true] rfl rfl (by kernel_rfl) (fun _ _ _ h => h) (Or.inl ⟨by rfl, ?_⟩) ?_ ?_
          rotate_left
          · intro w'
            go_simp
            with_reducible rfl
          rotate_left
          · simp only [Act.put, List.setIfInBounds_toArray, List.set_cons_zero, List.set_cons_succ, i64_w, i32_w]
            rfl
          refine done_ (by kernel_rfl) ?_
          go_wp2
          go_ret2
          exact ⟨_, rfl, fun h_ => absurd h_ (by decide), B7.out, K7.out, K7.out.1⟩
      · have HJ := HS.out
        rw [show (waysI ⟨1, X1, ⟨X2, X3, X4⟩⟩).drop 2 = (1, X4) :: (waysI ⟨1, X1, ⟨X2, X3, X4⟩⟩).drop 3 from rfl, restI_cons] at HJ
        obtain ⟨⟨t1, t2⟩, ht1, HJ⟩ := Option.bind_eq_some_iff.mp HJ
        have HT_ := Aside0.mk ht1
        clear ht1 HS
        cases t2 with
        | true =>
          have HS := Aside0.mk (show restI rec qs ((waysI ⟨1, X1, ⟨X2, X3, X4⟩⟩).drop 3) t1 = some (r1, r2) from HJ)
          clear HJ
          go_wp2
          refine start_ (n := 18) (S := fun w' => w'.cell? ⟨gB, 0, none⟩ = some (.slice (some ad0) l.length c0)) (ds := [12]) #[false, false, false, false, false, false, false, false, false, false, false, false, false, false, false, false, false, false] (by kernel_rfl) rfl rfl (pb) (fun hHeld => ?_)
          refine pure_ (i := 1) (N := some 66) (v := ?_) (a' := ?_) #[false, true, false, false, false, false, false, false, false, false, false, false, false, false, false, false, false, false] rfl rfl (by kernel_rfl) (fun _ _ _ h => h) (Or.inl ⟨by rfl, ?_⟩) ?_ ?_
          rotate_left
          · intro w'
            go_simp
            with_reducible rfl
          rotate_left
          · simp only [Act.put, List.setIfInBounds_toArray, List.set_cons_zero, List.set_cons_succ, i64_w, i32_w]
            rfl
          refine pure_ (i := 2) (N := some 67) (v := ?_) (a' := ?_) #[false, true, true, false, false, false, false, false, false, false, false, false, false, false, false, false, false, false] rfl rfl (by kernel_rfl) (fun _ _ _ h => h) (Or.inl ⟨by rfl, ?_⟩) ?_ ?_
          rotate_left
          · intro w'
            go_simp
            with_reducible rfl
          rotate_left
          · simp only [Act.put, List.setIfInBounds_toArray, List.set_cons_zero, List.set_cons_succ, i64_w, i32_w]
            rfl
          refine pure_ (i := 3) (N := some 68) (v := ?_) (a' := ?_) #[false, true, true, true, false, false, false, false, false, false, false, false, false, false, false, false, false, false] rfl rfl (by kernel_rfl) (fun _ _ _ h => h) (Or.inl ⟨by rfl, ?_⟩) ?_ ?_
          rotate_left
          · intro w'
            go_simp
            with_reducible rfl
          rotate_left
          · simp only [Act.put, List.setIfInBounds_toArray, List.set_cons_zero, List.set_cons_succ, i64_w, i32_w]
            rfl
          refine pure_ (i := 4) (N := some 69) (v := ?_) (a' := ?_) #[false, true, true, true, true, false, false, false, false, false, false, false, false, false, false, false, false, false] rfl rfl (by kernel_rfl) (fun _ _ _ h => h) (Or.inl ⟨by rfl, ?_⟩) ?_ ?_
          rotate_left
          · intro w'
            go_simp
            with_reducible rfl
          rotate_left
          · simp only [Act.put, List.setIfInBounds_toArray, List.set_cons_zero, List.set_cons_succ, i64_w, i32_w]
            rfl
          refine pure_ (i := 6) (N := some 71) (v := ?_) (a' := ?_) #[false, true, true, true, true, false, true, false, false, false, false, false, false, false, false, false, false, false] rfl rfl (by kernel_rfl) (fun _ _ _ h => h) (Or.inl ⟨by rfl, ?_⟩) ?_ ?_
          rotate_left
          · intro w'
            go_simp
            with_reducible rfl
          rotate_left
          · simp only [Act.put, List.setIfInBounds_toArray, List.set_cons_zero, List.set_cons_succ, i64_w, i32_w]
            rfl
          refine pure_ (i := 7) (N := some 72) (v := ?_) (a' := ?_) #[false, true, true, true, true, false, true, true, false, false, false, false, false, false, false, false, false, false] rfl rfl (by kernel_rfl) (fun _ _ _ h => h) (Or.inl ⟨by rfl, ?_⟩) ?_ ?_
          rotate_left
          · intro w'
            go_simp
            with_reducible rfl
          rotate_left
          · simp only [Act.put, List.setIfInBounds_toArray, List.set_cons_zero, List.set_cons_succ, i64_w, i32_w]
            rfl
          refine pure_ (i := 8) (N := some 73) (v := ?_) (a' := ?_) #[false, true, true, true, true, false, true, true, true, false, false, false, false, false, false, false, false, false] rfl rfl (by kernel_rfl) (fun _ _ _ h => h) (Or.inl ⟨by rfl, ?_⟩) ?_ ?_
          rotate_left
          · intro w'
            go_simp
            with_reducible rfl
          rotate_left
          · simp only [Act.put, List.setIfInBounds_toArray, List.set_cons_zero, List.set_cons_succ, i64_w, i32_w]
            rfl
          refine pure_ (i := 11) (N := some 76) (v := ?_) (a' := ?_) #[false, true, true, true, true, false, true, true, true, false, false, true, false, false, false, false, false, false] rfl rfl (by kernel_rfl) (fun _ _ _ h => h) (Or.inl ⟨by rfl, ?_⟩) ?_ ?_
          rotate_left
          · intro w'
            go_simp
            with_reducible rfl
          rotate_left
          · simp only [Act.put, List.setIfInBounds_toArray, List.set_cons_zero, List.set_cons_succ, i64_w, i32_w]
            rfl
          refine take_ (i := 0) (N := some 65) (v := ?_) (a' := ?_) #[true, true, true, true, true, false, true, true, true, false, false, true, false, false, false, false, false, false] rfl rfl (by kernel_rfl) (fun _ _ _ h => h) (Or.inl ⟨by rfl, ?_⟩) hHeld ?_ ?_
          rotate_left
          · intro w' s0
            go_simp
            with_reducible rfl
          rotate_left
          · simp only [Act.put, List.setIfInBounds_toArray, List.set_cons_zero, List.set_cons_succ, i64_w, i32_w]
            rfl
          refine join_ (σ := Option Addr × Nat × Nat) 7 #[true, true, true, true, true, true, true, true, true, true, false, true, false, false, false, false, false, false] (fun s => [(70, .slice s.1 qs.length s.2.1), (74, .slice (some ⟨s.2.2, 0, none⟩) 1 1)]) (fun s w' => Lit_ (World.drew wr) w' s.1 qs s.2.1 s.2.2 1) ?_ ?_
          rotate_left
          · intro hCont
            refine two_ (i := 5) (j := 9) (Ni := some 70) (Nj := some 74) #[true, true, true, true, true, true, true, true, true, false, false, true, false, false, false, false, false, false] #[true, true, true, true, true, false, true, true, true, true, false, true, false, false, false, false, false, false] rfl rfl rfl rfl (by kernel_rfl) (by decide) (by decide) (fun K hK => ?_) (fun K hK => ?_)
            · skip
              refine goes_ Try.func137 (by kernel_rfl) rfl #[.slice Aa qs.length ca] (by rfl) rfl rfl (by simp only [List.map_toArray, List.map_cons, List.map_nil]; rfl) ?_
              with_reducible refine (slices_Clone8.calls Aa ca qs qs (World.drew wr) (Kd.C_below CA.out ((below_drew1 (Below.refl _ _)) : Below wr.heap.size wr _)) LA.out (clone_some L0.out)).mono ?_
              rintro e w3 ⟨v3, rfl, hR3, hb3⟩
              refine ⟨_, rfl, ?_⟩
              obtain ⟨A3, m3, rfl⟩ := Kd.R_slice hR3
              have R3 := Aside0.mk hR3
              have B3 := Aside0.mk hb3
              clear hR3 hb3
              refine hK.out _ _ ((cel (w := World.drew wr) B3.out pb)) (fun hHeld => ?_)
              clear hK K
              refine norm_ (a' := ?_) ?_ ?_
              rotate_left
              · show Act.put _ (some 70) _ = _
                simp only [Act.put, List.setIfInBounds_toArray, List.set_cons_zero, List.set_cons_succ, i64_w, i32_w]
                rfl
              refine one_ (i := 9) (N := some 74) #[true, true, true, true, true, true, true, true, true, true, false, true, false, false, false, false, false, false] rfl rfl (by kernel_rfl) (by decide) (fun K hK => ?_)
              refine value_ (w1 := ?_) (v := ?_) (by rfl) rfl ?_ ?_
              rotate_left 2
              · go_simp
                constructor
                · rfl
                · rfl
              refine hK.out _ _ ((cel (w := World.drew wr) (below_alloc B3.out _) pb)) (fun hHeld => ?_)
              clear hK K
              refine norm_ (a' := ?_) ?_ ?_
              rotate_left
              · show Act.put _ (some 74) _ = _
                simp only [Act.put, List.setIfInBounds_toArray, List.set_cons_zero, List.set_cons_succ, i64_w, i32_w]
                rfl
              exact norm_ (by simp only [putAll, Act.put, List.setIfInBounds_toArray, List.set_cons_zero, List.set_cons_succ]) (hCont (A3, m3, w3.heap.size) _ (Lit_after (wp := (World.drew wr)) 1 R3.out B3.out))
            · skip
              refine value_ (w1 := ?_) (v := ?_) (by rfl) rfl ?_ ?_
              rotate_left 2
              · go_simp
                constructor
                · rfl
                · rfl
              refine hK.out _ _ ((cel (w := World.drew wr) (below_alloc (Below.refl _ _) _) pb)) (fun hHeld => ?_)
              clear hK K
              refine norm_ (a' := ?_) ?_ ?_
              rotate_left
              · show Act.put _ (some 74) _ = _
                simp only [Act.put, List.setIfInBounds_toArray, List.set_cons_zero, List.set_cons_succ, i64_w, i32_w]
                rfl
              refine one_ (i := 5) (N := some 70) #[true, true, true, true, true, true, true, true, true, true, false, true, false, false, false, false, false, false] rfl rfl (by kernel_rfl) (by decide) (fun K hK => ?_)
              refine goes_ Try.func137 (by kernel_rfl) rfl #[.slice Aa qs.length ca] (by rfl) rfl rfl (by simp only [List.map_toArray, List.map_cons, List.map_nil]; rfl) ?_
              with_reducible refine (slices_Clone8.calls Aa ca qs qs (World.drew (World.alloc wr (.cells #[.int .i8 1] 86))) (Kd.C_below CA.out ((below_drew1 (below_alloc (Below.refl _ _) _)) : Below wr.heap.size wr _)) LA.out (clone_some L0.out)).mono ?_
              rintro e w3 ⟨v3, rfl, hR3, hb3⟩
              refine ⟨_, rfl, ?_⟩
              obtain ⟨A3, m3, rfl⟩ := Kd.R_slice hR3
              have hL3 := Aside0.mk (Lit_before (wp := wr) 1 hR3 hb3)
              clear hR3 hb3
              refine hK.out _ _ ((cel (w := World.drew wr) hL3.out.2.2.2 pb)) (fun hHeld => ?_)
              clear hK K
              refine norm_ (a' := ?_) ?_ ?_
              rotate_left
              · show Act.put _ (some 70) _ = _
                simp only [Act.put, List.setIfInBounds_toArray, List.set_cons_zero, List.set_cons_succ, i64_w, i32_w]
                rfl
              exact norm_ (by simp only [putAll, Act.put, List.setIfInBounds_toArray, List.set_cons_zero, List.set_cons_succ]) (hCont (A3, m3, wr.heap.size) _ hL3.out)
          rintro ⟨A5, m5, kb⟩ w5 hL5
          replace hL5 : Lit_ (World.drew wr) w5 A5 qs m5 kb 1 := hL5
          have L5 := Aside0.mk hL5
          clear hL5
          have hHeld : w5.cell? ⟨gB, 0, none⟩ = some (.slice (some ad0) l.length c0) := (cel (w := World.drew wr) L5.out.2.2.2 pb)
          refine norm_ (a' := ?_) ?_ ?_
          rotate_left
          · simp only [putAll, Act.put, List.setIfInBounds_toArray, List.set_cons_zero, List.set_cons_succ]
            rfl
          refine one_ (i := 10) (N := some 75) #[true, true, true, true, true, true, true, true, true, true, true, true, false, false, false, false, false, false] rfl rfl (by kernel_rfl) (by decide) (fun K hK => ?_)
          refine Kd.R_append_rows_step (Kd.int .i8) (w0 := (World.drew wr)) (W := w5) wr.heap.size (by first | assumption | rfl) (.tmp 70) (.tmp 74) 25 86 (.int .i8 0) 1 rfl Try.underlying25 infoC8 rfl (by decide) (by decide) (.slice A5 qs.length m5) qs [1] (some ⟨kb, 0, none⟩) 1 1 (fun k => k ≠ kb) (fun _ => False) rfl rfl L5.out.1 (one_C L5.out.2.1) (fun _ _ h => h) (fun _ h => h.elim) (fun k hk => by have := blk_lt_ L5.out.2.1; omega) L5.out.2.2.2 L5.out.2.2.2.size (by have := L0.out; omega) ?_
          intro v6 w6 hR6 hb6 hg6 hat6
          have R6 := Aside0.mk (Kd.R_lower (Kd.R_mono (ok' := T_) hR6 (fun _ _ => trivial)) SP.out)
          have B6 := Aside0.mk hb6
          have BB6 := Aside0.mk (BP.out.trans ((Below.trans (below_drew1 (Below.refl _ _)) hb6).mono SP.out))
          clear hR6 hb6 hg6 hat6 L5
          refine hK.out _ _ ((cel (w := World.drew wr) B6.out pb)) (fun hHeld => ?_)
          clear hK K
          refine norm_ (a' := ?_) ?_ ?_
          rotate_left
          · show Act.put _ (some 75) _ = _
            simp only [Act.put, List.setIfInBounds_toArray, List.set_cons_zero, List.set_cons_succ, i64_w, i32_w]
            rfl
          refine last_ (i := 12) (N := some 77) #[true, true, true, true, true, true, true, true, true, true, true, true, true, false, false, false, false, false] rfl rfl (by kernel_rfl) (by decide) (fun K hK => ?_)
          refine goes_ Try.func103 (by kernel_rfl) rfl #[.agg #[.slice (some ad0) l.length c0], .slice Au o.length cu, .int .i16 X4, .int .i64 n, v6, .slice At ts.length ct] (by rfl) rfl rfl (by simp only [List.map_toArray, List.map_cons, List.map_nil]; rfl) ?_
          with_reducible refine (HREC.out o X4 1 (t1, true) (.slice Au o.length cu) v6 w6 HT_.out (Kd.S_below RO.out (Below.trans (below_drew1 (Below.refl _ _)) B6.out)) R6.out (Kd.R_below RT.out (Below.trans (below_drew1 (Below.refl _ _)) B6.out)) BB6.out).mono ?_
          rintro e w7 ⟨v7, rfl, hR7, hb7, hk7, hs7⟩
          refine ⟨_, rfl, ?_⟩
          obtain ⟨A7, c7, rfl⟩ := Kd.S_slice (hR7 rfl)
          have R7 := Aside0.mk (hR7 rfl)
          have B7 := Aside0.mk hb7
          have J7 := Aside0.mk ((Ks.below (T := [151]) (Below.trans (below_drew1 (Below.refl _ _)) B6.out : Below wr.heap.size wr w6)).trans hk7)
          have K7 := Aside0.mk (KP.out.trans J7.out)
          clear hR7 hb7 hk7 hs7
          refine hK.out _ _ ?_
          clear hK K
          refine norm_ (a' := ?_) ?_ ?_
          rotate_left
          · show Act.put _ (some 77) _ = _
            simp only [Act.put, List.setIfInBounds_toArray, List.set_cons_zero, List.set_cons_succ, i64_w, i32_w]
            rfl
          refine pure_ (i := 13) (N := some 64) (v := ?_) (a' := ?_) #[true, true, true, true, true, true, true, true, true, true, true, true, true, true, false, false, false, false] rfl rfl (by kernel_rfl) (fun _ _ _ h => h) (Or.inl ⟨by rfl, ?_⟩) ?_ ?_
          rotate_left
          · intro w'
            go_simp
            with_reducible rfl
          rotate_left
          · simp only [Act.put, List.setIfInBounds_toArray, List.set_cons_zero, List.set_cons_succ, i64_w, i32_w]
            rfl
          refine pure_ (i := 14) (N := some 78) (v := ?_) (a' := ?_) #[true, true, true, true, true, true, true, true, true, true, true, true, true, true, true, false, false, false] rfl rfl (by kernel_rfl) (fun _ _ _ h => h) (Or.inl ⟨by rfl, ?_⟩) ?_ ?_
          rotate_left
          · intro w'
            go_simp
            with_reducible rfl
          rotate_left
          · simp only [Act.put, List.setIfInBounds_toArray, List.set_cons_zero, List.set_cons_succ, i64_w, i32_w]
            rfl
          refine pure_ (i := 15) (N := some 79) (v := ?_) (a' := ?_) #[true, true, true, true, true, true, true, true, true, true, true, true, true, true, true, true, false, false] rfl rfl (by kernel_rfl) (fun _ _ _ h => h) (Or.inl ⟨by rfl, ?_⟩) ?_ ?_
          rotate_left
          · intro w'
            go_simp
            with_reducible rfl
          rotate_left
          · simp only [Act.put, List.setIfInBounds_toArray, List.set_cons_zero, List.set_cons_succ, i64_w, i32_w]
            rfl
          refine pure_ (i := 16) (N := some 1) (v := ?_) (a' := ?_) #[true, true, true, true, true, true, true, true, true, true, true, true, true, true, true, true, true, false] rfl rfl (by kernel_rfl) (fun _ _ _ h => h) (Or.inl ⟨by rfl, ?_⟩) ?_ ?_
          rotate_left
          · intro w'
            go_simp
            with_reducible rfl
          rotate_left
          · simp only [Act.put, List.setIfInBounds_toArray, List.set_cons_zero, List.set_cons_succ, i64_w, i32_w]
            rfl
          refine pure_ (i := 17) (N := some 17) (v := ?_) (a' := ?_) #[true, true, true, true, true, true, true, true, true, true, true, true, true, true, true, true, true, true] rfl rfl (by kernel_rfl) (fun _ _ _ h => h) (Or.inl ⟨by rfl, ?_⟩) ?_ ?_
          rotate_left
          · intro w'
            go_simp
            with_reducible rfl
          rotate_left
          · simp only [Act.put, List.setIfInBounds_toArray, List.set_cons_zero, List.set_cons_succ, i64_w, i32_w]
            rfl
          refine done_ (by kernel_rfl) ?_
          go_wp2
          go_round
          case rel => exact ⟨3, t1, A7, c7, rfl, by first | (with_reducible rfl) | go_num, ⟨by omega⟩, HS, R7, ⟨R_Ks RA.out J7.out (by decide)⟩, ⟨R_Ks RT.out J7.out (by decide)⟩, ⟨J7.out.2 _ _ _ _ BX0.out (by decide)⟩, B7, K7⟩
          case measure => first | (simp [intOf]; done) | (simp [intOf]; omega)
        | false =>
          have hz : some (([] : List S151), false) = some (r1, r2) := HJ
          obtain ⟨rfl, rfl⟩ := Prod.mk.inj (Option.some.inj hz)
          clear HJ hz
          go_wp2
          refine start_ (n := 18) (S := fun w' => w'.cell? ⟨gB, 0, none⟩ = some (.slice (some ad0) l.length c0)) (ds := [12]) #[false, false, false, false, false, false, false, false, false, false, false, false, false, false, false, false, false, false] (by kernel_rfl) rfl rfl (pb) (fun hHeld => ?_)
          refine pure_ (i := 1) (N := some 66) (v := ?_) (a' := ?_) #[false, true, false, false, false, false, false, false, false, false, false, false, false, false, false, false, false, false] rfl rfl (by kernel_rfl) (fun _ _ _ h => h) (Or.inl ⟨by rfl, ?_⟩) ?_ ?_
          rotate_left
          · intro w'
            go_simp
            with_reducible rfl
          rotate_left
          · simp only [Act.put, List.setIfInBounds_toArray, List.set_cons_zero, List.set_cons_succ, i64_w, i32_w]
            rfl
          refine pure_ (i := 2) (N := some 67) (v := ?_) (a' := ?_) #[false, true, true, false, false, false, false, false, false, false, false, false, false, false, false, false, false, false] rfl rfl (by kernel_rfl) (fun _ _ _ h => h) (Or.inl ⟨by rfl, ?_⟩) ?_ ?_
          rotate_left
          · intro w'
            go_simp
            with_reducible rfl
          rotate_left
          · simp only [Act.put, List.setIfInBounds_toArray, List.set_cons_zero, List.set_cons_succ, i64_w, i32_w]
            rfl
          refine pure_ (i := 3) (N := some 68) (v := ?_) (a' := ?_) #[false, true, true, true, false, false, false, false, false, false, false, false, false, false, false, false, false, false] rfl rfl (by kernel_rfl) (fun _ _ _ h => h) (Or.inl ⟨by rfl, ?_⟩) ?_ ?_
          rotate_left
          · intro w'
            go_simp
            with_reducible rfl
          rotate_left
          · simp only [Act.put, List.setIfInBounds_toArray, List.set_cons_zero, List.set_cons_succ, i64_w, i32_w]
            rfl
          refine pure_ (i := 4) (N := some 69) (v := ?_) (a' := ?_) #[false, true, true, true, true, false, false, false, false, false, false, false, false, false, false, false, false, false] rfl rfl (by kernel_rfl) (fun _ _ _ h => h) (Or.inl ⟨by rfl, ?_⟩) ?_ ?_
          rotate_left
          · intro w'
            go_simp
            with_reducible rfl
          rotate_left
          · simp only [Act.put, List.setIfInBounds_toArray, List.set_cons_zero, List.set_cons_succ, i64_w, i32_w]
            rfl
          refine pure_ (i := 6) (N := some 71) (v := ?_) (a' := ?_) #[false, true, true, true, true, false, true, false, false, false, false, false, false, false, false, false, false, false] rfl rfl (by kernel_rfl) (fun _ _ _ h => h) (Or.inl ⟨by rfl, ?_⟩) ?_ ?_
          rotate_left
          · intro w'
            go_simp
            with_reducible rfl
          rotate_left
          · simp only [Act.put, List.setIfInBounds_toArray, List.set_cons_zero, List.set_cons_succ, i64_w, i32_w]
            rfl
          refine pure_ (i := 7) (N := some 72) (v := ?_) (a' := ?_) #[false, true, true, true, true, false, true, true, false, false, false, false, false, false, false, false, false, false] rfl rfl (by kernel_rfl) (fun _ _ _ h => h) (Or.inl ⟨by rfl, ?_⟩) ?_ ?_
          rotate_left
          · intro w'
            go_simp
            with_reducible rfl
          rotate_left
          · simp only [Act.put, List.setIfInBounds_toArray, List.set_cons_zero, List.set_cons_succ, i64_w, i32_w]
            rfl
          refine pure_ (i := 8) (N := some 73) (v := ?_) (a' := ?_) #[false, true, true, true, true, false, true, true, true, false, false, false, false, false, false, false, false, false] rfl rfl (by kernel_rfl) (fun _ _ _ h => h) (Or.inl ⟨by rfl, ?_⟩) ?_ ?_
          rotate_left
          · intro w'
            go_simp
            with_reducible rfl
          rotate_left
          · simp only [Act.put, List.setIfInBounds_toArray, List.set_cons_zero, List.set_cons_succ, i64_w, i32_w]
            rfl
          refine pure_ (i := 11) (N := some 76) (v := ?_) (a' := ?_) #[false, true, true, true, true, false, true, true, true, false, false, true, false, false, false, false, false, false] rfl rfl (by kernel_rfl) (fun _ _ _ h => h) (Or.inl ⟨by rfl, ?_⟩) ?_ ?_
          rotate_left
          · intro w'
            go_simp
            with_reducible rfl
          rotate_left
          · simp only [Act.put, List.setIfInBounds_toArray, List.set_cons_zero, List.set_cons_succ, i64_w, i32_w]
            rfl
          refine take_ (i := 0) (N := some 65) (v := ?_) (a' := ?_) #[true, true, true, true, true, false, true, true, true, false, false, true, false, false, false, false, false, false] rfl rfl (by kernel_rfl) (fun _ _ _ h => h) (Or.inl ⟨by rfl, ?_⟩) hHeld ?_ ?_
          rotate_left
          · intro w' s0
            go_simp
            with_reducible rfl
          rotate_left
          · simp only [Act.put, List.setIfInBounds_toArray, List.set_cons_zero, List.set_cons_succ, i64_w, i32_w]
            rfl
          refine join_ (σ := Option Addr × Nat × Nat) 7 #[true, true, true, true, true, true, true, true, true, true, false, true, false, false, false, false, false, false] (fun s => [(70, .slice s.1 qs.length s.2.1), (74, .slice (some ⟨s.2.2, 0, none⟩) 1 1)]) (fun s w' => Lit_ (World.drew wr) w' s.1 qs s.2.1 s.2.2 1) ?_ ?_
          rotate_left
          · intro hCont
            refine two_ (i := 5) (j := 9) (Ni := some 70) (Nj := some 74) #[true, true, true, true, true, true, true, true, true, false, false, true, false, false, false, false, false, false] #[true, true, true, true, true, false, true, true, true, true, false, true, false, false, false, false, false, false] rfl rfl rfl rfl (by kernel_rfl) (by decide) (by decide) (fun K hK => ?_) (fun K hK => ?_)
            · skip
              refine goes_ Try.func137 (by kernel_rfl) rfl #[.slice Aa qs.length ca] (by rfl) rfl rfl (by simp only [List.map_toArray, List.map_cons, List.map_nil]; rfl) ?_
              with_reducible refine (slices_Clone8.calls Aa ca qs qs (World.drew wr) (Kd.C_below CA.out ((below_drew1 (Below.refl _ _)) : Below wr.heap.size wr _)) LA.out (clone_some L0.out)).mono ?_
              rintro e w3 ⟨v3, rfl, hR3, hb3⟩
              refine ⟨_, rfl, ?_⟩
              obtain ⟨A3, m3, rfl⟩ := Kd.R_slice hR3
              have R3 := Aside0.mk hR3
              have B3 := Aside0.mk hb3
              clear hR3 hb3
              refine hK.out _ _ ((cel (w := World.drew wr) B3.out pb)) (fun hHeld => ?_)
              clear hK K
              refine norm_ (a' := ?_) ?_ ?_
              rotate_left
              · show Act.put _ (some 70) _ = _
                simp only [Act.put, List.setIfInBounds_toArray, List.set_cons_zero, List.set_cons_succ, i64_w, i32_w]
                rfl
              refine one_ (i := 9) (N := some 74) #[true, true, true, true, true, true, true, true, true, true, false, true, false, false, false, false, false, false] rfl rfl (by kernel_rfl) (by decide) (fun K hK => ?_)
              refine value_ (w1 := ?_) (v := ?_) (by rfl) rfl ?_ ?_
              rotate_left 2
              · go_simp
                constructor
                · rfl
                · rfl
              refine hK.out _ _ ((cel (w := World.drew wr) (below_alloc B3.out _) pb)) (fun hHeld => ?_)
              clear hK K
              refine norm_ (a' := ?_) ?_ ?_
              rotate_left
              · show Act.put _ (some 74) _ = _
                simp only [Act.put, List.setIfInBounds_toArray, List.set_cons_zero, List.set_cons_succ, i64_w, i32_w]
                rfl
              exact norm_ (by simp only [putAll, Act.put, List.setIfInBounds_toArray, List.set_cons_zero, List.set_cons_succ]) (hCont (A3, m3, w3.heap.size) _ (Lit_after (wp := (World.drew wr)) 1 R3.out B3.out))
            · skip
              refine value_ (w1 := ?_) (v := ?_) (by rfl) rfl ?_ ?_
              rotate_left 2
              · go_simp
                constructor
                · rfl
                · rfl
              refine hK.out _ _ ((cel (w := World.drew wr) (below_alloc (Below.refl _ _) _) pb)) (fun hHeld => ?_)
              clear hK K
              refine norm_ (a' := ?_) ?_ ?_
              rotate_left
              · show Act.put _ (some 74) _ = _
                simp only [Act.put, List.setIfInBounds_toArray, List.set_cons_zero, List.set_cons_succ, i64_w, i32_w]
                rfl
              refine one_ (i := 5) (N := some 70) #[true, true, true, true, true, true, true, true, true, true, false, true, false, false, false, false, false, false] rfl rfl (by kernel_rfl) (by decide) (fun K hK => ?_)
              refine goes_ Try.func137 (by kernel_rfl) rfl #[.slice Aa qs.length ca] (by rfl) rfl rfl (by simp only [List.map_toArray, List.map_cons, List.map_nil]; rfl) ?_
              with_reducible refine (slices_Clone8.calls Aa ca qs qs (World.drew (World.alloc wr (.cells #[.int .i8 1] 86))) (Kd.C_below CA.out ((below_drew1 (below_alloc (Below.refl _ _) _)) : Below wr.heap.size wr _)) LA.out (clone_some L0.out)).mono ?_
              rintro e w3 ⟨v3, rfl, hR3, hb3⟩
              refine ⟨_, rfl, ?_⟩
              obtain ⟨A3, m3, rfl⟩ := Kd.R_slice hR3
              have hL3 := Aside0.mk (Lit_before (wp := wr) 1 hR3 hb3)
              clear hR3 hb3
              refine hK.out _ _ ((cel (w := World.drew wr) hL3.out.2.2.2 pb)) (fun hHeld => ?_)
              clear hK K
              refine norm_ (a' := ?_) ?_ ?_
              rotate_left
              · show Act.put _ (some 70) _ = _
                simp only [Act.put, List.setIfInBounds_toArray, List.set_cons_zero, List.set_cons_succ, i64_w, i32_w]
                rfl
              exact norm_ (by simp only [putAll, Act.put, List.setIfInBounds_toArray, List.set_cons_zero, List.set_cons_succ]) (hCont (A3, m3, wr.heap.size) _ hL3.out)
          rintro ⟨A5, m5, kb⟩ w5 hL5
          replace hL5 : Lit_ (World.drew wr) w5 A5 qs m5 kb 1 := hL5
          have L5 := Aside0.mk hL5
          clear hL5
          have hHeld : w5.cell? ⟨gB, 0, none⟩ = some (.slice (some ad0) l.length c0) := (cel (w := World.drew wr) L5.out.2.2.2 pb)
          refine norm_ (a' := ?_) ?_ ?_
          rotate_left
          · simp only [putAll, Act.put, List.setIfInBounds_toArray, List.set_cons_zero, List.set_cons_succ]
            rfl
          refine one_ (i := 10) (N := some 75) #[true, true, true, true, true, true, true, true, true, true, true, true, false, false, false, false, false, false] rfl rfl (by kernel_rfl) (by decide) (fun K hK => ?_)
          refine Kd.R_append_rows_step (Kd.int .i8) (w0 := (World.drew wr)) (W := w5) wr.heap.size (by first | assumption | rfl) (.tmp 70) (.tmp 74) 25 86 (.int .i8 0) 1 rfl Try.underlying25 infoC8 rfl (by decide) (by decide) (.slice A5 qs.length m5) qs [1] (some ⟨kb, 0, none⟩) 1 1 (fun k => k ≠ kb) (fun _ => False) rfl rfl L5.out.1 (one_C L5.out.2.1) (fun _ _ h => h) (fun _ h => h.elim) (fun k hk => by have := blk_lt_ L5.out.2.1; omega) L5.out.2.2.2 L5.out.2.2.2.size (by have := L0.out; omega) ?_
          intro v6 w6 hR6 hb6 hg6 hat6
          have R6 := Aside0.mk (Kd.R_lower (Kd.R_mono (ok' := T_) hR6 (fun _ _ => trivial)) SP.out)
          have B6 := Aside0.mk hb6
          have BB6 := Aside0.mk (BP.out.trans ((Below.trans (below_drew1 (Below.refl _ _)) hb6).mono SP.out))
          clear hR6 hb6 hg6 hat6 L5
          refine hK.out _ _ ((cel (w := World.drew wr) B6.out pb)) (fun hHeld => ?_)
          clear hK K
          refine norm_ (a' := ?_) ?_ ?_
          rotate_left
          · show Act.put _ (some 75) _ = _
            simp only [Act.put, List.setIfInBounds_toArray, List.set_cons_zero, List.set_cons_succ, i64_w, i32_w]
            rfl
          refine last_ (i := 12) (N := some 77) #[true, true, true, true, true, true, true, true, true, true, true, true, true, false, false, false, false, false] rfl rfl (by kernel_rfl) (by decide) (fun K hK => ?_)
          refine goes_ Try.func103 (by kernel_rfl) rfl #[.agg #[.slice (some ad0) l.length c0], .slice Au o.length cu, .int .i16 X4, .int .i64 n, v6, .slice At ts.length ct] (by rfl) rfl rfl (by simp only [List.map_toArray, List.map_cons, List.map_nil]; rfl) ?_
          with_reducible refine (HREC.out o X4 1 (t1, false) (.slice Au o.length cu) v6 w6 HT_.out (Kd.S_below RO.out (Below.trans (below_drew1 (Below.refl _ _)) B6.out)) R6.out (Kd.R_below RT.out (Below.trans (below_drew1 (Below.refl _ _)) B6.out)) BB6.out).mono ?_
          rintro e w7 ⟨v7, rfl, hR7, hb7, hk7, hs7⟩
          refine ⟨_, rfl, ?_⟩
          have R7 := Aside0.mk hR7
          have B7 := Aside0.mk hb7
          have J7 := Aside0.mk ((Ks.below (T := [151]) (Below.trans (below_drew1 (Below.refl _ _)) B6.out : Below wr.heap.size wr w6)).trans hk7)
          have K7 := Aside0.mk (KP.out.trans J7.out)
          clear hR7 hb7 hk7 hs7
          refine hK.out _ _ ?_
          clear hK K
          refine norm_ (a' := ?_) ?_ ?_
          rotate_left
          · show Act.put _ (some 77) _ = _
            simp only [Act.put, List.setIfInBounds_toArray, List.set_cons_zero, List.set_cons_succ, i64_w, i32_w]
            rfl
          refine pure_ (i := 13) (N := some 64) (v := ?_) (a' := ?_) #[true, true, true, true, true, true, true, true, true, true, true, true, true, true, false, false, false, false] rfl rfl (by kernel_rfl) (fun _ _ _ h => h) (Or.inl ⟨by rfl, ?_⟩) ?_ ?_
          rotate_left
          · intro w'
            go_simp
            with_reducible rfl
          rotate_left
          · simp only [Act.put, List.setIfInBounds_toArray, List.set_cons_zero, List.set_cons_succ, i64_w, i32_w]
            rfl
          refine pure_ (i := 14) (N := some 78) (v := ?_) (a' := ?_) #[true, true, true, true, true, true, true, true, true, true, true, true, true, true, true, false, false, false] rfl rfl (by kernel_rfl) (fun _ _ _ h => h) (Or.inl ⟨by rfl, ?_⟩) ?_ ?_
          rotate_left
          · intro w'
            go_simp
            with_reducible rfl
          rotate_left
          · simp only [Act.put, List.setIfInBounds_toArray, List.set_cons_zero, List.set_cons_succ, i64_w, i32_w]
            rfl
          refine pure_ (i := 15) (N := some 79) (v := ?_) (a' := ?_) #[true, true, true, true, true, true, true, true, true, true, true, true, true, true, true, true, false, false] rfl rfl (by kernel_rfl) (fun _ _ _ h => h) (Or.inl ⟨by rfl, ?_⟩) ?_ ?_
          rotate_left
          · intro w'
            go_simp
            with_reducible rfl
          rotate_left
          · simp only [Act.put, List.setIfInBounds_toArray, List.set_cons_zero, List.set_cons_succ, i64_w, i32_w]
            rfl
          refine pure_ (i := 16) (N := some 1) (v := ?_) (a' := ?_) #[true, true, true, true, true, true, true, true, true, true, true, true, true, true, true, true, true, false] rfl rfl (by kernel_rfl) (fun _ _ _ h => h) (Or.inl ⟨by rfl, ?_⟩) ?_ ?_
          rotate_left
          · intro w'
            go_simp
            with_reducible rfl
          rotate_left
          · simp only [Act.put, List.setIfInBounds_toArray, List.set_cons_zero, List.set_cons_succ, i64_w, i32_w]
            rfl
          refine pure_ (i := 17) (N := some 17) (v := ?_) (a' := ?_) #[true, true, true, true, true, true, true, true, true, true, true, true, true, true, true, true, true, true] rfl rfl (by kernel_rfl) (fun _ _ _ h => h) (Or.inl ⟨by rfl, ?_⟩) ?_ ?_
          rotate_left
          · intro w'
            go_simp
            with_reducible rfl
          rotate_left
          · simp only [Act.put, List.setIfInBounds_toArray, List.set_cons_zero, List.set_cons_succ, i64_w, i32_w]
            rfl
          refine done_ (by kernel_rfl) ?_
          go_wp2
          go_ret2
          exact ⟨_, rfl, fun h_ => absurd h_ (by decide), B7.out, K7.out, K7.out.1⟩
    · have hj3 : j = 3 := by have := HJ3.out; omega
      subst hj3
      have hz : some (o, true) = some (r1, r2) := HS.out
      obtain ⟨rfl, rfl⟩ := Prod.mk.inj (Option.some.inj hz)
      clear hz HS
      go_wp2
      go_ret2
      exact ⟨_, rfl, fun _ => RO.out, BP.out, KP.out, KP.out.1⟩
theorem rowsI_calls (l : List S89) (hk : okT l = true) (W0 : World) (A0 : Option Addr) (c0 : Nat) (hr0 : Kd.C k89 W0 A0 l.length l) : ∀ (k : Nat) (out : List S151) (a n : Int) (qs ts : List Int) (vo va vt : Value) (r1 : List S151) (r2 : Bool) (w : World), rowsI k l out a n qs ts = some (r1, r2) → RR w W0.heap.size vo out → RI w W0.heap.size va qs → RI w W0.heap.size vt ts → Below W0.heap.size W0 w →
    Calls Try.prog 103 #[.agg #[.slice A0 l.length c0], vo, .int .i16 a, .int .i64 n, va, vt] w fun e w' => RowsPost W0.heap.size r1 r2 W0 w e w' := by
  intro k
  induction k with
  | zero => intro out a n qs ts vo va vt r1 r2 w h; exact absurd h (by simp [rowsI])
  | succ k ih =>
    intro out a n qs ts vo va vt r1 r2 w h ho ha ht hb
    rw [rowsI_succ] at h
    by_cases c0 : okR l out a qs ts
    case neg => rw [if_neg c0] at h; exact absurd h (by simp)
    rw [if_pos c0] at h
    by_cases cn : (ts.length : Int) = n
    · rw [if_pos cn] at h
      simp only [Option.some.injEq, Prod.mk.injEq] at h
      obtain ⟨rfl, rfl⟩ := h
      exact rowsI_base l W0 A0 _ out a n qs ts vo va vt w c0 cn ho ha ht hb
    rw [if_neg cn] at h
    obtain ⟨q0, q1, _, i0, i1⟩ := c0
    by_cases cx : (rd_T89 l a).f0 = 2
    · rw [if_pos cx] at h
      exact rowsI_tell l W0 A0 _ hr0 out a n qs ts vo va vt r1 r2 w q1 i0 i1 cn cx ho ha ht hb (fun v w' h1 h2 h3 h4 => ih out _ n qs _ vo va v r1 r2 w' h h1 h2 h3 h4)
    · rw [if_neg cx] at h
      have hx : (rd_T89 l a).f0 = 1 := by rcases (okT_rd hk a i0 i1).1 with h1 | h1; exact h1; exact absurd h1 cx
      exact rowsI_ask l W0 A0 _ hr0 out a n qs ts vo va vt r1 r2 w q0 i0 i1 cn hx ho ha ht hb (fun o b q => rowsI k l o b n q ts) h (fun o b d t u v w' ht1 h1 h2 h3 h4 => ih o b n (qs ++ [d]) ts u v vt t.1 t.2 w' ht1 h1 h2 h3 h4)
theorem restI_mono {f g : List S151 → Int → List Int → Option (List S151 × Bool)} (hfg : ∀ o b q, LeO (f o b q) (g o b q)) (qs : List Int) : ∀ (r : List (Int × Int)) (o : List S151), LeO (restI f qs r o) (restI g qs r o) := by
  intro r
  induction r with
  | nil => intro o; exact LeO.refl _
  | cons x r ih =>
    intro o
    obtain ⟨d, b⟩ := x
    rw [restI_cons, restI_cons]
    exact LeO.bind (hfg _ _ _) fun t => LeO.ite (ih _) (LeO.refl _)
theorem rowsI_mono (l : List S89) : ∀ (k : Nat) (out : List S151) (a n : Int) (qs ts : List Int), LeO (rowsI k l out a n qs ts) (rowsI (k + 1) l out a n qs ts) := by
  intro k
  induction k with
  | zero => intro out a n qs ts; exact LeO.none _
  | succ k ih =>
    intro out a n qs ts
    rw [rowsI_succ, rowsI_succ (k + 1)]
    exact LeO.ite (LeO.ite (LeO.refl _) (LeO.ite (ih _ _ _ _ _) (restI_mono (fun o b q => ih o b n q ts) qs _ _))) (LeO.refl _)
end Go.Proofs.Ytpfnohdnaocpdaa.PT

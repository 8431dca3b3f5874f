/- (*impl.Fork).ways by hand: it cuts an array in a node; and Tree.found, which ranges over what it gives. -/
import Derived.Test.YtpfnohdnaocpdaaPTx2
import Derived.Test.YtpfnohdnaocpdaaOpen
import Derived.Test.YtpfnohdnaocpdaaPTokT
import Derived.Deep.RegionWith
import Derived.IntWalk
namespace Go.Proofs.Ytpfnohdnaocpdaa.PT
open Go.RowKit Go.Proofs.YtpfnohdnaocpdaaW.PrintWords Go.Proofs.YtpfnohdnaocpdaaW.PrintLast Go.Proofs.YtpfnohdnaocpdaaW.PrintMore Go.Lib Go.Proofs.YtpfnohdnaocpdaaRP
set_option linter.unusedVariables false
set_option linter.unusedSimpArgs false

def waysL (x : S89) : List Int := if x.f0 = 2 then [x.f2.f0] else [x.f2.f0, x.f2.f1, x.f2.f2]
theorem ways_any (P : Addr) (k : Int) (w : World) (hk : w.cell? P = some (.int .i8 k)) : Calls Try.prog 124 #[.pointer (some P)] w fun e w' => e = .returned (.slice (some ⟨P.block, P.off + 2, none⟩) (if k = 2 then 1 else 3) 3) ∧ w' = w := by
  by_cases c : k = 2
  · subst c
    go_enter Try.func124, Try.ntmps124
    go_wp2
    go_ret
    exact ⟨rfl, rfl⟩
  · have c1 : (k == 2) = false := beq_eq_false_iff_ne.mpr c
    rw [if_neg c]
    go_enter Try.func124, Try.ntmps124
    go_wp2
    go_ret
    exact ⟨rfl, rfl⟩
theorem waysL_len (x : S89) : (waysL x).length = if x.f0 = 2 then 1 else 3 := by unfold waysL; split <;> rfl
theorem ways_x (P : Addr) (x : S89) (w : World) (hk : w.cell? P = some (.int .i8 x.f0)) : Calls Try.prog 124 #[.pointer (some P)] w fun e w' => e = .returned (.slice (some ⟨P.block, P.off + 2, none⟩) (waysL x).length 3) ∧ w' = w := by
  rw [waysL_len]
  exact ways_any P x.f0 w hk
theorem waysC (W : World) (P : Addr) (a b c : Int) (h2 : W.cell? ⟨P.block, P.off + 2, none⟩ = some (.int .i16 a)) (h3 : W.cell? ⟨P.block, P.off + 3, none⟩ = some (.int .i16 b)) (h4 : W.cell? ⟨P.block, P.off + 4, none⟩ = some (.int .i16 c)) (k : Int) :
    Kd.C (Kd.int .i16) W (some ⟨P.block, P.off + 2, none⟩) (waysL ⟨k, 0, ⟨a, b, c⟩⟩).length (waysL ⟨k, 0, ⟨a, b, c⟩⟩) := by
  have key : ∀ (j : Nat) (p : Int), [a, b, c][j]? = some p → W.cell? ((⟨P.block, P.off + 2, none⟩ : Addr).add j) = some (.int .i16 p) := by
    intro j p hj
    match j with
    | 0 => obtain rfl : a = p := by simpa using hj
           simpa [Addr.add] using h2
    | 1 => obtain rfl : b = p := by simpa using hj
           simpa [Addr.add] using h3
    | 2 => obtain rfl : c = p := by simpa using hj
           simpa [Addr.add] using h4
    | j + 3 => simp at hj
  have gen : ∀ l : List Int, l.length ≤ 3 → (∀ (j : Nat) (p : Int), l[j]? = some p → [a, b, c][j]? = some p) → Kd.C (Kd.int .i16) W (some ⟨P.block, P.off + 2, none⟩) l.length l := by
    intro l hl hp
    refine ⟨rfl, by omega, fun _ => ⟨_, rfl, fun j p hj => ⟨[.int .i16 p], rfl, rfl, fun q u hu => ?_⟩⟩⟩
    match q with
    | 0 => obtain rfl : (Value.int .i16 p) = u := by simpa using hu
           have := key j p (hp j p hj)
           rw [show j * (Kd.int .i16).sz + 0 = j from Nat.mul_one j]
           exact this
    | q + 1 => simp at hu
  unfold waysL
  split
  · exact gen _ (by simp) (fun j p hj => by match j with | 0 => simpa using hj | j + 1 => simp at hj)
  · exact gen _ (by simp) (fun j p hj => hj)
theorem waysX (W : World) (P : Addr) (x : S89) (h2 : W.cell? ⟨P.block, P.off + 2, none⟩ = some (.int .i16 x.f2.f0)) (h3 : W.cell? ⟨P.block, P.off + 3, none⟩ = some (.int .i16 x.f2.f1)) (h4 : W.cell? ⟨P.block, P.off + 4, none⟩ = some (.int .i16 x.f2.f2)) :
    Kd.C (Kd.int .i16) W (some ⟨P.block, P.off + 2, none⟩) (waysL x).length (waysL x) := waysC W P x.f2.f0 x.f2.f1 x.f2.f2 h2 h3 h4 x.f0
theorem ways_d (P : Addr) (x : S89) (w : World) (hr : Kd.C k89 w (some P) [x].length [x]) : Calls Try.prog 124 #[.pointer (some P)] w fun e w' => e = .returned (.slice (some ⟨P.block, P.off + 2, none⟩) (waysL x).length 3) ∧ Drawn0 w w' := by
  obtain ⟨ad, e, h0, _⟩ := rp_T89 hr (by simp)
  obtain rfl : P = ad := by injection e
  refine (ways_x P x w h0).mono ?_
  rintro e w' ⟨rfl, rfl⟩
  exact ⟨rfl, Drawn0.refl _⟩
theorem waysR (W : World) (P : Addr) (x : S89) (hr : Kd.C k89 W (some P) [x].length [x]) : Kd.C (Kd.int .i16) W (some ⟨P.block, P.off + 2, none⟩) (waysL x).length (waysL x) := by
  obtain ⟨ad, e, h0, h1, h2, h3, h4⟩ := rp_T89 hr (by simp)
  obtain rfl : P = ad := by injection e
  exact waysX W P x h2 h3 h4

theorem ways3 (a b c j : Int) : rd [a, b, c] j = rd [a, b, c] j := rfl
theorem reached_f (k : Nat) (l : List S89) : spec_l06Reached.f k [⟨l⟩] = if l.length ≤ 281474976710656 then (if 0 < l.length then spec_l06Reached.l0 k [⟨l⟩] [0] ((List.replicate l.length false).set 0 true) 0 else none) else none := by
  have e : rd_T34 [⟨l⟩] 0 = (⟨l⟩ : S34) := rfl
  unfold spec_l06Reached.f
  rw [e, if_pos (by simp), if_pos (by omega)]
  simp only [Int.toNat_natCast, Option.bind_some, List.length_replicate]
  split
  · by_cases c : 0 < l.length
    · rw [if_pos (by omega), if_pos c]; rfl
    · rw [if_neg (by omega), if_neg c]
  · rfl
theorem reached_l0 (k : Nat) (l : List S89) (o : List Int) (s : List Bool) (i : Int) : spec_l06Reached.l0 (k + 1) [⟨l⟩] o s i = if i < o.length then (if 0 ≤ i then (if 0 ≤ rd o i then (if rd o i < l.length then spec_l06Reached.l1 k [⟨l⟩] o s i [rd_T89 l (rd o i)] 0 else none) else none) else none) else some o := by
  have e : rd_T34 [⟨l⟩] 0 = (⟨l⟩ : S34) := rfl
  simp only [spec_l06Reached.l0]
  rw [e, if_pos (show (0 : Int) < (([⟨l⟩] : List S34).length : Int) by simp)]
theorem ways_1 (x : S89) (hx : x.f0 = 1) : waysL x = [x.f2.f0, x.f2.f1, x.f2.f2] := by unfold waysL; rw [if_neg (by omega)]
theorem ways_2 (x : S89) (hx : x.f0 = 2) : waysL x = [x.f2.f0] := by unfold waysL; rw [if_pos hx]
theorem reached_l1 (k : Nat) (l : List S89) (o : List Int) (s : List Bool) (i : Int) (x : S89) (j : Nat) (hx : x.f0 = 1 ∨ x.f0 = 2) : spec_l06Reached.l1 (k + 1) [⟨l⟩] o s i [x] (j : Int) = if (j : Int) < (waysL x).length then (if 0 ≤ rd (waysL x) j then (if rd (waysL x) j < s.length then (if rdOf false s (rd (waysL x) j) = true then spec_l06Reached.l1 k [⟨l⟩] o s i [x] ((j + 1 : Nat) : Int) else if o.length < 70368744177664 then spec_l06Reached.l1 k [⟨l⟩] (o ++ [rd (waysL x) j]) (s.set (rd (waysL x) j).toNat true) i [x] ((j + 1 : Nat) : Int) else none) else none) else none) else spec_l06Reached.l0 k [⟨l⟩] o s (wrap64 (i + 1)) := by
  have e : rd_T89 [x] 0 = x := rfl
  simp only [spec_l06Reached.l1, e]
  have hp : (0 : Int) < (([x] : List S89).length : Int) := by simp
  rcases hx with hx | hx
  · have hw : spec_l06Ways.f [x] = some 3 := by unfold spec_l06Ways.f; rw [if_pos hp, e, if_pos hx]
    rw [hw, ways_1 x hx]
    simp only [Option.bind_some, List.length_cons, List.length_nil]
    by_cases c : (j : Int) < 3
    · rw [if_pos c, if_pos (show (0 : Int) < ((0 + 1 : Nat) : Int) by omega), if_pos (by omega), if_pos c, if_pos (show (j : Int) < ((0 + 1 + 1 + 1 : Nat) : Int) by omega)]
      rw [show wrap64 ((j : Int) + 1) = ((j + 1 : Nat) : Int) by unfold wrap64; omega]
    · rw [if_neg c, if_neg (show ¬ (j : Int) < ((0 + 1 + 1 + 1 : Nat) : Int) by omega)]
  · have hw : spec_l06Ways.f [x] = some 1 := by unfold spec_l06Ways.f; rw [if_pos hp, e, if_neg (by omega)]
    rw [hw, ways_2 x hx]
    simp only [Option.bind_some, List.length_cons, List.length_nil]
    by_cases c : (j : Int) < 1
    · have hj : j = 0 := by omega
      subst hj
      rw [if_pos c, if_pos (show (0 : Int) < ((0 + 1 : Nat) : Int) by omega), if_pos (by omega), if_pos (by omega), if_pos (show ((0 : Nat) : Int) < ((0 + 1 : Nat) : Int) by omega)]
      have r3 : rd [x.f2.f0, x.f2.f1, x.f2.f2] ((0 : Nat) : Int) = x.f2.f0 := rfl
      have r1 : rd [x.f2.f0] ((0 : Nat) : Int) = x.f2.f0 := rfl
      rw [r3, r1, show wrap64 (((0 : Nat) : Int) + 1) = ((0 + 1 : Nat) : Int) by unfold wrap64; omega]
    · rw [if_neg c, if_neg (show ¬ (j : Int) < ((0 + 1 : Nat) : Int) by omega)]

def impl_found.f (k : Nat) (l : List S89) : Option (List Int) := if okT l = true then spec_l06Reached.f k [⟨l⟩] else none
theorem impl_found.mono : ∀ a k, LeO (impl_found.f k a) (impl_found.f (k + 1) a) := fun a k => by
  unfold impl_found.f
  exact LeO.ite (spec_l06Reached.mono _ _) (LeO.refl _)
set_option maxHeartbeats 8000000 in
set_option maxRecDepth 100000 in
theorem impl_found.calls (k : Nat) (A0 : Option Addr) (c0 : Nat) (l : List S89) (r : List Int) (w : World) (hr0 : Kd.C k89 w A0 l.length l) (hc0 : l.length ≤ c0) (h : impl_found.f k l = some r) :
    Calls Try.prog 139 #[.agg #[.slice A0 l.length c0]] w fun e w' => ∃ v, e = .returned v ∧ Kd.R (Kd.int .i16) 85 w' w.heap.size (fun _ => True) v r ∧ Below w.heap.size w w' := by
  unfold impl_found.f at h
  by_cases hk : okT l = true
  case neg => rw [if_neg hk] at h; exact absurd h (by simp)
  rw [if_pos hk, reached_f] at h
  by_cases h1 : l.length ≤ 281474976710656
  case neg => rw [if_neg h1] at h; exact absurd h (by simp)
  rw [if_pos h1] at h
  by_cases h2 : 0 < l.length
  case neg => rw [if_neg h2] at h; exact absurd h (by simp)
  rw [if_pos h2] at h
  obtain ⟨y, hy⟩ : ∃ y, y = List.replicate l.length false := ⟨_, rfl⟩
  rw [← hy] at h
  have hyl : y.length = l.length := by rw [hy, List.length_replicate]
  have H' := Aside0.mk h
  have HK := Aside0.mk hk
  have LM := Aside0.mk h1
  have LP := Aside0.mk h2
  have Ny := Aside0.mk hy
  have YL := Aside0.mk hyl
  clear h hk h1 h2 hy hyl
  have HR0 := Aside0.mk hr0
  have HC0 := Aside0.mk hc0
  clear hr0 hc0
  go_enter Try.func139, Try.ntmps139
  go_upto_region 1 with (fail)
  generalize hw1 : World.alloc w _ = w1
  have hbx1 : w1.cell? ⟨w.heap.size, 0, none⟩ = some (.slice A0 l.length c0) := by rw [← hw1]; simp
  have hgx : w.heap.size < w1.heap.size := by rw [← hw1]; simp
  have hbw : Below w.heap.size w w1 := by rw [← hw1]; exact below_alloc (Below.refl _ _) _
  have n0_ := Aside0.mk (show Kd.C k89 w1 A0 l.length l from by rw [← hw1]; exact Kd.C_alloc HR0.out _)
  clear HR0 hw1
  have HR0 := n0_
  clear n0_
  have HBX := Aside0.mk hbx1
  have HGX := Aside0.mk hgx
  have HBW := Aside0.mk hbw
  clear hbx1 hgx hbw
  have HB := Aside0.mk (Below.refl w1.heap.size w1)
  have hbx := HBX.out
  have q78 : (0 : Int) ≤ (l.length : Int) := by omega
  go_wp2_with (first | ((with_reducible refine gate_dst (N := 8) rfl ?_); refine Kd.R_lit (Kd.int .i16) _ 85 ?hg (N := 8) ?hd (xs := ([0] : List Int)) (inner := [.int .i16 0]) (ok := fun _ => True) (okp := fun _ => True) ?hr ?hp (fun _ hk => hk) trivial (Below.refl _ _) (Nat.le_refl _) (by simp) ?_; (case hd => rfl); (case hg => rfl); (case hr => first | (go_simp; done) | (go_simp; rfl)); (case hp => exact (Reps.one (show Kd.M (Kd.int .i16) _ _ _ 0 [.int .i16 0] from rfl) (Reps.none _ _))); intro v173 w7 ho8 hb hg_ hnew_; clear hg_ hnew_; have n0_ := Aside0.mk (Kd.R_lower ho8 (below_size (by repeat (first | exact HB.out | apply below_alloc | apply pw_below_drewN | apply below_drew1)))); have n1_ := Aside0.mk (below_step (by repeat (first | exact HB.out | apply below_alloc | apply pw_below_drewN | apply below_drew1)) hb); clear HB; have HO_3 := n0_; have HB := n1_; clear n0_ n1_; clear hb ho8; have hbx := (HB.out.cell (p := ⟨w.heap.size, 0, none⟩) HGX.out).trans HBX.out) | ((with_reducible refine gate_dst (N := 12) rfl ?_); refine Kd.R_make Kd.bool _ 4 rfl (N := 12) rfl 190 _ _ rfl (l.length : Int) rfl rfl Try.underlying190 (.bool false) 1 info4 rfl (by decide) (by omega) false (ok := fun _ => True) (okp := fun _ => True) rfl (fun _ hk => hk) trivial (by omega) (by have := LM.out; omega) (Below.refl _ _) (Nat.le_refl _) ?_; intro v177 w9 ho10 hb hg_ hnew_; clear hg_ hnew_; rw [Int.toNat_natCast, ← Ny.out] at ho10; have n0_ := Aside0.mk (Kd.R_lower ho10 (below_size (by repeat (first | exact HB.out | apply below_alloc | apply pw_below_drewN | apply below_drew1)))); have n1_ := Aside0.mk (Kd.R_below (by (with_reducible repeat (first | apply Kd.R_alloc | apply Kd.R_drewN | apply Kd.R_drew)); exact HO_3.out) hb); have n2_ := Aside0.mk (below_step (by repeat (first | exact HB.out | apply below_alloc | apply pw_below_drewN | apply below_drew1)) hb); clear HB HO_3; have HO_4 := n0_; have HO_3 := n1_; have HB := n2_; clear n0_ n1_ n2_; clear hb ho10 hbx; have hbx := (HB.out.cell (p := ⟨w.heap.size, 0, none⟩) HGX.out).trans HBX.out; obtain ⟨go6, co6, eo6, gb6, gl6, cl6, HG6⟩ := Kd.R_form HO_4.out (by have := LP.out; have := YL.out; omega); (first | cases eo6 | (injection eo6 with ea_ en_ ec_; (first | subst ea_ | (injection ea_ with ea_; subst ea_)); subst ec_; clear en_)); have GB6 := Aside0.mk gb6; clear gb6 gl6 HG6; obtain ⟨hy11_, hz11_⟩ := Kd.R_celln false HO_4.out (0 : Int) (by omega) (by have := LP.out; have := YL.out; omega); rw [show ((0 : Int)).toNat = 0 from rfl] at hy11_ hz11_; have HP11 := Kd.R_putg HO_4.out (0 : Int) true; have q77 : decide (0 < y.length) = true := decide_eq_true (by have := LP.out; have := YL.out; omega); have qi6 : (0 < y.length) = True := eq_true (by have := LP.out; have := YL.out; omega)) | ((with_reducible refine gate_store (t := 4) (p := 14) rfl ?_); refine store_event (t := 4) (p := 14) (v := ?vo) (w1 := (w9.setCell ⟨go6, (0 : Int).toNat, none⟩ (.bool true))) ?hg ?ho ?hn ?hr ?_; (case ho => rfl); (case hg => rfl); (case hn => rfl); (case hr => first | (go_simp; done) | (go_simp; rfl)); intro w12 hw; have hg : w9.grownBy w12 (some go6) := (by rw [hw]; exact HP11.2); have hp_ : Kd.R Kd.bool 4 w12 w1.heap.size (fun _ => True) (.slice (some ⟨go6, 0, none⟩) y.length co6) (y.set (0 : Int).toNat true) := (by rw [hw]; exact HP11.1); clear HP11; have n0_ := Aside0.mk (Kd.R_over' (v := (.slice (some ⟨go6, 0, none⟩) y.length co6)) (by (with_reducible repeat (first | apply Kd.R_alloc | apply Kd.R_drewN | apply Kd.R_drew)); exact HO_3.out) (Kd.R_typed HO_4.out) (by decide) hg); have n1_ := Aside0.mk (hp_); have n2_ := Aside0.mk ((by rw [hw]; exact below_set (HB.out) GB6.out : Below w1.heap.size w1 w12)); clear HO_3 HO_4 HB; have HO_3 := n0_; have HO_4 := n1_; have HB := n2_; clear n0_ n1_ n2_; clear hg hw hp_ hbx; have hbx := (HB.out.cell (p := ⟨w.heap.size, 0, none⟩) HGX.out).trans HBX.out))
  clear hbx
  go_loopg [3, 5] k (fun kq v3 v5 w' => ∃ (o : List Int) (s : List Bool) (i : Int), v5 = .int .i64 i ∧ Aside0 (spec_l06Reached.l0 kq [⟨l⟩] o s i = some r) ∧ Aside0 (kq ≤ k) ∧ Aside0 (Kd.R (Kd.int .i16) 85 w' w1.heap.size (fun _ => True) v3 o) ∧ Aside0 (Kd.R Kd.bool 4 w' w1.heap.size (fun _ => True) (.slice (some ⟨go6, 0, none⟩) y.length co6) s) ∧ Aside0 (Below w1.heap.size w1 w'))
  case atStart => exact ⟨[0], _, 0, rfl, H', ⟨Nat.le_refl _⟩, ⟨by (with_reducible repeat (first | apply Kd.R_alloc | apply Kd.R_drewN | apply Kd.R_drew)); exact HO_3.out⟩, ⟨by (with_reducible repeat (first | apply Kd.R_alloc | apply Kd.R_drewN | apply Kd.R_drew)); exact HO_4.out⟩, ⟨by repeat (first | (with_reducible first | exact HB.out | apply below_alloc | apply pw_below_drewN | apply below_drew1) | exact HB.out)⟩⟩
  case round =>
    clear H' HB HO_3 HO_4
    obtain ⟨o, s, i, rfl, HA, HK1, HO_3, HO_4, HB⟩ := hrel
    have hl4 := (Kd.R_reads' HO_4.out).1
    rw [hl4] at HO_4
    cases gk with
    | zero => exact absurd HA.out (by simp [spec_l06Reached.l0])
    | succ k1 =>
      have H := HA.out
      clear HA
      rw [reached_l0] at H
      have hbx := (HB.out.cell (p := ⟨w.heap.size, 0, none⟩) HGX.out).trans HBX.out
      obtain ⟨Ao18, co18, eo18⟩ := Kd.R_slice HO_3.out
      subst eo18
      by_cases c1 : i < (o.length : Int)
      · rw [if_pos c1] at H
        by_cases c2 : 0 ≤ i
        case neg => rw [if_neg c2] at H; exact absurd H (by simp)
        rw [if_pos c2] at H
        by_cases c3 : 0 ≤ rd o i
        case neg => rw [if_neg c3] at H; exact absurd H (by simp)
        rw [if_pos c3] at H
        by_cases c4 : rd o i < l.length
        case neg => rw [if_neg c4] at H; exact absurd H (by simp)
        rw [if_pos c4] at H
        have H' := Aside0.mk H
        clear H
        obtain ⟨ad181, e181, hx181⟩ := Kd.at_int (Kd.R_reads' HO_3.out).2.2 i c2 c1
        cases e181
        obtain ⟨ad182, e182, hx0, hx1, hx2, hx3, hx4⟩ := at_T89 HR0.out (rd o i) c3 c4
        cases e182
        have HRX := Aside0.mk (show Kd.C k89 w1 (some (Addr.add ad182 ((rd o i).toNat * 5))) [rd_T89 l (rd o i)].length [rd_T89 l (rd o i)] from Kd.C_el k89 z89 HR0.out (rd o i) c3 c4)
        have HRW := Aside0.mk (waysR w1 (Addr.add ad182 ((rd o i).toNat * 5)) (rd_T89 l (rd o i)) HRX.out)
        clear hx0 hx1 hx2 hx3 hx4
        have hko := okT_rd HK.out (rd o i) c3 c4
        have d1 : decide (i < (o.length : Int)) = true := decide_eq_true c1
        have d2 : decide (0 ≤ i) = true := decide_eq_true c2
        have d3 : decide (0 ≤ rd o i) = true := decide_eq_true c3
        have d4 : decide (rd o i < (l.length : Int)) = true := decide_eq_true c4
        have t2 := eq_true c2
        have t1 := eq_true c1
        have t3 := eq_true c3
        have t4 := eq_true c4
        clear c1 c2 c3 c4
        obtain ⟨x, hx⟩ : ∃ x, x = rd_T89 l (rd o i) := ⟨_, rfl⟩
        rw [← hx] at H' HRW HRX hko
        clear hx
        go_wp2
        repeat (go_quiet (first | (go_at_call 124; (with_reducible refine (ways_d (Addr.add ad182 ((rd o i).toNat * 5)) x _ ?side1).mono ?_); (case side1 => repeat (first | exact (Kd.C_below HRX.out HB.out) | (with_reducible refine Kd.C_alloc ?_ _) | (with_reducible refine Kd.C_drewN ?_ _) | (with_reducible refine Kd.C_drew ?_))); rintro e w' ⟨rfl, ⟨nd, rfl⟩⟩; (try first | exact ⟨rfl, _, World.drewN_drewN _ _ _⟩ | exact ⟨rfl, _, Eq.trans (World.drewN_drewN _ _ _) (congrArg (World.drewN _) (Nat.add_assoc _ _ _))⟩))); try go_wp2)
        (try simp only [Act.put, List.setIfInBounds_toArray, List.set_cons_zero, List.set_cons_succ])
        clear hx181 hbx d1 d2 d3 d4 t1 t2 t3 t4
        generalize Addr.add ad182 ((rd o i).toNat * 5) = P at HRX HRW ⊢
        go_loopg [3, 30] k1 (fun kq v3 v30 w' => ∃ (o' : List Int) (s' : List Bool) (j : Nat), v30 = .int .i64 (j : Int) ∧ Aside0 (spec_l06Reached.l1 kq [⟨l⟩] o' s' i [x] (j : Int) = some r) ∧ Aside0 (kq ≤ k1) ∧ Aside0 (Kd.R (Kd.int .i16) 85 w' w1.heap.size (fun _ => True) v3 o') ∧ Aside0 (Kd.R Kd.bool 4 w' w1.heap.size (fun _ => True) (.slice (some ⟨go6, 0, none⟩) s.length co6) s') ∧ Aside0 (Below w1.heap.size w1 w'))
        case atStart => exact ⟨o, s, 0, rfl, H', ⟨Nat.le_refl _⟩, ⟨by (with_reducible repeat (first | apply Kd.R_alloc | apply Kd.R_drewN | apply Kd.R_drew)); exact HO_3.out⟩, ⟨by (with_reducible repeat (first | apply Kd.R_alloc | apply Kd.R_drewN | apply Kd.R_drew)); exact HO_4.out⟩, ⟨by repeat (first | (with_reducible first | exact HB.out | apply below_alloc | apply pw_below_drewN | apply below_drew1) | exact HB.out)⟩⟩
        case round =>
          clear H' HB HO_3 HO_4
          obtain ⟨o', s', j, rfl, HA, HK2, HO_3, HO_4, HB⟩ := hrel
          have hl5 := (Kd.R_reads' HO_4.out).1
          rw [hl5] at HO_4
          cases gk with
          | zero => exact absurd HA.out (by simp [spec_l06Reached.l1])
          | succ k2 =>
            have H := HA.out
            clear HA
            rw [reached_l1 _ _ _ _ _ _ _ hko.1] at H
            by_cases c1 : (j : Int) < (waysL x).length
            · rw [if_pos c1] at H
              obtain ⟨m, hm⟩ : ∃ m, m = rd (waysL x) (j : Int) := ⟨_, rfl⟩
              obtain ⟨adw, ew, hxw⟩ := Kd.at_int HRW.out (j : Int) (by omega) c1
              cases ew
              rw [← hm] at hxw H
              clear hm
              rw [Int.toNat_natCast] at hxw
              (first | simp only [add_at] at hxw | simp only [add_plain] at hxw | simp only [Addr.add] at hxw)
              have hxw1 := hxw
              replace hxw := (HB.out.cell (World.block_lt_of_cell? w1 _ hxw)).trans hxw
              by_cases c2 : 0 ≤ m
              case neg => rw [if_neg c2] at H; exact absurd H (by simp)
              rw [if_pos c2] at H
              by_cases c3 : m < s'.length
              case neg => rw [if_neg c3] at H; exact absurd H (by simp)
              rw [if_pos c3] at H
              obtain ⟨adb, eb, hxb⟩ := Kd.at_bool (Kd.R_reads' HO_4.out).2.2 m c2 (by omega)
              cases eb
              simp only [add_plain] at hxb
              have hjl : j < (waysL x).length := by omega
              have hwl : (waysL x).length ≤ 3 := by rw [waysL_len]; split <;> omega
              have d1 : decide ((j : Int) < ((waysL x).length : Int)) = true := decide_eq_true c1
              have t1 := eq_true c1
              have t2 := eq_true c2
              have c3' : m < (s.length : Int) := by omega
              have t3 := eq_true c3'
              have d2 : decide (0 ≤ m) = true := decide_eq_true c2
              have d3 : decide (m < (s.length : Int)) = true := decide_eq_true c3'
              by_cases c5 : rdOf false s' m = true
              · rw [if_pos c5] at H
                have H' := Aside0.mk H
                clear H
                rw [c5] at hxb
                go_wp2
                (try simp only [← hl5])
                go_roundg k2
                case measure => have := HK1.out; have := HK2.out; omega
                case rel => exact ⟨o', s', j + 1, by go_num, H', ⟨by have := HK1.out; have := HK2.out; omega⟩, HO_3, ⟨by rw [hl5]; exact HO_4.out⟩, HB⟩
              · rw [if_neg c5] at H
                replace c5 := Bool.eq_false_iff.mpr c5
                rw [c5] at hxb
                by_cases c6 : o'.length < 70368744177664
                case neg => rw [if_neg c6] at H; exact absurd H (by simp)
                rw [if_pos c6] at H
                have LMo := Aside0.mk c6
                have H' := Aside0.mk H
                clear H c6
                obtain ⟨hy30_, hz30_⟩ := Kd.R_celln false HO_4.out m c2 c3
                have HP11 := Kd.R_putg HO_4.out m true
                go_wp2_with (first | ((with_reducible refine gate_store (t := 4) (p := 41) rfl ?_); refine store_event (t := 4) (p := 41) (v := ?vo) (w1 := (wr.setCell ⟨go6, m.toNat, none⟩ (.bool true))) ?hg ?ho ?hn ?hr ?_; (case ho => rfl); (case hg => rfl); (case hn => rfl); (case hr => first | (go_simp; done) | (go_simp; rfl)); intro w12 hw; have hg : wr.grownBy w12 (some go6) := (by rw [hw]; exact HP11.2); have hp_ : Kd.R Kd.bool 4 w12 w1.heap.size (fun _ => True) (.slice (some ⟨go6, 0, none⟩) s'.length co6) (s'.set m.toNat true) := (by rw [hw]; exact HP11.1); clear HP11; have n0_ := Aside0.mk (Kd.R_over' (v := (.slice (some ⟨go6, 0, none⟩) s'.length co6)) (by (with_reducible repeat (first | apply Kd.R_alloc | apply Kd.R_drewN | apply Kd.R_drew)); exact HO_3.out) (Kd.R_typed HO_4.out) (by decide) hg); have n1_ := Aside0.mk (hp_); have n2_ := Aside0.mk ((by rw [hw]; exact below_set (HB.out) GB6.out : Below w1.heap.size w1 w12)); clear HO_3 HO_4 HB; have HO_3 := n0_; have HO_4 := n1_; have HB := n2_; clear n0_ n1_ n2_; clear hg hw hp_; replace hxw := (HB.out.cell (World.block_lt_of_cell? w1 _ hxw1)).trans hxw1) | ((with_reducible refine gate_builtin (b := .append) (xs := #[.tmp 42, .tmp 44]) rfl ?_); at_builtin; refine Kd.R_append (Kd.int .i16) (w0 := w1) w1.heap.size rfl (.tmp 42) (.tmp 44) 139 85 (.int .i16 0) 2 rfl Try.underlying139 info85 rfl (by decide) (by omega) u3 o' m [.int .i16 m] (fun _ => True) (fun _ => False) rfl rfl ?aP (fun _ hk => hk.elim) ?aF ?aO ?aB ?aS ?aL ?_; (case aP => exact rfl); (case aB => exact (by repeat (first | exact HB.out | apply below_alloc | apply pw_below_drewN | apply below_drew1))); (case aF => exact (fun _ _ => trivial)); (case aO => exact (by (with_reducible repeat (first | apply Kd.R_alloc | apply Kd.R_drewN | apply Kd.R_drew)); exact HO_3.out)); (case aS => exact (below_size (by repeat (first | exact HB.out | apply below_alloc | apply pw_below_drewN | apply below_drew1)))); (case aL => have := LMo.out; omega); intro v193 w32 ho hb hg hat; have n0_ := Aside0.mk (Kd.R_over' (by (with_reducible repeat (first | apply Kd.R_alloc | apply Kd.R_drewN | apply Kd.R_drew)); exact HO_4.out) (Kd.R_typed (by (with_reducible repeat (first | apply Kd.R_alloc | apply Kd.R_drewN | apply Kd.R_drew)); exact HO_3.out)) (by decide) hg); have n1_ := Aside0.mk (hb); have n2_ := Aside0.mk (ho); clear HO_4; clear HB; clear HO_3; have HO_4 := n0_; have HB := n1_; have HO_3 := n2_; clear n0_ n1_ n2_; clear ho hb hg hat))
                (try simp only [← hl5])
                go_roundg k2
                case measure => have := HK1.out; have := HK2.out; omega
                case rel => exact ⟨o' ++ [m], s'.set m.toNat true, j + 1, by go_num, H', ⟨by have := HK1.out; have := HK2.out; omega⟩, ⟨by (with_reducible repeat (first | apply Kd.R_alloc | apply Kd.R_drewN | apply Kd.R_drew)); exact HO_3.out⟩, ⟨by (try rw [hl5]); (with_reducible repeat (first | apply Kd.R_alloc | apply Kd.R_drewN | apply Kd.R_drew)); exact HO_4.out⟩, ⟨by repeat (first | (with_reducible first | exact HB.out | apply below_alloc | apply pw_below_drewN | apply below_drew1) | exact HB.out)⟩⟩
            · rw [if_neg c1] at H
              have H' := Aside0.mk H
              clear H
              have d1 : decide ((j : Int) < ((waysL x).length : Int)) = false := decide_eq_false c1
              go_wp2
              (try simp only [← hl5])
              (try simp only [← hl4])
              go_roundg k2
              case measure => have := HK1.out; have := HK2.out; omega
              case rel => exact ⟨o', s', wrap64 (i + 1), by go_num, H', ⟨by have := HK1.out; have := HK2.out; omega⟩, HO_3, ⟨by rw [hl4, hl5]; exact HO_4.out⟩, HB⟩
      · rw [if_neg c1] at H
        obtain rfl := Option.some.inj H
        clear H
        have d1 : decide (i < (o.length : Int)) = false := decide_eq_false c1
        go_wp2
        go_ret
        exact ⟨_, rfl, Kd.R_lower HO_3.out (Nat.le_of_lt HGX.out), below_step HBW.out HB.out⟩
end Go.Proofs.Ytpfnohdnaocpdaa.PT

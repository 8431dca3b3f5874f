/- Steps of an evaluation. -/
import Derived.Test.YtpfnohdnaocpdaaPTx0
import Derived.Test.YtpfnohdnaocpdaaRP
namespace Go.Proofs.Ytpfnohdnaocpdaa.Pure
open Go.RowKit Go.Proofs.Ytpfnohdnaocpdaa.PT Go.Proofs.YtpfnohdnaocpdaaW.PrintWords Go.Proofs.YtpfnohdnaocpdaaW.PrintLast Go.Proofs.YtpfnohdnaocpdaaW.PrintMore Go.Proofs.YtpfnohdnaocpdaaRP
set_option linter.unusedVariables false
set_option linter.unusedSimpArgs false
theorem Ev.to {α : Type} {g : Nat → Option α} {r r' : α} (h : Ev g r) (e : r = r') : Ev g r' := e ▸ h

theorem Ev.pos {α : Type} {c : Prop} [Decidable c] {g h : Nat → Option α} {r : α} (hc : c) (k : Ev g r) : Ev (fun n => if c then g n else h n) r := by
  simp only [if_pos hc]; exact k
theorem Ev.neg {α : Type} {c : Prop} [Decidable c] {g h : Nat → Option α} {r : α} (hc : ¬ c) (k : Ev h r) : Ev (fun n => if c then g n else h n) r := by
  simp only [if_neg hc]; exact k
theorem wrap_id {i : Int} (h0 : -9223372036854775808 ≤ i) (h : i ≤ 9223372036854775807) : wrap64 i = i := by
  unfold wrap64
  omega

theorem tmod_nn {x y : Int} (h0 : 0 ≤ x) : Int.tmod x y = x % y := Int.tmod_eq_emod_of_nonneg h0
theorem wnext (n : Nat) (h : n < 9223372036854775807) : wrap64 ((n : Int) + 1) = ((n + 1 : Nat) : Int) := by unfold wrap64; omega
theorem set_mid {α : Type} (d : List α) (x y : α) (r : List α) : (d ++ x :: r).set ((d.length : Int)).toNat y = d ++ y :: r := by
  rw [show ((d.length : Int)).toNat = d.length from by omega]
  simp
theorem rd_mid (d : List Int) (x : Int) (r : List Int) : rd (d ++ x :: r) (d.length : Int) = x := by
  simp [rd, List.getD]
end Go.Proofs.Ytpfnohdnaocpdaa.Pure

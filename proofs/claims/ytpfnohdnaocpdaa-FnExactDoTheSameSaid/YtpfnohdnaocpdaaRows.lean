/-
  No cell of these rows narrows 'for every input' (looked for: loops, veiled, ifaces, maps, wideKeys, modest, calm, conditions, laid).
  DERIVED. THE GIVEN ROWS OF THIS SEAT. 11 by the template 'for every input the law returns true; each argument reads behind the call as it read before'; 0 by the template 'total and deterministic' (their statements: YtpfnohdnaocpdaaTotals.lean).
  GIVEN WITH THE SEED: the statements are not yours to turn. If you find one false, say at which input.
  Laid BY PROGRAM, IN A SANDBOX (cutbox-rows.mjs): the forced cells as the released guide's own fill.sh prints them over the translation be4e8113229724b2… (all of the seat's roots in one cut). By AI agents, Wed Nov 11 2026. No macro, syntax, notation, axiom, sorry.
-/
import Derived.Test.YtpfnohdnaocpdaaChecked
import GoSem.Claim
import GoSem.ClaimJoined
import GoSem.ClaimMapViews
import Derived.JoinedTies
import Derived.KernelRfl
namespace Go.Proofs.Ytpfnohdnaocpdaa
/- THE CELL 'sum', in the pinned program and in every row, IS THE sha256 OF THE DUMP (.gsa) THAT YtpfnohdnaocpdaaProg.lean LOADS. Nothing in Lean hashes anything: it is a label: what it is worth is what the hold of that sum in a sandbox is worth. -/
noncomputable def Try.pinned : Pinned := { name := "ytpfnohdnaocpdaa", sum := "be4e8113229724b27afcb28750d0bf817d36bedac1a7145f340ab4a31d787719", checked := Try.checked }
namespace Rows
def none {H : Type} : Left H := { results := [], args := [] }

/-- 'laws.FnExactRunTree': WHATEVER THE INPUT: true; the input reads as it did. -/
def fnExactRunTreeSpec : ChangeSpec := { name := "fnExactRunTree", fn := fun _ => fun
  | [d1, d2, d3] => { results := [.lit (.bool true)], args := [d1, d2, d3] }
  | _ => none }
def fnExactRunTreeRow : OpenClaim := { program := "ytpfnohdnaocpdaa", sum := "be4e8113229724b27afcb28750d0bf817d36bedac1a7145f340ab4a31d787719", func := "loop.example/g01242/laws.FnExactRunTree", spec := "fnExactRunTree", unfollowed := true, recurses := true, plainKeys := false, apart := false }
def FnExactRunTreeSaid : Prop := fnExactRunTreeRow.holds Try.pinned (OpenSpec.ofChange fnExactRunTreeSpec)

/-- ITS FALSE NEIGHBOUR: 'it returns false'. Refute it at one input. -/
def fnExactRunTreeWrong : ChangeSpec := { name := "fnExactRunTree", fn := fun _ => fun
  | [d1, d2, d3] => { results := [.lit (.bool false)], args := [d1, d2, d3] }
  | _ => none }
def FnExactRunTreeWrongFalsely : Prop := fnExactRunTreeRow.holds Try.pinned (OpenSpec.ofChange fnExactRunTreeWrong)

/-- 'laws.FnExactFirstDigitApart': WHATEVER THE INPUT: true; the input reads as it did. -/
def fnExactFirstDigitApartSpec : ChangeSpec := { name := "fnExactFirstDigitApart", fn := fun _ => fun
  | [d1, d2, d3, d4] => { results := [.lit (.bool true)], args := [d1, d2, d3, d4] }
  | _ => none }
def fnExactFirstDigitApartRow : OpenClaim := { program := "ytpfnohdnaocpdaa", sum := "be4e8113229724b27afcb28750d0bf817d36bedac1a7145f340ab4a31d787719", func := "loop.example/g01242/laws.FnExactFirstDigitApart", spec := "fnExactFirstDigitApart", unfollowed := true, recurses := true, plainKeys := false, apart := false }
def FnExactFirstDigitApartSaid : Prop := fnExactFirstDigitApartRow.holds Try.pinned (OpenSpec.ofChange fnExactFirstDigitApartSpec)

/-- ITS FALSE NEIGHBOUR: 'it returns false'. Refute it at one input. -/
def fnExactFirstDigitApartWrong : ChangeSpec := { name := "fnExactFirstDigitApart", fn := fun _ => fun
  | [d1, d2, d3, d4] => { results := [.lit (.bool false)], args := [d1, d2, d3, d4] }
  | _ => none }
def FnExactFirstDigitApartWrongFalsely : Prop := fnExactFirstDigitApartRow.holds Try.pinned (OpenSpec.ofChange fnExactFirstDigitApartWrong)

/-- 'laws.FnExactComposeTrees': WHATEVER THE INPUT: true; the input reads as it did. -/
def fnExactComposeTreesSpec : ChangeSpec := { name := "fnExactComposeTrees", fn := fun _ => fun
  | [d1, d2] => { results := [.lit (.bool true)], args := [d1, d2] }
  | _ => none }
def fnExactComposeTreesRow : OpenClaim := { program := "ytpfnohdnaocpdaa", sum := "be4e8113229724b27afcb28750d0bf817d36bedac1a7145f340ab4a31d787719", func := "loop.example/g01242/laws.FnExactComposeTrees", spec := "fnExactComposeTrees", unfollowed := true, recurses := true, plainKeys := false, apart := false }
def FnExactComposeTreesSaid : Prop := fnExactComposeTreesRow.holds Try.pinned (OpenSpec.ofChange fnExactComposeTreesSpec)

/-- ITS FALSE NEIGHBOUR: 'it returns false'. Refute it at one input. -/
def fnExactComposeTreesWrong : ChangeSpec := { name := "fnExactComposeTrees", fn := fun _ => fun
  | [d1, d2] => { results := [.lit (.bool false)], args := [d1, d2] }
  | _ => none }
def FnExactComposeTreesWrongFalsely : Prop := fnExactComposeTreesRow.holds Try.pinned (OpenSpec.ofChange fnExactComposeTreesWrong)

/-- 'laws.FnExactLeastAsked': WHATEVER THE INPUT: true; the input reads as it did. -/
def fnExactLeastAskedSpec : ChangeSpec := { name := "fnExactLeastAsked", fn := fun _ => fun
  | [d1, d2] => { results := [.lit (.bool true)], args := [d1, d2] }
  | _ => none }
def fnExactLeastAskedRow : OpenClaim := { program := "ytpfnohdnaocpdaa", sum := "be4e8113229724b27afcb28750d0bf817d36bedac1a7145f340ab4a31d787719", func := "loop.example/g01242/laws.FnExactLeastAsked", spec := "fnExactLeastAsked", unfollowed := true, recurses := true, plainKeys := false, apart := false }
def FnExactLeastAskedSaid : Prop := fnExactLeastAskedRow.holds Try.pinned (OpenSpec.ofChange fnExactLeastAskedSpec)

/-- ITS FALSE NEIGHBOUR: 'it returns false'. Refute it at one input. -/
def fnExactLeastAskedWrong : ChangeSpec := { name := "fnExactLeastAsked", fn := fun _ => fun
  | [d1, d2] => { results := [.lit (.bool false)], args := [d1, d2] }
  | _ => none }
def FnExactLeastAskedWrongFalsely : Prop := fnExactLeastAskedRow.holds Try.pinned (OpenSpec.ofChange fnExactLeastAskedWrong)

/-- 'laws.FnExactMostAsked': WHATEVER THE INPUT: true; the input reads as it did. -/
def fnExactMostAskedSpec : ChangeSpec := { name := "fnExactMostAsked", fn := fun _ => fun
  | [d1, d2] => { results := [.lit (.bool true)], args := [d1, d2] }
  | _ => none }
def fnExactMostAskedRow : OpenClaim := { program := "ytpfnohdnaocpdaa", sum := "be4e8113229724b27afcb28750d0bf817d36bedac1a7145f340ab4a31d787719", func := "loop.example/g01242/laws.FnExactMostAsked", spec := "fnExactMostAsked", unfollowed := true, recurses := true, plainKeys := false, apart := false }
def FnExactMostAskedSaid : Prop := fnExactMostAskedRow.holds Try.pinned (OpenSpec.ofChange fnExactMostAskedSpec)

/-- ITS FALSE NEIGHBOUR: 'it returns false'. Refute it at one input. -/
def fnExactMostAskedWrong : ChangeSpec := { name := "fnExactMostAsked", fn := fun _ => fun
  | [d1, d2] => { results := [.lit (.bool false)], args := [d1, d2] }
  | _ => none }
def FnExactMostAskedWrongFalsely : Prop := fnExactMostAskedRow.holds Try.pinned (OpenSpec.ofChange fnExactMostAskedWrong)

/-- 'laws.FnExactDoTheSame': WHATEVER THE INPUT: true; the input reads as it did. -/
def fnExactDoTheSameSpec : ChangeSpec := { name := "fnExactDoTheSame", fn := fun _ => fun
  | [d1, d2] => { results := [.lit (.bool true)], args := [d1, d2] }
  | _ => none }
def fnExactDoTheSameRow : OpenClaim := { program := "ytpfnohdnaocpdaa", sum := "be4e8113229724b27afcb28750d0bf817d36bedac1a7145f340ab4a31d787719", func := "loop.example/g01242/laws.FnExactDoTheSame", spec := "fnExactDoTheSame", unfollowed := true, recurses := true, plainKeys := false, apart := false }
def FnExactDoTheSameSaid : Prop := fnExactDoTheSameRow.holds Try.pinned (OpenSpec.ofChange fnExactDoTheSameSpec)

/-- ITS FALSE NEIGHBOUR: 'it returns false'. Refute it at one input. -/
def fnExactDoTheSameWrong : ChangeSpec := { name := "fnExactDoTheSame", fn := fun _ => fun
  | [d1, d2] => { results := [.lit (.bool false)], args := [d1, d2] }
  | _ => none }
def FnExactDoTheSameWrongFalsely : Prop := fnExactDoTheSameRow.holds Try.pinned (OpenSpec.ofChange fnExactDoTheSameWrong)

/-- 'laws.FnExactLeastTree': WHATEVER THE INPUT: true; the input reads as it did. -/
def fnExactLeastTreeSpec : ChangeSpec := { name := "fnExactLeastTree", fn := fun _ => fun
  | [d] => { results := [.lit (.bool true)], args := [d] }
  | _ => none }
def fnExactLeastTreeRow : OpenClaim := { program := "ytpfnohdnaocpdaa", sum := "be4e8113229724b27afcb28750d0bf817d36bedac1a7145f340ab4a31d787719", func := "loop.example/g01242/laws.FnExactLeastTree", spec := "fnExactLeastTree", unfollowed := true, recurses := true, plainKeys := false, apart := false }
def FnExactLeastTreeSaid : Prop := fnExactLeastTreeRow.holds Try.pinned (OpenSpec.ofChange fnExactLeastTreeSpec)

/-- ITS FALSE NEIGHBOUR: 'it returns false'. Refute it at one input. -/
def fnExactLeastTreeWrong : ChangeSpec := { name := "fnExactLeastTree", fn := fun _ => fun
  | [d] => { results := [.lit (.bool false)], args := [d] }
  | _ => none }
def FnExactLeastTreeWrongFalsely : Prop := fnExactLeastTreeRow.holds Try.pinned (OpenSpec.ofChange fnExactLeastTreeWrong)

/-- 'laws.FnExactMoebiusTree': WHATEVER THE INPUT: true; the input reads as it did. -/
def fnExactMoebiusTreeSpec : ChangeSpec := { name := "fnExactMoebiusTree", fn := fun _ => fun
  | [d] => { results := [.lit (.bool true)], args := [d] }
  | _ => none }
def fnExactMoebiusTreeRow : OpenClaim := { program := "ytpfnohdnaocpdaa", sum := "be4e8113229724b27afcb28750d0bf817d36bedac1a7145f340ab4a31d787719", func := "loop.example/g01242/laws.FnExactMoebiusTree", spec := "fnExactMoebiusTree", unfollowed := true, recurses := true, plainKeys := false, apart := false }
def FnExactMoebiusTreeSaid : Prop := fnExactMoebiusTreeRow.holds Try.pinned (OpenSpec.ofChange fnExactMoebiusTreeSpec)

/-- ITS FALSE NEIGHBOUR: 'it returns false'. Refute it at one input. -/
def fnExactMoebiusTreeWrong : ChangeSpec := { name := "fnExactMoebiusTree", fn := fun _ => fun
  | [d] => { results := [.lit (.bool false)], args := [d] }
  | _ => none }
def FnExactMoebiusTreeWrongFalsely : Prop := fnExactMoebiusTreeRow.holds Try.pinned (OpenSpec.ofChange fnExactMoebiusTreeWrong)

/-- 'laws.FnExactConstantOf': WHATEVER THE INPUT: true; the input reads as it did. -/
def fnExactConstantOfSpec : ChangeSpec := { name := "fnExactConstantOf", fn := fun _ => fun
  | [d] => { results := [.lit (.bool true)], args := [d] }
  | _ => none }
def fnExactConstantOfRow : OpenClaim := { program := "ytpfnohdnaocpdaa", sum := "be4e8113229724b27afcb28750d0bf817d36bedac1a7145f340ab4a31d787719", func := "loop.example/g01242/laws.FnExactConstantOf", spec := "fnExactConstantOf", unfollowed := true, recurses := true, plainKeys := false, apart := false }
def FnExactConstantOfSaid : Prop := fnExactConstantOfRow.holds Try.pinned (OpenSpec.ofChange fnExactConstantOfSpec)

/-- ITS FALSE NEIGHBOUR: 'it returns false'. Refute it at one input. -/
def fnExactConstantOfWrong : ChangeSpec := { name := "fnExactConstantOf", fn := fun _ => fun
  | [d] => { results := [.lit (.bool false)], args := [d] }
  | _ => none }
def FnExactConstantOfWrongFalsely : Prop := fnExactConstantOfRow.holds Try.pinned (OpenSpec.ofChange fnExactConstantOfWrong)

/-- 'laws.FnExactTableOf': WHATEVER THE INPUT: true; the input reads as it did. -/
def fnExactTableOfSpec : ChangeSpec := { name := "fnExactTableOf", fn := fun _ => fun
  | [d1, d2] => { results := [.lit (.bool true)], args := [d1, d2] }
  | _ => none }
def fnExactTableOfRow : OpenClaim := { program := "ytpfnohdnaocpdaa", sum := "be4e8113229724b27afcb28750d0bf817d36bedac1a7145f340ab4a31d787719", func := "loop.example/g01242/laws.FnExactTableOf", spec := "fnExactTableOf", unfollowed := true, recurses := true, plainKeys := false, apart := false }
def FnExactTableOfSaid : Prop := fnExactTableOfRow.holds Try.pinned (OpenSpec.ofChange fnExactTableOfSpec)

/-- ITS FALSE NEIGHBOUR: 'it returns false'. Refute it at one input. -/
def fnExactTableOfWrong : ChangeSpec := { name := "fnExactTableOf", fn := fun _ => fun
  | [d1, d2] => { results := [.lit (.bool false)], args := [d1, d2] }
  | _ => none }
def FnExactTableOfWrongFalsely : Prop := fnExactTableOfRow.holds Try.pinned (OpenSpec.ofChange fnExactTableOfWrong)

/-- 'laws.FnExactMeanOf': WHATEVER THE INPUT: true; the input reads as it did. -/
def fnExactMeanOfSpec : ChangeSpec := { name := "fnExactMeanOf", fn := fun _ => fun
  | [d1, d2] => { results := [.lit (.bool true)], args := [d1, d2] }
  | _ => none }
def fnExactMeanOfRow : OpenClaim := { program := "ytpfnohdnaocpdaa", sum := "be4e8113229724b27afcb28750d0bf817d36bedac1a7145f340ab4a31d787719", func := "loop.example/g01242/laws.FnExactMeanOf", spec := "fnExactMeanOf", unfollowed := true, recurses := true, plainKeys := false, apart := false }
def FnExactMeanOfSaid : Prop := fnExactMeanOfRow.holds Try.pinned (OpenSpec.ofChange fnExactMeanOfSpec)

/-- ITS FALSE NEIGHBOUR: 'it returns false'. Refute it at one input. -/
def fnExactMeanOfWrong : ChangeSpec := { name := "fnExactMeanOf", fn := fun _ => fun
  | [d1, d2] => { results := [.lit (.bool false)], args := [d1, d2] }
  | _ => none }
def FnExactMeanOfWrongFalsely : Prop := fnExactMeanOfRow.holds Try.pinned (OpenSpec.ofChange fnExactMeanOfWrong)

/- THE SECOND FORM. 'bulk': how many values and letters a reading holds, each counted each time it is reached (what is shared counts as often as it is met; a slice's spare places count too). A statement '..UptoSaid' is the law's where the arguments, and the package variables that the reading takes, are together of bulk at most 1048576: NARROWER than '..Said'. Prove '..Said' where nothing that the law and all that it calls make is longer than what came in: it says more and counts as full. Else prove '..UptoSaid'. A law counts once. -/
mutual
def uptoBulk {H : Type} : DataW H → Nat
  | .lit (.string bytes) => bytes.length + 1
  | .lit _ => 1
  | .nil => 1
  | .ptr d => uptoBulk d + 1
  | .slice elems spare => uptoBulkAll elems + uptoBulkAll spare + 1
  | .agg parts => uptoBulkAll parts + 1
  | .iface _ d => uptoBulk d + 1
  | .map entries => uptoBulkEntries entries + 1
  | .held _ => 1
def uptoBulkAll {H : Type} : List (DataW H) → Nat
  | [] => 0
  | d :: r => uptoBulk d + uptoBulkAll r
def uptoBulkEntries {H : Type} : List (Lit × DataW H) → Nat
  | [] => 0
  | x :: r => uptoBulkEntry x + uptoBulkEntries r
def uptoBulkEntry {H : Type} : Lit × DataW H → Nat
  | (.string bytes, d) => bytes.length + uptoBulk d + 1
  | (_, d) => uptoBulk d + 1
 end
def uptoSmall : (H : Type) → List (DataW H) → Bool := fun _ ds => decide (uptoBulkAll ds ≤ 1048576)
def OpenSpec.upto (s : _root_.Go.ChangeSpec) : _root_.Go.OpenSpec := { _root_.Go.OpenSpec.ofChange s with cond := some uptoSmall }

/-- 'laws.FnExactRunTree', WHERE WHAT IT READS IS OF BULK AT MOST 1048576: true; the input reads as it did. -/
def fnExactRunTreeUptoRow : OpenClaim := { program := "ytpfnohdnaocpdaa", sum := "be4e8113229724b27afcb28750d0bf817d36bedac1a7145f340ab4a31d787719", func := "loop.example/g01242/laws.FnExactRunTree", spec := "fnExactRunTree", unfollowed := true, recurses := true, plainKeys := false, apart := false, narrowed := true }
def FnExactRunTreeUptoSaid : Prop := fnExactRunTreeUptoRow.holds Try.pinned (OpenSpec.upto fnExactRunTreeSpec)

/-- 'laws.FnExactFirstDigitApart', WHERE WHAT IT READS IS OF BULK AT MOST 1048576: true; the input reads as it did. -/
def fnExactFirstDigitApartUptoRow : OpenClaim := { program := "ytpfnohdnaocpdaa", sum := "be4e8113229724b27afcb28750d0bf817d36bedac1a7145f340ab4a31d787719", func := "loop.example/g01242/laws.FnExactFirstDigitApart", spec := "fnExactFirstDigitApart", unfollowed := true, recurses := true, plainKeys := false, apart := false, narrowed := true }
def FnExactFirstDigitApartUptoSaid : Prop := fnExactFirstDigitApartUptoRow.holds Try.pinned (OpenSpec.upto fnExactFirstDigitApartSpec)

/-- 'laws.FnExactComposeTrees', WHERE WHAT IT READS IS OF BULK AT MOST 1048576: true; the input reads as it did. -/
def fnExactComposeTreesUptoRow : OpenClaim := { program := "ytpfnohdnaocpdaa", sum := "be4e8113229724b27afcb28750d0bf817d36bedac1a7145f340ab4a31d787719", func := "loop.example/g01242/laws.FnExactComposeTrees", spec := "fnExactComposeTrees", unfollowed := true, recurses := true, plainKeys := false, apart := false, narrowed := true }
def FnExactComposeTreesUptoSaid : Prop := fnExactComposeTreesUptoRow.holds Try.pinned (OpenSpec.upto fnExactComposeTreesSpec)

/-- 'laws.FnExactLeastAsked', WHERE WHAT IT READS IS OF BULK AT MOST 1048576: true; the input reads as it did. -/
def fnExactLeastAskedUptoRow : OpenClaim := { program := "ytpfnohdnaocpdaa", sum := "be4e8113229724b27afcb28750d0bf817d36bedac1a7145f340ab4a31d787719", func := "loop.example/g01242/laws.FnExactLeastAsked", spec := "fnExactLeastAsked", unfollowed := true, recurses := true, plainKeys := false, apart := false, narrowed := true }
def FnExactLeastAskedUptoSaid : Prop := fnExactLeastAskedUptoRow.holds Try.pinned (OpenSpec.upto fnExactLeastAskedSpec)

/-- 'laws.FnExactMostAsked', WHERE WHAT IT READS IS OF BULK AT MOST 1048576: true; the input reads as it did. -/
def fnExactMostAskedUptoRow : OpenClaim := { program := "ytpfnohdnaocpdaa", sum := "be4e8113229724b27afcb28750d0bf817d36bedac1a7145f340ab4a31d787719", func := "loop.example/g01242/laws.FnExactMostAsked", spec := "fnExactMostAsked", unfollowed := true, recurses := true, plainKeys := false, apart := false, narrowed := true }
def FnExactMostAskedUptoSaid : Prop := fnExactMostAskedUptoRow.holds Try.pinned (OpenSpec.upto fnExactMostAskedSpec)

/-- 'laws.FnExactDoTheSame', WHERE WHAT IT READS IS OF BULK AT MOST 1048576: true; the input reads as it did. -/
def fnExactDoTheSameUptoRow : OpenClaim := { program := "ytpfnohdnaocpdaa", sum := "be4e8113229724b27afcb28750d0bf817d36bedac1a7145f340ab4a31d787719", func := "loop.example/g01242/laws.FnExactDoTheSame", spec := "fnExactDoTheSame", unfollowed := true, recurses := true, plainKeys := false, apart := false, narrowed := true }
def FnExactDoTheSameUptoSaid : Prop := fnExactDoTheSameUptoRow.holds Try.pinned (OpenSpec.upto fnExactDoTheSameSpec)

/-- 'laws.FnExactLeastTree', WHERE WHAT IT READS IS OF BULK AT MOST 1048576: true; the input reads as it did. -/
def fnExactLeastTreeUptoRow : OpenClaim := { program := "ytpfnohdnaocpdaa", sum := "be4e8113229724b27afcb28750d0bf817d36bedac1a7145f340ab4a31d787719", func := "loop.example/g01242/laws.FnExactLeastTree", spec := "fnExactLeastTree", unfollowed := true, recurses := true, plainKeys := false, apart := false, narrowed := true }
def FnExactLeastTreeUptoSaid : Prop := fnExactLeastTreeUptoRow.holds Try.pinned (OpenSpec.upto fnExactLeastTreeSpec)

/-- 'laws.FnExactMoebiusTree', WHERE WHAT IT READS IS OF BULK AT MOST 1048576: true; the input reads as it did. -/
def fnExactMoebiusTreeUptoRow : OpenClaim := { program := "ytpfnohdnaocpdaa", sum := "be4e8113229724b27afcb28750d0bf817d36bedac1a7145f340ab4a31d787719", func := "loop.example/g01242/laws.FnExactMoebiusTree", spec := "fnExactMoebiusTree", unfollowed := true, recurses := true, plainKeys := false, apart := false, narrowed := true }
def FnExactMoebiusTreeUptoSaid : Prop := fnExactMoebiusTreeUptoRow.holds Try.pinned (OpenSpec.upto fnExactMoebiusTreeSpec)

/-- 'laws.FnExactConstantOf', WHERE WHAT IT READS IS OF BULK AT MOST 1048576: true; the input reads as it did. -/
def fnExactConstantOfUptoRow : OpenClaim := { program := "ytpfnohdnaocpdaa", sum := "be4e8113229724b27afcb28750d0bf817d36bedac1a7145f340ab4a31d787719", func := "loop.example/g01242/laws.FnExactConstantOf", spec := "fnExactConstantOf", unfollowed := true, recurses := true, plainKeys := false, apart := false, narrowed := true }
def FnExactConstantOfUptoSaid : Prop := fnExactConstantOfUptoRow.holds Try.pinned (OpenSpec.upto fnExactConstantOfSpec)

/-- 'laws.FnExactTableOf', WHERE WHAT IT READS IS OF BULK AT MOST 1048576: true; the input reads as it did. -/
def fnExactTableOfUptoRow : OpenClaim := { program := "ytpfnohdnaocpdaa", sum := "be4e8113229724b27afcb28750d0bf817d36bedac1a7145f340ab4a31d787719", func := "loop.example/g01242/laws.FnExactTableOf", spec := "fnExactTableOf", unfollowed := true, recurses := true, plainKeys := false, apart := false, narrowed := true }
def FnExactTableOfUptoSaid : Prop := fnExactTableOfUptoRow.holds Try.pinned (OpenSpec.upto fnExactTableOfSpec)

/-- 'laws.FnExactMeanOf', WHERE WHAT IT READS IS OF BULK AT MOST 1048576: true; the input reads as it did. -/
def fnExactMeanOfUptoRow : OpenClaim := { program := "ytpfnohdnaocpdaa", sum := "be4e8113229724b27afcb28750d0bf817d36bedac1a7145f340ab4a31d787719", func := "loop.example/g01242/laws.FnExactMeanOf", spec := "fnExactMeanOf", unfollowed := true, recurses := true, plainKeys := false, apart := false, narrowed := true }
def FnExactMeanOfUptoSaid : Prop := fnExactMeanOfUptoRow.holds Try.pinned (OpenSpec.upto fnExactMeanOfSpec)

end Rows
end Go.Proofs.Ytpfnohdnaocpdaa

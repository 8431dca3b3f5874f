/-
  No cell of these rows narrows 'for every input' (looked for: loops, veiled, ifaces, maps, wideKeys, modest, calm, conditions, laid).
  DERIVED. THE GIVEN ROWS OF THIS SEAT. 11 by the template 'for every input the law returns true; each argument reads behind the call as it read before'; 0 by the template 'total and deterministic' (their statements: YtenhgmddpkiliaaTotals.lean).
  GIVEN WITH THE SEED: the statements are not yours to turn. If you find one false, say at which input.
  Laid BY PROGRAM, IN A SANDBOX (cutbox-rows.mjs): the forced cells as the released guide's own fill.sh prints them over the translation 424ecd685576ed11… (all of the seat's roots in one cut). By AI agents, Wed Nov 11 2026. No macro, syntax, notation, axiom, sorry.
-/
import Derived.Test.YtenhgmddpkiliaaChecked
import GoSem.Claim
import GoSem.ClaimJoined
import GoSem.ClaimMapViews
import Derived.JoinedTies
import Derived.KernelRfl
namespace Go.Proofs.Ytenhgmddpkiliaa
/- THE CELL 'sum', in the pinned program and in every row, IS THE sha256 OF THE DUMP (.gsa) THAT YtenhgmddpkiliaaProg.lean LOADS. Nothing in Lean hashes anything: it is a label: what it is worth is what the hold of that sum in a sandbox is worth. -/
noncomputable def Try.pinned : Pinned := { name := "ytenhgmddpkiliaa", sum := "424ecd685576ed11fb899b6b38714c724b3020a0b19f6bafbbbc454b87e779b1", checked := Try.checked }
namespace Rows
def none {H : Type} : Left H := { results := [], args := [] }

/-- 'laws.FnExactSameBook': WHATEVER THE INPUT: true; the input reads as it did. -/
def fnExactSameBookSpec : ChangeSpec := { name := "fnExactSameBook", fn := fun _ => fun
  | [d1, d2] => { results := [.lit (.bool true)], args := [d1, d2] }
  | _ => none }
def fnExactSameBookRow : OpenClaim := { program := "ytenhgmddpkiliaa", sum := "424ecd685576ed11fb899b6b38714c724b3020a0b19f6bafbbbc454b87e779b1", func := "loop.example/g01242/laws.FnExactSameBook", spec := "fnExactSameBook", apart := false }
def FnExactSameBookSaid : Prop := fnExactSameBookRow.holds Try.pinned (OpenSpec.ofChange fnExactSameBookSpec)

/-- ITS FALSE NEIGHBOUR: 'it returns false'. Refute it at one input. -/
def fnExactSameBookWrong : ChangeSpec := { name := "fnExactSameBook", fn := fun _ => fun
  | [d1, d2] => { results := [.lit (.bool false)], args := [d1, d2] }
  | _ => none }
def FnExactSameBookWrongFalsely : Prop := fnExactSameBookRow.holds Try.pinned (OpenSpec.ofChange fnExactSameBookWrong)

/-- 'laws.FnExactValidBook': WHATEVER THE INPUT: true; the input reads as it did. -/
def fnExactValidBookSpec : ChangeSpec := { name := "fnExactValidBook", fn := fun _ => fun
  | [d] => { results := [.lit (.bool true)], args := [d] }
  | _ => none }
def fnExactValidBookRow : OpenClaim := { program := "ytenhgmddpkiliaa", sum := "424ecd685576ed11fb899b6b38714c724b3020a0b19f6bafbbbc454b87e779b1", func := "loop.example/g01242/laws.FnExactValidBook", spec := "fnExactValidBook", unfollowed := true, recurses := true, apart := false }
def FnExactValidBookSaid : Prop := fnExactValidBookRow.holds Try.pinned (OpenSpec.ofChange fnExactValidBookSpec)

/-- ITS FALSE NEIGHBOUR: 'it returns false'. Refute it at one input. -/
def fnExactValidBookWrong : ChangeSpec := { name := "fnExactValidBook", fn := fun _ => fun
  | [d] => { results := [.lit (.bool false)], args := [d] }
  | _ => none }
def FnExactValidBookWrongFalsely : Prop := fnExactValidBookRow.holds Try.pinned (OpenSpec.ofChange fnExactValidBookWrong)

/-- 'laws.FnExactBookOfTerm': WHATEVER THE INPUT: true; the input reads as it did. -/
def fnExactBookOfTermSpec : ChangeSpec := { name := "fnExactBookOfTerm", fn := fun _ => fun
  | [d] => { results := [.lit (.bool true)], args := [d] }
  | _ => none }
def fnExactBookOfTermRow : OpenClaim := { program := "ytenhgmddpkiliaa", sum := "424ecd685576ed11fb899b6b38714c724b3020a0b19f6bafbbbc454b87e779b1", func := "loop.example/g01242/laws.FnExactBookOfTerm", spec := "fnExactBookOfTerm", apart := false }
def FnExactBookOfTermSaid : Prop := fnExactBookOfTermRow.holds Try.pinned (OpenSpec.ofChange fnExactBookOfTermSpec)

/-- ITS FALSE NEIGHBOUR: 'it returns false'. Refute it at one input. -/
def fnExactBookOfTermWrong : ChangeSpec := { name := "fnExactBookOfTerm", fn := fun _ => fun
  | [d] => { results := [.lit (.bool false)], args := [d] }
  | _ => none }
def FnExactBookOfTermWrongFalsely : Prop := fnExactBookOfTermRow.holds Try.pinned (OpenSpec.ofChange fnExactBookOfTermWrong)

/-- 'laws.FnExactWriteLine': WHATEVER THE INPUT: true; the input reads as it did. -/
def fnExactWriteLineSpec : ChangeSpec := { name := "fnExactWriteLine", fn := fun _ => fun
  | [d1, d2] => { results := [.lit (.bool true)], args := [d1, d2] }
  | _ => none }
def fnExactWriteLineRow : OpenClaim := { program := "ytenhgmddpkiliaa", sum := "424ecd685576ed11fb899b6b38714c724b3020a0b19f6bafbbbc454b87e779b1", func := "loop.example/g01242/laws.FnExactWriteLine", spec := "fnExactWriteLine", unfollowed := true, recurses := true, apart := false }
def FnExactWriteLineSaid : Prop := fnExactWriteLineRow.holds Try.pinned (OpenSpec.ofChange fnExactWriteLineSpec)

/-- ITS FALSE NEIGHBOUR: 'it returns false'. Refute it at one input. -/
def fnExactWriteLineWrong : ChangeSpec := { name := "fnExactWriteLine", fn := fun _ => fun
  | [d1, d2] => { results := [.lit (.bool false)], args := [d1, d2] }
  | _ => none }
def FnExactWriteLineWrongFalsely : Prop := fnExactWriteLineRow.holds Try.pinned (OpenSpec.ofChange fnExactWriteLineWrong)

/-- 'laws.FnExactNeedsOf': WHATEVER THE INPUT: true; the input reads as it did. -/
def fnExactNeedsOfSpec : ChangeSpec := { name := "fnExactNeedsOf", fn := fun _ => fun
  | [d1, d2] => { results := [.lit (.bool true)], args := [d1, d2] }
  | _ => none }
def fnExactNeedsOfRow : OpenClaim := { program := "ytenhgmddpkiliaa", sum := "424ecd685576ed11fb899b6b38714c724b3020a0b19f6bafbbbc454b87e779b1", func := "loop.example/g01242/laws.FnExactNeedsOf", spec := "fnExactNeedsOf", unfollowed := true, recurses := true, apart := false }
def FnExactNeedsOfSaid : Prop := fnExactNeedsOfRow.holds Try.pinned (OpenSpec.ofChange fnExactNeedsOfSpec)

/-- ITS FALSE NEIGHBOUR: 'it returns false'. Refute it at one input. -/
def fnExactNeedsOfWrong : ChangeSpec := { name := "fnExactNeedsOf", fn := fun _ => fun
  | [d1, d2] => { results := [.lit (.bool false)], args := [d1, d2] }
  | _ => none }
def FnExactNeedsOfWrongFalsely : Prop := fnExactNeedsOfRow.holds Try.pinned (OpenSpec.ofChange fnExactNeedsOfWrong)

/-- 'laws.FnExactUsersOf': WHATEVER THE INPUT: true; the input reads as it did. -/
def fnExactUsersOfSpec : ChangeSpec := { name := "fnExactUsersOf", fn := fun _ => fun
  | [d1, d2] => { results := [.lit (.bool true)], args := [d1, d2] }
  | _ => none }
def fnExactUsersOfRow : OpenClaim := { program := "ytenhgmddpkiliaa", sum := "424ecd685576ed11fb899b6b38714c724b3020a0b19f6bafbbbc454b87e779b1", func := "loop.example/g01242/laws.FnExactUsersOf", spec := "fnExactUsersOf", unfollowed := true, recurses := true, apart := false }
def FnExactUsersOfSaid : Prop := fnExactUsersOfRow.holds Try.pinned (OpenSpec.ofChange fnExactUsersOfSpec)

/-- ITS FALSE NEIGHBOUR: 'it returns false'. Refute it at one input. -/
def fnExactUsersOfWrong : ChangeSpec := { name := "fnExactUsersOf", fn := fun _ => fun
  | [d1, d2] => { results := [.lit (.bool false)], args := [d1, d2] }
  | _ => none }
def FnExactUsersOfWrongFalsely : Prop := fnExactUsersOfRow.holds Try.pinned (OpenSpec.ofChange fnExactUsersOfWrong)

/-- 'laws.FnExactRenameLine': WHATEVER THE INPUT: true; the input reads as it did. -/
def fnExactRenameLineSpec : ChangeSpec := { name := "fnExactRenameLine", fn := fun _ => fun
  | [d1, d2, d3] => { results := [.lit (.bool true)], args := [d1, d2, d3] }
  | _ => none }
def fnExactRenameLineRow : OpenClaim := { program := "ytenhgmddpkiliaa", sum := "424ecd685576ed11fb899b6b38714c724b3020a0b19f6bafbbbc454b87e779b1", func := "loop.example/g01242/laws.FnExactRenameLine", spec := "fnExactRenameLine", unfollowed := true, recurses := true, apart := false }
def FnExactRenameLineSaid : Prop := fnExactRenameLineRow.holds Try.pinned (OpenSpec.ofChange fnExactRenameLineSpec)

/-- ITS FALSE NEIGHBOUR: 'it returns false'. Refute it at one input. -/
def fnExactRenameLineWrong : ChangeSpec := { name := "fnExactRenameLine", fn := fun _ => fun
  | [d1, d2, d3] => { results := [.lit (.bool false)], args := [d1, d2, d3] }
  | _ => none }
def FnExactRenameLineWrongFalsely : Prop := fnExactRenameLineRow.holds Try.pinned (OpenSpec.ofChange fnExactRenameLineWrong)

/-- 'laws.FnExactEraseLine': WHATEVER THE INPUT: true; the input reads as it did. -/
def fnExactEraseLineSpec : ChangeSpec := { name := "fnExactEraseLine", fn := fun _ => fun
  | [d1, d2] => { results := [.lit (.bool true)], args := [d1, d2] }
  | _ => none }
def fnExactEraseLineRow : OpenClaim := { program := "ytenhgmddpkiliaa", sum := "424ecd685576ed11fb899b6b38714c724b3020a0b19f6bafbbbc454b87e779b1", func := "loop.example/g01242/laws.FnExactEraseLine", spec := "fnExactEraseLine", unfollowed := true, recurses := true, apart := false }
def FnExactEraseLineSaid : Prop := fnExactEraseLineRow.holds Try.pinned (OpenSpec.ofChange fnExactEraseLineSpec)

/-- ITS FALSE NEIGHBOUR: 'it returns false'. Refute it at one input. -/
def fnExactEraseLineWrong : ChangeSpec := { name := "fnExactEraseLine", fn := fun _ => fun
  | [d1, d2] => { results := [.lit (.bool false)], args := [d1, d2] }
  | _ => none }
def FnExactEraseLineWrongFalsely : Prop := fnExactEraseLineRow.holds Try.pinned (OpenSpec.ofChange fnExactEraseLineWrong)

/-- 'laws.FnExactTermOfBook': WHATEVER THE INPUT: true; the input reads as it did. -/
def fnExactTermOfBookSpec : ChangeSpec := { name := "fnExactTermOfBook", fn := fun _ => fun
  | [d] => { results := [.lit (.bool true)], args := [d] }
  | _ => none }
def fnExactTermOfBookRow : OpenClaim := { program := "ytenhgmddpkiliaa", sum := "424ecd685576ed11fb899b6b38714c724b3020a0b19f6bafbbbc454b87e779b1", func := "loop.example/g01242/laws.FnExactTermOfBook", spec := "fnExactTermOfBook", unfollowed := true, recurses := true, apart := false }
def FnExactTermOfBookSaid : Prop := fnExactTermOfBookRow.holds Try.pinned (OpenSpec.ofChange fnExactTermOfBookSpec)

/-- ITS FALSE NEIGHBOUR: 'it returns false'. Refute it at one input. -/
def fnExactTermOfBookWrong : ChangeSpec := { name := "fnExactTermOfBook", fn := fun _ => fun
  | [d] => { results := [.lit (.bool false)], args := [d] }
  | _ => none }
def FnExactTermOfBookWrongFalsely : Prop := fnExactTermOfBookRow.holds Try.pinned (OpenSpec.ofChange fnExactTermOfBookWrong)

/-- 'laws.FnExactEqualLines': WHATEVER THE INPUT: true; the input reads as it did. -/
def fnExactEqualLinesSpec : ChangeSpec := { name := "fnExactEqualLines", fn := fun _ => fun
  | [d] => { results := [.lit (.bool true)], args := [d] }
  | _ => none }
def fnExactEqualLinesRow : OpenClaim := { program := "ytenhgmddpkiliaa", sum := "424ecd685576ed11fb899b6b38714c724b3020a0b19f6bafbbbc454b87e779b1", func := "loop.example/g01242/laws.FnExactEqualLines", spec := "fnExactEqualLines", unfollowed := true, recurses := true, apart := false }
def FnExactEqualLinesSaid : Prop := fnExactEqualLinesRow.holds Try.pinned (OpenSpec.ofChange fnExactEqualLinesSpec)

/-- ITS FALSE NEIGHBOUR: 'it returns false'. Refute it at one input. -/
def fnExactEqualLinesWrong : ChangeSpec := { name := "fnExactEqualLines", fn := fun _ => fun
  | [d] => { results := [.lit (.bool false)], args := [d] }
  | _ => none }
def FnExactEqualLinesWrongFalsely : Prop := fnExactEqualLinesRow.holds Try.pinned (OpenSpec.ofChange fnExactEqualLinesWrong)

/-- 'laws.FnExactKeptAfter': WHATEVER THE INPUT: true; the input reads as it did. -/
def fnExactKeptAfterSpec : ChangeSpec := { name := "fnExactKeptAfter", fn := fun _ => fun
  | [d1, d2, d3] => { results := [.lit (.bool true)], args := [d1, d2, d3] }
  | _ => none }
def fnExactKeptAfterRow : OpenClaim := { program := "ytenhgmddpkiliaa", sum := "424ecd685576ed11fb899b6b38714c724b3020a0b19f6bafbbbc454b87e779b1", func := "loop.example/g01242/laws.FnExactKeptAfter", spec := "fnExactKeptAfter", unfollowed := true, recurses := true, apart := false }
def FnExactKeptAfterSaid : Prop := fnExactKeptAfterRow.holds Try.pinned (OpenSpec.ofChange fnExactKeptAfterSpec)

/-- ITS FALSE NEIGHBOUR: 'it returns false'. Refute it at one input. -/
def fnExactKeptAfterWrong : ChangeSpec := { name := "fnExactKeptAfter", fn := fun _ => fun
  | [d1, d2, d3] => { results := [.lit (.bool false)], args := [d1, d2, d3] }
  | _ => none }
def FnExactKeptAfterWrongFalsely : Prop := fnExactKeptAfterRow.holds Try.pinned (OpenSpec.ofChange fnExactKeptAfterWrong)

/- THE SECOND FORM. 'bulk': how many values and letters a reading holds, each counted each time it is reached (what is shared counts as often as it is met; a slice's spare places count too). A statement '..UptoSaid' is the law's where the arguments, and the package variables that the reading takes, are together of bulk at most 1048576: NARROWER than '..Said'. Prove '..Said' where nothing that the law and all that it calls make is longer than what came in: it says more and counts as full. Else prove '..UptoSaid'. A law counts once. -/
mutual
def uptoBulk {H : Type} : DataW H → Nat
  | .lit (.string bytes) => bytes.length + 1
  | .lit _ => 1
  | .nil => 1
  | .ptr d => uptoBulk d + 1
  | .slice elems spare => uptoBulkAll elems + uptoBulkAll spare + 1
  | .agg parts => uptoBulkAll parts + 1
  | .iface _ d => uptoBulk d + 1
  | .map entries => uptoBulkEntries entries + 1
  | .held _ => 1
def uptoBulkAll {H : Type} : List (DataW H) → Nat
  | [] => 0
  | d :: r => uptoBulk d + uptoBulkAll r
def uptoBulkEntries {H : Type} : List (Lit × DataW H) → Nat
  | [] => 0
  | x :: r => uptoBulkEntry x + uptoBulkEntries r
def uptoBulkEntry {H : Type} : Lit × DataW H → Nat
  | (.string bytes, d) => bytes.length + uptoBulk d + 1
  | (_, d) => uptoBulk d + 1
 end
def uptoSmall : (H : Type) → List (DataW H) → Bool := fun _ ds => decide (uptoBulkAll ds ≤ 1048576)
def OpenSpec.upto (s : _root_.Go.ChangeSpec) : _root_.Go.OpenSpec := { _root_.Go.OpenSpec.ofChange s with cond := some uptoSmall }

/-- 'laws.FnExactSameBook', WHERE WHAT IT READS IS OF BULK AT MOST 1048576: true; the input reads as it did. -/
def fnExactSameBookUptoRow : OpenClaim := { program := "ytenhgmddpkiliaa", sum := "424ecd685576ed11fb899b6b38714c724b3020a0b19f6bafbbbc454b87e779b1", func := "loop.example/g01242/laws.FnExactSameBook", spec := "fnExactSameBook", apart := false, narrowed := true }
def FnExactSameBookUptoSaid : Prop := fnExactSameBookUptoRow.holds Try.pinned (OpenSpec.upto fnExactSameBookSpec)

/-- 'laws.FnExactValidBook', WHERE WHAT IT READS IS OF BULK AT MOST 1048576: true; the input reads as it did. -/
def fnExactValidBookUptoRow : OpenClaim := { program := "ytenhgmddpkiliaa", sum := "424ecd685576ed11fb899b6b38714c724b3020a0b19f6bafbbbc454b87e779b1", func := "loop.example/g01242/laws.FnExactValidBook", spec := "fnExactValidBook", unfollowed := true, recurses := true, apart := false, narrowed := true }
def FnExactValidBookUptoSaid : Prop := fnExactValidBookUptoRow.holds Try.pinned (OpenSpec.upto fnExactValidBookSpec)

/-- 'laws.FnExactBookOfTerm', WHERE WHAT IT READS IS OF BULK AT MOST 1048576: true; the input reads as it did. -/
def fnExactBookOfTermUptoRow : OpenClaim := { program := "ytenhgmddpkiliaa", sum := "424ecd685576ed11fb899b6b38714c724b3020a0b19f6bafbbbc454b87e779b1", func := "loop.example/g01242/laws.FnExactBookOfTerm", spec := "fnExactBookOfTerm", apart := false, narrowed := true }
def FnExactBookOfTermUptoSaid : Prop := fnExactBookOfTermUptoRow.holds Try.pinned (OpenSpec.upto fnExactBookOfTermSpec)

/-- 'laws.FnExactWriteLine', WHERE WHAT IT READS IS OF BULK AT MOST 1048576: true; the input reads as it did. -/
def fnExactWriteLineUptoRow : OpenClaim := { program := "ytenhgmddpkiliaa", sum := "424ecd685576ed11fb899b6b38714c724b3020a0b19f6bafbbbc454b87e779b1", func := "loop.example/g01242/laws.FnExactWriteLine", spec := "fnExactWriteLine", unfollowed := true, recurses := true, apart := false, narrowed := true }
def FnExactWriteLineUptoSaid : Prop := fnExactWriteLineUptoRow.holds Try.pinned (OpenSpec.upto fnExactWriteLineSpec)

/-- 'laws.FnExactNeedsOf', WHERE WHAT IT READS IS OF BULK AT MOST 1048576: true; the input reads as it did. -/
def fnExactNeedsOfUptoRow : OpenClaim := { program := "ytenhgmddpkiliaa", sum := "424ecd685576ed11fb899b6b38714c724b3020a0b19f6bafbbbc454b87e779b1", func := "loop.example/g01242/laws.FnExactNeedsOf", spec := "fnExactNeedsOf", unfollowed := true, recurses := true, apart := false, narrowed := true }
def FnExactNeedsOfUptoSaid : Prop := fnExactNeedsOfUptoRow.holds Try.pinned (OpenSpec.upto fnExactNeedsOfSpec)

/-- 'laws.FnExactUsersOf', WHERE WHAT IT READS IS OF BULK AT MOST 1048576: true; the input reads as it did. -/
def fnExactUsersOfUptoRow : OpenClaim := { program := "ytenhgmddpkiliaa", sum := "424ecd685576ed11fb899b6b38714c724b3020a0b19f6bafbbbc454b87e779b1", func := "loop.example/g01242/laws.FnExactUsersOf", spec := "fnExactUsersOf", unfollowed := true, recurses := true, apart := false, narrowed := true }
def FnExactUsersOfUptoSaid : Prop := fnExactUsersOfUptoRow.holds Try.pinned (OpenSpec.upto fnExactUsersOfSpec)

/-- 'laws.FnExactRenameLine', WHERE WHAT IT READS IS OF BULK AT MOST 1048576: true; the input reads as it did. -/
def fnExactRenameLineUptoRow : OpenClaim := { program := "ytenhgmddpkiliaa", sum := "424ecd685576ed11fb899b6b38714c724b3020a0b19f6bafbbbc454b87e779b1", func := "loop.example/g01242/laws.FnExactRenameLine", spec := "fnExactRenameLine", unfollowed := true, recurses := true, apart := false, narrowed := true }
def FnExactRenameLineUptoSaid : Prop := fnExactRenameLineUptoRow.holds Try.pinned (OpenSpec.upto fnExactRenameLineSpec)

/-- 'laws.FnExactEraseLine', WHERE WHAT IT READS IS OF BULK AT MOST 1048576: true; the input reads as it did. -/
def fnExactEraseLineUptoRow : OpenClaim := { program := "ytenhgmddpkiliaa", sum := "424ecd685576ed11fb899b6b38714c724b3020a0b19f6bafbbbc454b87e779b1", func := "loop.example/g01242/laws.FnExactEraseLine", spec := "fnExactEraseLine", unfollowed := true, recurses := true, apart := false, narrowed := true }
def FnExactEraseLineUptoSaid : Prop := fnExactEraseLineUptoRow.holds Try.pinned (OpenSpec.upto fnExactEraseLineSpec)

/-- 'laws.FnExactTermOfBook', WHERE WHAT IT READS IS OF BULK AT MOST 1048576: true; the input reads as it did. -/
def fnExactTermOfBookUptoRow : OpenClaim := { program := "ytenhgmddpkiliaa", sum := "424ecd685576ed11fb899b6b38714c724b3020a0b19f6bafbbbc454b87e779b1", func := "loop.example/g01242/laws.FnExactTermOfBook", spec := "fnExactTermOfBook", unfollowed := true, recurses := true, apart := false, narrowed := true }
def FnExactTermOfBookUptoSaid : Prop := fnExactTermOfBookUptoRow.holds Try.pinned (OpenSpec.upto fnExactTermOfBookSpec)

/-- 'laws.FnExactEqualLines', WHERE WHAT IT READS IS OF BULK AT MOST 1048576: true; the input reads as it did. -/
def fnExactEqualLinesUptoRow : OpenClaim := { program := "ytenhgmddpkiliaa", sum := "424ecd685576ed11fb899b6b38714c724b3020a0b19f6bafbbbc454b87e779b1", func := "loop.example/g01242/laws.FnExactEqualLines", spec := "fnExactEqualLines", unfollowed := true, recurses := true, apart := false, narrowed := true }
def FnExactEqualLinesUptoSaid : Prop := fnExactEqualLinesUptoRow.holds Try.pinned (OpenSpec.upto fnExactEqualLinesSpec)

/-- 'laws.FnExactKeptAfter', WHERE WHAT IT READS IS OF BULK AT MOST 1048576: true; the input reads as it did. -/
def fnExactKeptAfterUptoRow : OpenClaim := { program := "ytenhgmddpkiliaa", sum := "424ecd685576ed11fb899b6b38714c724b3020a0b19f6bafbbbc454b87e779b1", func := "loop.example/g01242/laws.FnExactKeptAfter", spec := "fnExactKeptAfter", unfollowed := true, recurses := true, apart := false, narrowed := true }
def FnExactKeptAfterUptoSaid : Prop := fnExactKeptAfterUptoRow.holds Try.pinned (OpenSpec.upto fnExactKeptAfterSpec)

end Rows
end Go.Proofs.Ytenhgmddpkiliaa

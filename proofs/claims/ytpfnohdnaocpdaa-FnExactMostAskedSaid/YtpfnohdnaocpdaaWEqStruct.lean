-- The kit's words for the prints (print.sh), as far as this claim's texts name them (shake.py).
import Derived.Test.YtpfnohdnaocpdaaWWords
import Derived.Laws.StructEq
/-! ### 53. '==' of structs as_ one Bool -/
namespace Go.Proofs.YtpfnohdnaocpdaaW.PrintWords
open Go.RowKit
section
variable {P : Program} {d : Nat} {xs ys : Array Value} {f : Field} {fs : List Field} {a b : Value} {r s : Bool} {w : World}
end
end Go.Proofs.YtpfnohdnaocpdaaW.PrintWords

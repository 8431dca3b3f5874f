-- The kit's words for the prints (print.sh), as far as this claim's texts name them (shake.py).
import Derived.Test.YtpfnohdnaocpdaaWWords
/-! ### 58. A guarded operation whose guard is known to want it: the same goal without the guard -/
namespace Go.Proofs.YtpfnohdnaocpdaaW.PrintWords
open Go.RowKit
section
variable {P : Program} {ops : Array Oper} {rest : List Oper} {o : Oper} {a : Act} {Q : Exit → Act → World → Prop} {W : World}
end
end Go.Proofs.YtpfnohdnaocpdaaW.PrintWords

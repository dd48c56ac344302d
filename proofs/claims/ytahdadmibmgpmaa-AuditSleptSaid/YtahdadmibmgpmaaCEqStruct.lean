-- Cut by this session's cutwords.py from the words that the kit's print.sh lays: those alone that this claim's texts name.
import Derived.Test.YtahdadmibmgpmaaCWords
import Derived.Laws.StructEq
/-! ### 53. '==' of structs as_ one Bool -/
namespace Go.Proofs.YtahdadmibmgpmaaW.PrintWords
open Go.RowKit
section
variable {P : Program} {d : Nat} {xs ys : Array Value} {f : Field} {fs : List Field} {a b : Value} {r s : Bool} {w : World}
end
end Go.Proofs.YtahdadmibmgpmaaW.PrintWords

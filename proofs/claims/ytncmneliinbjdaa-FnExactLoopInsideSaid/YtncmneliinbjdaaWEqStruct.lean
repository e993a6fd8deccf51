-- Turned by prune.py (mine): the words of the print, without those that this claim does not use.
import Derived.Test.YtncmneliinbjdaaWWords
import Derived.Laws.StructEq
/-! ### 53. '==' of structs as_ one Bool -/
namespace Go.Proofs.YtncmneliinbjdaaW.PrintWords
open Go.RowKit
section
variable {P : Program} {d : Nat} {xs ys : Array Value} {f : Field} {fs : List Field} {a b : Value} {r s : Bool} {w : World}
end
end Go.Proofs.YtncmneliinbjdaaW.PrintWords

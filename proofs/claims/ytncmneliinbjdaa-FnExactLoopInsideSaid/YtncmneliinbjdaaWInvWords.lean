-- Turned by prune.py (mine): the words of the print, without those that this claim does not use.
import Derived.Test.YtncmneliinbjdaaWInv
import Derived.Test.YtncmneliinbjdaaWFootNe
namespace Go.Proofs.YtncmneliinbjdaaW.PrintWords
open Go.RowKit
end Go.Proofs.YtncmneliinbjdaaW.PrintWords
namespace Go.Proofs.YtncmneliinbjdaaW.PrintLast
section
variable {ops : Array Oper} {a : Act} {o og : Oper} {g : Nat} {t : Tmp} {u : Bool}
end
end Go.Proofs.YtncmneliinbjdaaW.PrintLast

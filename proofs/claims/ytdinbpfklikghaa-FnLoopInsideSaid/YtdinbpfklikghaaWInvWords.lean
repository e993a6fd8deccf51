-- Turned by prune.py (mine): the words of the print, without those that this claim does not use.
import Derived.Test.YtdinbpfklikghaaWInv
import Derived.Test.YtdinbpfklikghaaWFootNe
namespace Go.Proofs.YtdinbpfklikghaaW.PrintWords
open Go.RowKit
end Go.Proofs.YtdinbpfklikghaaW.PrintWords
namespace Go.Proofs.YtdinbpfklikghaaW.PrintLast
section
variable {ops : Array Oper} {a : Act} {o og : Oper} {g : Nat} {t : Tmp} {u : Bool}
end
end Go.Proofs.YtdinbpfklikghaaW.PrintLast

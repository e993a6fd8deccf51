-- Turned by prune.py (mine): the words of the print, without those that this claim does not use.
import Derived.Test.YtdinbpfklikghaaWWords
import Derived.Laws.StructEq
namespace Go.Proofs.YtdinbpfklikghaaW.PrintWords
open Go.RowKit
section
variable {P : Program} {d : Nat} {xs ys : Array Value} {f : Field} {fs : List Field} {a b : Value} {r s : Bool} {w : World}
end
end Go.Proofs.YtdinbpfklikghaaW.PrintWords

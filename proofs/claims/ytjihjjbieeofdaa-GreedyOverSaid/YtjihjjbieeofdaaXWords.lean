/- Words of our own beside the print's: a row that is made with room (make([]T, 0, n)). No condition but the sizes that each names. -/
import Derived.WalkKit
import Derived.Test.YtjihjjbieeofdaaWMore
-- shaken
namespace Go.Proofs.Ytjihjjbieeofdaa.Q
open Go.RowKit Go.Proofs.YtjihjjbieeofdaaW.PrintWords Go.Proofs.YtjihjjbieeofdaaW.PrintLast
set_option linter.unusedVariables false
set_option linter.unusedSimpArgs false
section
variable {P : Program} {ops : Array Oper} {rest : List Oper} {o : Oper} {a : Act} {Q : Exit → Act → World → Prop} {α : Type}
end
end Go.Proofs.Ytjihjjbieeofdaa.Q

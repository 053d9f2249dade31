/- Words of our own beside the print's: a row that is made with room (make([]T, 0, n)). No condition but the sizes that each names. -/
import Derived.WalkKit
import Derived.Test.YtepbebelbcbciaaWMore
-- shaken
namespace Go.Proofs.Ytepbebelbcbciaa.Q
open Go.RowKit Go.Proofs.YtepbebelbcbciaaW.PrintWords Go.Proofs.YtepbebelbcbciaaW.PrintLast
set_option linter.unusedVariables false
set_option linter.unusedSimpArgs false
section
variable {P : Program} {ops : Array Oper} {rest : List Oper} {o : Oper} {a : Act} {Q : Exit → Act → World → Prop} {α : Type}
theorem u8_a (y : Int) : y % 4294967296 / 16777216 % 256 = y % 4294967296 / 16777216 := by omega
theorem u8_b (y : Int) : y % 4294967296 % 256 = y % 256 := by omega
end
end Go.Proofs.Ytepbebelbcbciaa.Q

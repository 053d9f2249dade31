/- Functions of the program as plain Lean functions, each with a proof that the program's call comes to what it says; and rows of statements over them. No condition but those that the theorems name. Written by a program of this session (myprint.py, over the kit's print with patches of its own). -/
import Derived.Test.YtepbebelbcbciaaQx7
import Derived.Test.YtepbebelbcbciaaOpen
namespace Go.Proofs.Ytepbebelbcbciaa.Q
open Go.RowKit Go.Proofs.YtepbebelbcbciaaW.PrintWords Go.Proofs.YtepbebelbcbciaaW.PrintLast
set_option linter.unusedVariables false
/-- The one pure statement of tillerlaw07_HeadsWithin. -/
def tillerlaw07_HeadsWithin.PureG : Prop := ∀ (x0 : List Int) (x1 : List (List Int)) (x2 : List (List Int)) (x3 : Int), (WfRow 4 (WfInt .i32)) x0 → (WfRow 24 (WfRow 4 (WfInt .i32))) x1 → (WfRow 24 (WfRow 4 (WfInt .i32))) x2 → (WfInt .i64) x3 → ∃ k, tillerlaw07_HeadsWithin.f k x0 x1 x2 x3 = some true
end Go.Proofs.Ytepbebelbcbciaa.Q

/- The statements' own look at answers that the document fixes comes out true. No condition. -/
import Derived.Test.YtiooeclnjhncmaaQx2
namespace Go.Proofs.Ytiooeclnjhncmaa.Q
open Go.RowKit Go.Proofs.YtiooeclnjhncmaaW.PrintWords Go.Proofs.YtiooeclnjhncmaaW.PrintLast
set_option linter.unusedVariables false
set_option linter.unusedSimpArgs false
theorem awake05_ev : Ev (fun k => tillerlaw05_awake.f k) true := Ev.of tillerlaw05_awake.mono (k := 12) (by decide +kernel)
end Go.Proofs.Ytiooeclnjhncmaa.Q

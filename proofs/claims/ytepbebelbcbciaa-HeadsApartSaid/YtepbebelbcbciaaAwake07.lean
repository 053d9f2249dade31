/- The statements' own look at answers that the document fixes comes out true. No condition. -/
import Derived.Test.YtepbebelbcbciaaQx7
namespace Go.Proofs.Ytepbebelbcbciaa.Q
open Go.RowKit Go.Proofs.YtepbebelbcbciaaW.PrintWords Go.Proofs.YtepbebelbcbciaaW.PrintLast
set_option linter.unusedVariables false
set_option linter.unusedSimpArgs false
theorem awake07_ev : Ev (fun k => tillerlaw07_awake.f k) true := Ev.of tillerlaw07_awake.mono (k := 40) (by decide +kernel)
end Go.Proofs.Ytepbebelbcbciaa.Q

/- What functions of the program come to, on trees. No condition but those that the theorems name. -/
import Derived.Test.YtjihjjbieeofdaaPK10
namespace Go.Proofs.Ytjihjjbieeofdaa.T
set_option linter.unusedSimpArgs false
set_option linter.unusedVariables false
open Go
set_option linter.unusedVariables false
theorem blockjoins_law (c : Cfg) (l : List Bk) (hl : BksW l) : Impl Try.prog 3 [.agg (cfgL c), .sl none none 4 true (gl blkF l)] (.b true) := blockjoins_of awake11_ok c l hl
end Go.Proofs.Ytjihjjbieeofdaa.T

/-
  The reference's integers, continued: the sum.
-/
import Derived.Test.YtmcgkglmlfbijaaDoorIntD
namespace Go.Proofs.YtmcgkglmlfbijaaDoor
open Go.RowKit
set_option linter.unusedVariables false
set_option linter.unusedSimpArgs false

end Go.Proofs.YtmcgkglmlfbijaaDoor

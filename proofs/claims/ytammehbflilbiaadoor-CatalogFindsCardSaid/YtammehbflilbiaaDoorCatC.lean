/-
  exodusref15.Item.
-/
import Derived.Test.YtammehbflilbiaaDoorCatB
namespace Go.Proofs.YtammehbflilbiaaDoor
open Go.RowKit Go.Lib Lex
set_option linter.unusedVariables false
set_option linter.unusedSimpArgs false

end Go.Proofs.YtammehbflilbiaaDoor

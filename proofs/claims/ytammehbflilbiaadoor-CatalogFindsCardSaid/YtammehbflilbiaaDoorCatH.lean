/-
  exodusref15.Rule, further kinds (printed by rulegen.py).
-/
import Derived.Test.YtammehbflilbiaaDoorCatG
namespace Go.Proofs.YtammehbflilbiaaDoor
open Go.RowKit Go.Lib Lex
set_option linter.unusedVariables false
set_option linter.unusedSimpArgs false

end Go.Proofs.YtammehbflilbiaaDoor

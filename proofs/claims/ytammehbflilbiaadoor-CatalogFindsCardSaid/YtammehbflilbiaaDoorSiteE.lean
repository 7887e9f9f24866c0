/-
  exodusref14.racks.
  exodusref14.links.
  exodusref14.Valid.
-/
import Derived.Test.YtammehbflilbiaaDoorSiteA
namespace Go.Proofs.YtammehbflilbiaaDoor
open Go.RowKit Go.Lib Lex
set_option linter.unusedVariables false
set_option linter.unusedSimpArgs false

end Go.Proofs.YtammehbflilbiaaDoor
namespace Go.Proofs.YtammehbflilbiaaDoor
open Go.RowKit Go.Lib Lex
set_option linter.unusedVariables false
set_option linter.unusedSimpArgs false

end Go.Proofs.YtammehbflilbiaaDoor
namespace Go.Proofs.YtammehbflilbiaaDoor
open Go.RowKit Go.Lib Lex
set_option linter.unusedVariables false
set_option linter.unusedSimpArgs false

end Go.Proofs.YtammehbflilbiaaDoor

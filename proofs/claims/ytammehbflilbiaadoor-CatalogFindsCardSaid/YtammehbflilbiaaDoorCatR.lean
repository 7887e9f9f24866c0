/-
  exodusref15.Valid.
-/
import Derived.Test.YtammehbflilbiaaDoorCatQ
import Derived.Test.YtammehbflilbiaaDoorCatH
namespace Go.Proofs.YtammehbflilbiaaDoor
open Go.RowKit Go.Lib Lex
set_option linter.unusedVariables false
set_option linter.unusedSimpArgs false

theorem MdlOK.item {M : Mdl} (h : MdlOK M) : ∀ x ∈ M.items, ItemOK M x := h.2.2.2.2.1
theorem MdlOK.rule {M : Mdl} (h : MdlOK M) : ∀ x ∈ M.rules, RuleOK M x := h.2.2.2.2.2.1
def Tail4 (M : Mdl) : Prop := Ex M.dark M.sites.length ∧ Within M.slots 1 16 ∧ Within M.reserve 0 (M.slots - 1) ∧ Within M.failures 0 7
end Go.Proofs.YtammehbflilbiaaDoor

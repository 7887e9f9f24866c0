/- Texts: RowQZ. -/
import Derived.Test.YtcjgimlcefhhmaaGreatDoorRows
import Derived.JoinedOf
set_option linter.unusedVariables false
set_option linter.unusedSimpArgs false
set_option maxRecDepth 100000
set_option maxHeartbeats 12800000
namespace Go.Proofs.YtcjgimlcefhhmaaGreatDoor.proofChecks
theorem closed:Go.joinedFacts Tryz.pinned.checked.prog 3 Tryz.f3 Rows.proofChecksSpec Rows.proofChecksRow=true:=by kernel_rfl
end Go.Proofs.YtcjgimlcefhhmaaGreatDoor.proofChecks

/- Texts: PyN. -/
import Derived.Test.YtcjgimlcefhhmaaGreatDoorC14
import Derived.Test.YtcjgimlcefhhmaaGreatDoorC32
set_option linter.unusedVariables false
set_option linter.unusedSimpArgs false
set_option maxRecDepth 100000
set_option maxHeartbeats 12800000
namespace Go.Proofs.YtcjgimlcefhhmaaGreatDoor
namespace Prf
open Go.Lib
def nodeS (v:Int):Jr:=⟨2,none,0,0,v,0,0,none,0,0,0,none,0,0⟩
def nodeF (p:Option Addr)(c:Nat):Jr:=⟨0,p,1,c,0,0,0,none,0,0,0,none,0,0⟩
end Prf
end Go.Proofs.YtcjgimlcefhhmaaGreatDoor

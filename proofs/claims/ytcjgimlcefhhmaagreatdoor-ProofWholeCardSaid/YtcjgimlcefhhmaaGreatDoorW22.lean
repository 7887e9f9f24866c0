/- Texts: PsD. -/
import Derived.Test.YtcjgimlcefhhmaaGreatDoorW14
import Derived.Test.YtcjgimlcefhhmaaGreatDoorW21
set_option linter.unusedVariables false
set_option linter.unusedSimpArgs false
set_option maxRecDepth 100000
set_option maxHeartbeats 12800000
namespace Go.Proofs.YtcjgimlcefhhmaaGreatDoor
namespace Prf
open Go.RowKit Go.Lib
theorem Sz.mono' {L M : Nat} {x : Rat} (h : Sz L x) (hM : L ≤ M) : Sz M x := ⟨Nat.le_trans h.1 hM, Nat.le_trans h.2 hM⟩
structure ξ8U (w W : World) (bp bo b7 : Nat) (u0 u1 : Value) (n : Nat) (a : Nat → Rat) (s : Rat) : Prop where
 g : Gr w W
 tp : ξ0 W bp #[u0, u1]
 ro : ξd W bo n a 80
 t7 : ξQ W b7 s
theorem ξ8U.grow {w W W' : World} {bp bo b7 : Nat} {u0 u1 : Value} {n : Nat} {a : Nat → Rat} {s : Rat} (h : ξ8U w W bp bo b7 u0 u1 n a s) (g : Gr W W') : ξ8U w W' bp bo b7 u0 u1 n a s :=
 ⟨h.g.trans g, h.tp.grow g, h.ro.grow g, h.t7.grow g⟩
end Prf
end Go.Proofs.YtcjgimlcefhhmaaGreatDoor

/- Texts: PsN. -/
import Derived.Test.YtcjgimlcefhhmaaGreatDoorW29
set_option linter.unusedVariables false
set_option linter.unusedSimpArgs false
set_option maxRecDepth 100000
set_option maxHeartbeats 12800000
namespace Go.Proofs.YtcjgimlcefhhmaaGreatDoor
namespace Prf
open Go.RowKit Go.Lib
def ξ9O (kd var pos ck row : Int) (mn cn vn : Nat) : Prop :=
 (kd = 0 ∧ (ck = 0 ∧ row = 0 ∧ cn = 0 ∧ vn = 0) ∧ var = 0 ∧ pos = 0) ∨ (kd = 1 ∧ (ck = 0 ∧ row = 0 ∧ cn = 0 ∧ vn = 0) ∧ pos = 0 ∧ mn = 0) ∨ (kd = 2 ∧ (ck = 0 ∧ row = 0 ∧ cn = 0 ∧ vn = 0) ∧ mn = 0) ∨ (kd = 3 ∧ var = 0 ∧ pos = 0 ∧ mn = 0)
theorem dk (z : Int) : z = 0 ∨ z = 1 ∨ z = 2 ∨ z = 3 ∨ ((z == 0) = false ∧ (z == 1) = false ∧ (z == 2) = false ∧ (z == 3) = false) := by
 by_cases h0 : z = 0
 ·exact .inl h0
 by_cases h1 : z = 1
 ·exact .inr (.inl h1)
 by_cases h2 : z = 2
 ·exact .inr (.inr (.inl h2))
 by_cases h3 : z = 3
 ·exact .inr (.inr (.inr (.inl h3)))
 ·exact .inr (.inr (.inr (.inr ⟨by simpa using h0, by simpa using h1, by simpa using h2, by simpa using h3⟩)))
end Prf
end Go.Proofs.YtcjgimlcefhhmaaGreatDoor

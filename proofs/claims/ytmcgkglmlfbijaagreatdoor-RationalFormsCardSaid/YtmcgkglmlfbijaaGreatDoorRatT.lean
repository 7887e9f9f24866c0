/-
  The order of fractions.
-/
import Derived.Test.YtmcgkglmlfbijaaGreatDoorRatP
namespace Go.Proofs.YtmcgkglmlfbijaaGreatDoor
open Go.RowKit Go.Lib
set_option linter.unusedVariables false
set_option linter.unusedSimpArgs false

theorem cmpQ_gt {x y : Rat} (h : y < x) : cmpQ x y = 1 := by
  unfold cmpQ
  rw [if_neg (Rat.not_lt.2 (Rat.le_of_lt h)), if_neg (fun e => by subst e; exact absurd h Rat.lt_irrefl)]
theorem cmpQ_cases (x y : Rat) : (x < y ∧ cmpQ x y = -1) ∨ (x = y ∧ cmpQ x y = 0) ∨ (y < x ∧ cmpQ x y = 1) := by
  by_cases h : x < y
  · exact .inl ⟨h, cmpQ_lt h⟩
  · by_cases h2 : x = y
    · exact .inr (.inl ⟨h2, by subst h2; exact cmpQ_eq _⟩)
    · have h3 : y < x := by grind
      exact .inr (.inr ⟨h3, cmpQ_gt h3⟩)
theorem cmpQ_swap (x y : Rat) : cmpQ y x = - cmpQ x y := by
  rcases cmpQ_cases x y with ⟨h, e⟩ | ⟨h, e⟩ | ⟨h, e⟩
  · rw [e, cmpQ_gt h]; rfl
  · rw [e, h, cmpQ_eq]; rfl
  · rw [e, cmpQ_lt h]
theorem cmpQ_add (x y z : Rat) : cmpQ (x + z) (y + z) = cmpQ x y := by
  rcases cmpQ_cases x y with ⟨h, e⟩ | ⟨h, e⟩ | ⟨h, e⟩
  · rw [e, cmpQ_lt (by grind)]
  · rw [e, h, cmpQ_eq]
  · rw [e, cmpQ_gt (by grind)]
theorem sgn_cmp0 (z : Rat) : sgn z.num = cmpQ z 0 := by
  rw [← sgn_cmp, show z - 0 = z by grind]
theorem cmpQ_mul (x y z : Rat) : cmpQ (x * z) (y * z) = cmpQ x y * sgn z.num := by
  rw [sgn_cmp0]
  rcases cmpQ_cases z 0 with ⟨h, e⟩ | ⟨h, e⟩ | ⟨h, e⟩
  · rw [e]
    rcases cmpQ_cases x y with ⟨k, f⟩ | ⟨k, f⟩ | ⟨k, f⟩
    · rw [f, cmpQ_gt]; rfl
      have := Rat.mul_lt_mul_of_pos_right k (show 0 < -z by grind)
      grind
    · rw [f, k, cmpQ_eq]; rfl
    · rw [f, cmpQ_lt]; rfl
      have := Rat.mul_lt_mul_of_pos_right k (show 0 < -z by grind)
      grind
  · rw [e, h, Rat.mul_zero, Rat.mul_zero, cmpQ_eq, Int.mul_zero]
  · rw [e]
    rcases cmpQ_cases x y with ⟨k, f⟩ | ⟨k, f⟩ | ⟨k, f⟩
    · rw [f, cmpQ_lt (Rat.mul_lt_mul_of_pos_right k h)]; rfl
    · rw [f, k, cmpQ_eq]; rfl
    · rw [f, cmpQ_gt (Rat.mul_lt_mul_of_pos_right k h)]; rfl
theorem wrap_small {s : Int} (h1 : -1 ≤ s) (h2 : s ≤ 1) : IntKind.i64.wrap s = s := by
  have h : s = -1 ∨ s = 0 ∨ s = 1 := by omega
  rcases h with rfl | rfl | rfl <;> decide
end Go.Proofs.YtmcgkglmlfbijaaGreatDoor

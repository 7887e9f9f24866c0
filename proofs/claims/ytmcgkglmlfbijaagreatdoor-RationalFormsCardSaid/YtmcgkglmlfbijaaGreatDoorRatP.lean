/-
  What rounding gives.
-/
import Derived.Test.YtmcgkglmlfbijaaGreatDoorRatO
namespace Go.Proofs.YtmcgkglmlfbijaaGreatDoor
open Go.RowKit Go.Lib
set_option linter.unusedVariables false
set_option linter.unusedSimpArgs false

theorem cmpQ_lt {x y : Rat} (h : x < y) : cmpQ x y = -1 := by unfold cmpQ; rw [if_pos h]
theorem cmpQ_eq (x : Rat) : cmpQ x x = 0 := by unfold cmpQ; rw [if_neg (Rat.not_lt.2 (Rat.le_refl)), if_pos rfl]
theorem floor_facts {x : Rat} {lo hi : Int} (h1 : x.floor = lo) (h2 : -(-x).floor = hi) :
    ((lo : Rat) = x → cmpQ lo x = 0 ∧ cmpQ x hi = 0 ∧ cmpQ x ((lo + 1 : Int) : Rat) = -1 ∧ cmpQ ((hi - 1 : Int) : Rat) x = -1 ∧ decide (lo = hi) = true) ∧
    (¬ (lo : Rat) = x → cmpQ lo x = -1 ∧ cmpQ x hi = -1 ∧ cmpQ x ((lo + 1 : Int) : Rat) = -1 ∧ cmpQ ((hi - 1 : Int) : Rat) x = -1 ∧ decide (lo = hi) = false) := by
  have a1 := Rat.floor_le x
  have a2 := Rat.lt_floor_add_one x
  have b1 := Rat.floor_le (-x)
  have b2 := Rat.lt_floor_add_one (-x)
  rw [h1] at a1 a2
  have e : (-x).floor = -hi := by omega
  rw [e] at b1 b2
  have c2 : x < ((lo + 1 : Int) : Rat) := a2
  have c1 : ((hi - 1 : Int) : Rat) < x := by
    rw [Rat.intCast_add, Rat.intCast_neg] at b2
    rw [Rat.intCast_sub]
    grind
  have b1' : x ≤ (hi : Rat) := by rw [Rat.intCast_neg] at b1; grind
  constructor
  · intro h
    have hh : hi = lo := by
      rw [← h2, ← h, ← Rat.intCast_neg, Rat.floor_intCast]; omega
    subst hh
    exact ⟨by rw [h]; exact cmpQ_eq _, by rw [h]; exact cmpQ_eq _, cmpQ_lt c2, cmpQ_lt c1, decide_eq_true rfl⟩
  · intro h
    have l1 : (lo : Rat) < x := by grind
    have l2 : x < (hi : Rat) := by
      have hne : x ≠ (hi : Rat) := fun e2 => h (by rw [← h1, e2, Rat.floor_intCast])
      grind
    exact ⟨cmpQ_lt l1, cmpQ_lt l2, cmpQ_lt c2, cmpQ_lt c1, decide_eq_false (fun e2 => by subst e2; grind)⟩
theorem IntC.validC (z : Int) : (decide (trimL (digs z.natAbs) = digs z.natAbs) && !(decide (z < 0) && (digs z.natAbs).isEmpty)) = true := by
  have h1 : trimL (digs z.natAbs) = digs z.natAbs := by rw [digs_trimL, nval_digs]
  rw [h1]
  by_cases hz : z < 0
  · have h2 : (digs z.natAbs).isEmpty = false := by
      cases h : digs z.natAbs with
      | nil =>
        have := nval_digs z.natAbs
        rw [h] at this
        simp [nval] at this
        omega
      | cons a l => rfl
    simp [h2]
  · simp [hz]
end Go.Proofs.YtmcgkglmlfbijaaGreatDoor

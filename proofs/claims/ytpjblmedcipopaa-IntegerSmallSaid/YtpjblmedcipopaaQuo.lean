/-
  The law of the quotients: the remainder is less than the divisor in magnitude; its sign is that of the dividend, or of the divisor where the quotient is rounded down.
-/
import Derived.Test.YtpjblmedcipopaaIntG
namespace Go.Proofs.Ytpjblmedcipopaa
set_option linter.unusedVariables false
set_option linter.unusedSimpArgs false

theorem sgn_of_pos {a : Int} (h : 0 < a) : sgn a = 1 := by unfold sgn; rw [if_neg (by omega), if_neg (by omega)]
theorem sgn_of_neg {a : Int} (h : a < 0) : sgn a = -1 := by unfold sgn; rw [if_pos h]
theorem sgn_of_0 : sgn 0 = 0 := rfl

theorem quo_facts (fl : Bool) (x y : Int) (hy : y ≠ 0) :
    ((x - quoZ fl x y * y).natAbs < y.natAbs) ∧ (x - quoZ fl x y * y = 0 ∨ sgn (x - quoZ fl x y * y) = sgn (if fl then y else x)) := by
  have hd := Nat.div_add_mod x.natAbs y.natAbs
  have hm := Nat.mod_lt x.natAbs (show 0 < y.natAbs by omega)
  unfold quoZ
  generalize x.natAbs / y.natAbs = q at *
  generalize x.natAbs % y.natAbs = r at *
  have hp : (y.natAbs : Int) * q + r = x.natAbs := by rw [← hd]; simp
  have key : ∀ (s : Int) (R : Int), (0 < s → 0 < R) → (s < 0 → R < 0) → (s = 0 → R = 0) → sgn R = sgn s := by
    intro s R h1 h2 h3
    rcases Int.lt_trichotomy s 0 with h | h | h
    · rw [sgn_of_neg h, sgn_of_neg (h2 h)]
    · subst h; rw [h3 rfl]
    · rw [sgn_of_pos h, sgn_of_pos (h1 h)]
  have fin : ∀ (R : Int) (s : Int), R.natAbs < y.natAbs → (R = 0 ∨ ((0 < s → 0 < R) ∧ (s < 0 → R < 0) ∧ (s = 0 → R = 0))) → R.natAbs < y.natAbs ∧ (R = 0 ∨ sgn R = sgn s) :=
    fun R s h1 h2 => ⟨h1, h2.imp id fun h => key s R h.1 h.2.1 h.2.2⟩
  have P1 : 0 < y → (q : Int) * y = (y.natAbs : Int) * q := fun h => by
    have : (y.natAbs : Int) = y := by omega
    rw [this, Int.mul_comm]
  have P2 : y < 0 → (q : Int) * y = -((y.natAbs : Int) * q) := fun h => by
    have : (y.natAbs : Int) = -y := by omega
    rw [this, Int.neg_mul, Int.neg_neg, Int.mul_comm]
  have P3 : ((q + 1 : Nat) : Int) * y = q * y + y := by rw [Int.natCast_add, Int.add_mul]; simp
  rcases Int.lt_trichotomy x 0 with hx | hx | hx <;> rcases Int.lt_or_gt_of_ne hy with hy' | hy'
  · have e1 : y = -(y.natAbs : Int) := by omega
    simp only [sgn_of_neg hx, sgn_of_neg hy', show ¬ ((-1 : Int) * -1 < 0) by decide, decide_false, Bool.false_and, Bool.and_false, if_false, Nat.add_zero, Bool.false_eq_true]
    have hq : (q : Int) * y = -((y.natAbs : Int) * q) := by first | rw [P1 hy'] | rw [P2 hy'] | (rw [P2 hy']; omega)
    rw [hq]
    refine fin _ _ (by omega) ?_
    rcases fl with _ | _ <;> simp <;> omega
  · have e1 : y = (y.natAbs : Int) := by omega
    simp only [sgn_of_neg hx, sgn_of_pos hy', show ((-1 : Int) * 1 < 0) by decide, decide_true, Bool.true_and, if_true]
    rcases fl with _ | _
    · simp only [Bool.false_and, Bool.false_eq_true, if_false, Nat.add_zero]
      have hq : -(q : Int) * y = -((y.natAbs : Int) * q) := by first | rw [Int.neg_mul, P2 hy', Int.neg_neg] | rw [Int.neg_mul, P1 hy'] | rw [Int.neg_mul, P2 hy'] | (rw [Int.neg_mul, P2 hy']; omega)
      rw [hq]
      refine fin _ _ (by omega) (by omega)
    · simp only [Bool.true_and, if_true]
      by_cases hr : 0 < r
      · simp only [hr, decide_true, if_true]
        have hq : -((q + 1 : Nat) : Int) * y = -((y.natAbs : Int) * q) - y := by rw [Int.neg_mul, P3]; first | (rw [P1 hy']; omega) | (rw [P2 hy']; omega)
        rw [hq]
        refine fin _ _ (by omega) (by omega)
      · simp only [hr, decide_false, if_false, Nat.add_zero, Bool.false_eq_true]
        have hq : -(q : Int) * y = -((y.natAbs : Int) * q) := by first | rw [Int.neg_mul, P2 hy', Int.neg_neg] | rw [Int.neg_mul, P1 hy'] | rw [Int.neg_mul, P2 hy'] | (rw [Int.neg_mul, P2 hy']; omega)
        rw [hq]
        refine fin _ _ (by omega) (by omega)
  · subst hx
    simp only [sgn_of_0, Int.zero_mul, show ¬ ((0 : Int) < 0) by decide, decide_false, Bool.false_and, Bool.and_false, if_false, Nat.add_zero, Bool.false_eq_true]
    have e1 : y = -(y.natAbs : Int) := by omega
    have hq : (q : Int) * y = -((y.natAbs : Int) * q) := by first | rw [P1 hy'] | rw [P2 hy'] | (rw [P2 hy']; omega)
    rw [hq]
    have hpp : (0 : Int) ≤ (y.natAbs : Int) * q := Int.mul_nonneg (by omega) (by omega)
    refine fin _ _ (by omega) (by omega)
  · subst hx
    simp only [sgn_of_0, Int.zero_mul, show ¬ ((0 : Int) < 0) by decide, decide_false, Bool.false_and, Bool.and_false, if_false, Nat.add_zero, Bool.false_eq_true]
    have e1 : y = (y.natAbs : Int) := by omega
    have hq : (q : Int) * y = ((y.natAbs : Int) * q) := by first | rw [P1 hy'] | rw [P2 hy'] | (rw [P2 hy']; omega)
    rw [hq]
    have hpp : (0 : Int) ≤ (y.natAbs : Int) * q := Int.mul_nonneg (by omega) (by omega)
    refine fin _ _ (by omega) (by omega)
  · have e1 : y = -(y.natAbs : Int) := by omega
    simp only [sgn_of_pos hx, sgn_of_neg hy', show ((1 : Int) * -1 < 0) by decide, decide_true, Bool.true_and, if_true]
    rcases fl with _ | _
    · simp only [Bool.false_and, Bool.false_eq_true, if_false, Nat.add_zero]
      have hq : -(q : Int) * y = ((y.natAbs : Int) * q) := by first | rw [Int.neg_mul, P2 hy', Int.neg_neg] | rw [Int.neg_mul, P1 hy'] | rw [Int.neg_mul, P2 hy'] | (rw [Int.neg_mul, P2 hy']; omega)
      rw [hq]
      refine fin _ _ (by omega) (by omega)
    · simp only [Bool.true_and, if_true]
      by_cases hr : 0 < r
      · simp only [hr, decide_true, if_true]
        have hq : -((q + 1 : Nat) : Int) * y = ((y.natAbs : Int) * q) - y := by rw [Int.neg_mul, P3]; first | (rw [P1 hy']; omega) | (rw [P2 hy']; omega)
        rw [hq]
        refine fin _ _ (by omega) (by omega)
      · simp only [hr, decide_false, if_false, Nat.add_zero, Bool.false_eq_true]
        have hq : -(q : Int) * y = ((y.natAbs : Int) * q) := by first | rw [Int.neg_mul, P2 hy', Int.neg_neg] | rw [Int.neg_mul, P1 hy'] | rw [Int.neg_mul, P2 hy'] | (rw [Int.neg_mul, P2 hy']; omega)
        rw [hq]
        refine fin _ _ (by omega) (by omega)
  · have e1 : y = (y.natAbs : Int) := by omega
    simp only [sgn_of_pos hx, sgn_of_pos hy', show ¬ ((1 : Int) * 1 < 0) by decide, decide_false, Bool.false_and, Bool.and_false, if_false, Nat.add_zero, Bool.false_eq_true]
    have hq : (q : Int) * y = ((y.natAbs : Int) * q) := by first | rw [P1 hy'] | rw [P2 hy'] | (rw [P2 hy']; omega)
    rw [hq]
    refine fin _ _ (by omega) ?_
    rcases fl with _ | _ <;> simp <;> omega

theorem IntC.validC (z : Int) : (decide (trimL (digs z.natAbs) = digs z.natAbs) && !(decide (z < 0) && (digs z.natAbs).isEmpty)) = true := by
  have h1 : trimL (digs z.natAbs) = digs z.natAbs := by rw [digs_trimL, nval_digs]
  rw [h1]
  by_cases hz : z < 0
  · have h2 : (digs z.natAbs).isEmpty = false := by
      cases h : digs z.natAbs with
      | nil =>
        have := nval_digs z.natAbs
        rw [h] at this
        simp [nval] at this
        omega
      | cons a l => rfl
    simp [h2]
  · simp [hz]
end Go.Proofs.Ytpjblmedcipopaa

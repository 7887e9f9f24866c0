/-
  exodusref15.Letter, Digit; exodusref16.Space.
-/
import Derived.Test.YtakcolmgbahgiaaDoorLexD
namespace Go.Proofs.YtakcolmgbahgiaaDoor
open Go.RowKit Go.Lib Lex
set_option linter.unusedVariables false
set_option linter.unusedSimpArgs false

theorem ref_Letter (w : World) (c : UInt8) : Calls Tryd.prog 29 #[.int .u8 (c.toNat : Int)] w fun e w' => e = .returned (.bool (isLo c)) ∧ w = w' := by
  by_cases h1 : (97 : Int) ≤ (c.toNat : Int)
  · by_cases h2 : (c.toNat : Int) ≤ 122
    · go_enter Tryd.func29, Tryd.ntmps29
      go_wp2_with fail
      go_ret
      exact ⟨by unfold isLo; rw [decide_eq_true (show 97 ≤ c.toNat by omega), decide_eq_true (show c.toNat ≤ 122 by omega)]; rfl, rfl⟩
    · go_enter Tryd.func29, Tryd.ntmps29
      go_wp2_with fail
      go_ret
      exact ⟨by unfold isLo; rw [decide_eq_true (show 97 ≤ c.toNat by omega), decide_eq_false (show ¬ c.toNat ≤ 122 by omega)]; simp; try omega, rfl⟩
  · go_enter Tryd.func29, Tryd.ntmps29
    go_wp2_with fail
    go_ret
    exact ⟨by unfold isLo; rw [decide_eq_false (show ¬ 97 ≤ c.toNat by omega)]; simp; try omega, rfl⟩
theorem ref_Digit (w : World) (c : UInt8) : Calls Tryd.prog 30 #[.int .u8 (c.toNat : Int)] w fun e w' => e = .returned (.bool (isDi c)) ∧ w = w' := by
  by_cases h1 : (48 : Int) ≤ (c.toNat : Int)
  · by_cases h2 : (c.toNat : Int) ≤ 57
    · go_enter Tryd.func30, Tryd.ntmps30
      go_wp2_with fail
      go_ret
      exact ⟨by unfold isDi; rw [decide_eq_true (show 48 ≤ c.toNat by omega), decide_eq_true (show c.toNat ≤ 57 by omega)]; rfl, rfl⟩
    · go_enter Tryd.func30, Tryd.ntmps30
      go_wp2_with fail
      go_ret
      exact ⟨by unfold isDi; rw [decide_eq_true (show 48 ≤ c.toNat by omega), decide_eq_false (show ¬ c.toNat ≤ 57 by omega)]; simp; try omega, rfl⟩
  · go_enter Tryd.func30, Tryd.ntmps30
    go_wp2_with fail
    go_ret
    exact ⟨by unfold isDi; rw [decide_eq_false (show ¬ 48 ≤ c.toNat by omega)]; simp; try omega, rfl⟩
end Go.Proofs.YtakcolmgbahgiaaDoor

/-
  few.
-/
import Derived.Test.YtmcgkglmlfbijaaDoorLaw
namespace Go.Proofs.YtmcgkglmlfbijaaDoor
open Go.RowKit
set_option linter.unusedVariables false
set_option linter.unusedSimpArgs false

set_option maxHeartbeats 800000 in
theorem law_few (w : World) (g n cap : Nat) (S : Nat → Bool) (F : Nat → Option Addr) (L C : Nat → Nat) (hn : n ≤ 8) (hcap : n ≤ cap) (t : Bool) (ht : decide (∀ i, i < n → L i ≤ 10) = t)
    (hc : ∀ i, i < n → w.cell? ⟨g, i * 2, none⟩ = some (.bool (S i)) ∧ w.cell? ⟨g, i * 2 + 1, none⟩ = some (.slice (F i) (L i) (C i))) :
    Calls Tryd.prog 6 #[.slice (some ⟨g, 0, none⟩) n cap] w (Ret w fun r w' => r = .bool t) := by
  have HC := Lib.hid hc
  have HT := Lib.hid ht
  clear hc ht
  go_enter Tryd.func6, Tryd.ntmps6
  go_wp2_with fail
  go_loopw [7] (fun i w1 => ∃ k : Nat, k ≤ n ∧ i = .int .i64 k ∧ (∀ j, j < k → L j ≤ 10) ∧ Gr w w1) (fun i _ => n - (intOf i).toNat)
  case atStart => exact ⟨0, Nat.zero_le _, rfl, fun j hj => by omega, Gr.refl w⟩
  case round =>
    obtain ⟨k, hk, rfl, hp, hg⟩ := hrel
    have Hp := Lib.hid hp; clear hp
    by_cases hlt : k < n
    · obtain ⟨c0, c1⟩ := HC.out k hlt
      have c0 := hg.cell c0
      have c1 := hg.cell c1
      have B := boxed1 wr (.bool (S k)) (.slice (F k) (L k) (C k)) 25
      obtain ⟨l, hl⟩ : ∃ l, L k = l := ⟨_, rfl⟩
      rw [hl] at c1 B
      have Hl := Lib.hid hl
      obtain ⟨G, T⟩ := B
      have HG := Lib.hid G
      have d1 := T.c1 _ (Gr.refl _)
      have Hg := Lib.hid hg
      clear hl hg T G
      by_cases h10 : l ≤ 10
      · go_wp2_with fail
        refine ⟨⟨k + 1, by omega, by go_num, fun j hj => ?_, Hg.out.trans HG.out⟩, by simp [intOf]; omega⟩
        by_cases hj2 : j < k
        · exact Hp.out j hj2
        · obtain rfl : j = k := by omega
          rw [Hl.out]; exact h10
      · go_wp2_with fail
        go_ret
        refine ⟨_, rfl, Hg.out.trans HG.out, ?_⟩
        have h2 : t = false := by
          rw [← HT.out]
          exact decide_eq_false fun h => h10 (Hl.out ▸ h k hlt)
        rw [h2]
        rfl
    · go_wp2_with fail
      go_ret
      refine ⟨_, rfl, hg, ?_⟩
      obtain rfl : k = n := by omega
      have h2 : t = true := by
        rw [← HT.out]
        exact decide_eq_true Hp.out
      rw [h2]
      rfl
end Go.Proofs.YtmcgkglmlfbijaaDoor

/-
  Numbers of the program as numbers of the language.
-/
import Derived.Test.YtmcgkglmlfbijaaGreatDoorIntH
namespace Go.Proofs.YtmcgkglmlfbijaaGreatDoor
open Go.RowKit
set_option linter.unusedVariables false
set_option linter.unusedSimpArgs false

theorem nval_pair {m : List Nat} (h : m.length ≤ 2) : gd m 1 * BB + gd m 0 = nval m := by
  match m, h with
  | [], _ => rfl
  | [a], _ => simp [gd, nval]
  | [a, b], _ => simp [gd, nval]; rw [Nat.mul_comm]; omega

set_option maxRecDepth 100000 in
set_option maxHeartbeats 800000 in
theorem nat_Uint (w : World) (v : Value) (l : List Nat) (t : Bool) (h : NatL w v l) (ht : decide ((digs (nval l)).length ≤ 2) = t) :
    Calls Tryz.prog 111 #[v] w fun e w' => e = .returned (.tuple #[.int .u64 (if t then nval l else 0), .bool t]) ∧ w = w' := by
  have HA := Lib.hid h
  have HT := Lib.hid ht
  clear h ht
  go_enter Tryz.func111, Tryz.ntmps111
  go_wp2_with fail
  refine (nat_trim _ v l HA.out).mono ?_
  rintro _ _ ⟨⟨p, k, rfl, hm⟩, rfl⟩
  have hk := hm.len
  obtain ⟨m, hmm⟩ : ∃ m, trimL l = m := ⟨_, rfl⟩
  rw [hmm] at hm hk
  have hm2 : digs (nval l) = m := by rw [← digs_trimL]; exact hmm
  have hv : nval m = nval l := by rw [← hm2, nval_digs]
  have HM := Lib.hid hm
  have HV := Lib.hid hv
  have HT2 := Lib.hid (show decide (m.length ≤ 2) = t by rw [← hm2]; exact HT.out)
  have Hk := Lib.hid hk
  clear hm hv hm2 hmm hk
  obtain ⟨j, rfl⟩ : ∃ j : Nat, k = j := ⟨k, rfl⟩
  by_cases hj : k ≤ 2
  · have h2 : t = true := by rw [← HT2.out]; exact decide_eq_true (by rw [Hk.out]; exact hj)
    subst h2
    have g1 := HM.out.dig.gd 1
    have g0 := HM.out.dig.gd 0
    have hor := bits_shl_or g1 g0
    rw [nval_pair (by rw [Hk.out]; exact hj), HV.out] at hor
    rw [BB_eq] at g0 g1
    go_wp2_with fail
    refine (nat_digit _ _ m 1 HM.out (by decide)).mono ?_
    rintro _ _ ⟨rfl, rfl⟩
    go_wp2_with fail
    refine (nat_digit _ _ m 0 HM.out (by decide)).mono ?_
    rintro _ _ ⟨rfl, rfl⟩
    go_wp2_with fail
    go_ret2
    exact ⟨by simp, rfl⟩
  · have h2 : t = false := by rw [← HT2.out]; exact decide_eq_false (by rw [Hk.out]; exact hj)
    subst h2
    go_wp2_with fail
    go_ret2
    exact ⟨by simp, rfl⟩

theorem digs_two {v : Nat} : (digs v).length ≤ 2 ↔ v < 18446744073709551616 := by
  have e : BB ^ 2 = 18446744073709551616 := by decide
  rw [← e]
  exact ⟨lt_of_digs_length, digs_length_le⟩

/-- z in 64 bits with a sign -/
def fits (z : Int) : Bool := decide (-9223372036854775808 ≤ z ∧ z < 9223372036854775808)

theorem wrap_neg {u : Int} (h0 : 0 ≤ u) (h : u ≤ 9223372036854775808) : wrap64 (IntKind.u64.wrap (-u)) = -u := by
  rw [IntKind.wrap_u64]; unfold wrap64; omega

set_option maxRecDepth 100000 in
set_option maxHeartbeats 800000 in
theorem int_Int64 (w : World) (va : Value) (n : Bool) (la : List Nat) (z : Int) (t : Bool) (hz : zval n la = z) (ht : fits z = t) (ha : IntL w va n la) :
    Calls Tryz.prog 81 #[va] w (Ret w fun r _ => r = .tuple #[.int .i64 (if t then z else 0), .bool t]) := by
  obtain ⟨pa, ka, ca, rfl, ha⟩ := ha
  have HA := Lib.hid ha
  have HZ := Lib.hid hz
  have HT := Lib.hid ht
  have B := boxed1 w (.bool n) (.slice pa ka ca) 25
  clear ha hz ht
  go_enter Tryz.func81, Tryz.ntmps81
  go_wp2_with fail
  generalize w.alloc _ = W at B ⊢
  obtain ⟨G0, ta⟩ := B
  generalize w.heap.size = b0 at ta ⊢
  have HW := Lib.hid G0
  have T0 := Lib.hid ta
  have c0 := ta.c0 W (Gr.refl _)
  have c1 := ta.c1 W (Gr.refl _)
  clear ta G0
  go_wp2_with fail
  obtain ⟨s, hs⟩ : ∃ s, decide ((digs (nval la)).length ≤ 2) = s := ⟨_, rfl⟩
  have HS := Lib.hid hs
  refine (nat_Uint _ _ la s (HA.out.grow HW.out) hs).mono ?_
  rintro _ _ ⟨rfl, rfl⟩
  clear hs
  have hz := HZ.out
  unfold zval at hz
  have hs := HS.out
  cases s
  · have h2 : ¬ nval la < 18446744073709551616 := by
      rw [← digs_two]; exact of_decide_eq_false hs
    have ht : t = false := by
      rw [← HT.out]
      unfold fits
      refine decide_eq_false ?_
      cases n <;> simp at hz <;> omega
    subst ht
    clear hz hs h2
    go_wp2_with fail
    go_ret2
    exact ⟨_, rfl, HW.out, by simp⟩
  · have h2 : nval la < 18446744073709551616 := by
      rw [← digs_two]; exact of_decide_eq_true hs
    clear hs
    obtain ⟨u, hu⟩ : ∃ u : Int, ((nval la : Nat) : Int) = u := ⟨_, rfl⟩
    have h0 : 0 ≤ u := by omega
    have h2 : u < 18446744073709551616 := by omega
    simp only [hu, if_true] at hz ⊢
    clear hu
    cases n
    · simp only [Bool.false_eq_true, if_false] at hz
      by_cases h3 : u < 9223372036854775808
      · have ht : t = true := by rw [← HT.out]; unfold fits; exact decide_eq_true (by omega)
        subst ht
        subst hz
        go_wp2_with fail
        go_ret2
        exact ⟨_, rfl, HW.out, by simp⟩
      · have ht : t = false := by rw [← HT.out]; unfold fits; exact decide_eq_false (by omega)
        subst ht
        subst hz
        go_wp2_with fail
        go_ret2
        exact ⟨_, rfl, HW.out, by simp⟩
    · simp only [if_true] at hz
      by_cases h3 : u ≤ 9223372036854775808
      · have ht : t = true := by rw [← HT.out]; unfold fits; exact decide_eq_true (by omega)
        subst ht
        subst hz
        have E := wrap_neg h0 h3
        go_wp2_with fail
        go_ret2
        exact ⟨_, rfl, HW.out, by simp [E]⟩
      · have ht : t = false := by rw [← HT.out]; unfold fits; exact decide_eq_false (by omega)
        subst ht
        subst hz
        go_wp2_with fail
        go_ret2
        exact ⟨_, rfl, HW.out, by simp⟩
end Go.Proofs.YtmcgkglmlfbijaaGreatDoor

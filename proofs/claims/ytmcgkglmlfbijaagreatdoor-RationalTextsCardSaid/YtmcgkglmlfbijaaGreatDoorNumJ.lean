/-
  Texts and values: a text that is accepted is the numeral of its value.
-/
import Derived.Test.YtmcgkglmlfbijaaGreatDoorNatA
namespace Go.Proofs.YtmcgkglmlfbijaaGreatDoor
open Go.RowKit Go.Lib
set_option linter.unusedVariables false
set_option linter.unusedSimpArgs false

theorem decVal_pos {bs : List UInt8} (h0 : bs ≠ []) (hd : bs.all isDig = true) (hz : bs.head? ≠ some 48) : 1 ≤ decVal bs := by
  cases bs with
  | nil => exact absurd rfl h0
  | cons c cs =>
    have h := decVal_append [c] cs
    rw [show [c] ++ cs = c :: cs from rfl] at h
    have hc : 1 ≤ decVal [c] := by
      simp only [List.all_cons, Bool.and_eq_true, isDig, decide_eq_true_eq] at hd
      have : c.toNat ≠ 48 := fun e => hz (by simp; exact UInt8.toNat_inj.1 (by rw [e]; rfl))
      simp [decVal]; omega
    have hp : 1 ≤ 10 ^ cs.length := Nat.one_le_pow _ _ (by decide)
    have := Nat.mul_le_mul hc hp
    omega
theorem byte_back (c : UInt8) (h : 48 ≤ c.toNat) : UInt8.ofNat (48 + (c.toNat - 48)) = c := by
  rw [show 48 + (c.toNat - 48) = c.toNat by omega]
  simp
theorem text_back : ∀ (n : Nat) (bs : List UInt8), bs.length = n + 1 → bs.all isDig = true → (bs.head? ≠ some 48 ∨ n = 0) → decDigits (decVal bs) = bs
  | n, bs, hn, hd, hz => by
    have hne : bs ≠ [] := fun e => by rw [e] at hn; cases hn
    obtain ⟨ini, c, rfl⟩ : ∃ ini c, bs = ini ++ [c] := ⟨bs.dropLast, bs.getLast hne, (List.dropLast_concat_getLast hne).symm⟩
    rw [List.all_append, Bool.and_eq_true] at hd
    have hc : 48 ≤ c.toNat ∧ c.toNat ≤ 57 := by simpa [isDig] using hd.2
    rw [decVal_snoc]
    match n, hn, hz with
    | 0, hn, _ =>
      have : ini = [] := List.eq_nil_of_length_eq_zero (by simpa using hn)
      subst this
      rw [show decVal [] = 0 from rfl, dec_small (by omega), Nat.mul_zero, Nat.zero_add, byte_back c hc.1]
      rfl
    | m + 1, hn, hz =>
      have hl : ini.length = m + 1 := by simpa using hn
      have hi : ini ≠ [] := fun e => by rw [e] at hl; cases hl
      have hz' : ini.head? ≠ some 48 := by
        cases ini with
        | nil => exact absurd rfl hi
        | cons a l => rcases hz with h | h
                      · simpa using h
                      · cases h
      have hp := decVal_pos hi hd.1 hz'
      rw [dec_big (by omega), show (10 * decVal ini + (c.toNat - 48)) / 10 = decVal ini by omega, show (10 * decVal ini + (c.toNat - 48)) % 10 = c.toNat - 48 by omega, byte_back c hc.1, text_back m ini hl hd.1 (.inl hz')]
theorem text_ok {bs : List UInt8} (h : okText bs = true) : decDigits (decVal bs) = bs := by
  unfold okText at h
  simp only [Bool.and_eq_true, decide_eq_true_eq, Bool.or_eq_true] at h
  obtain ⟨⟨⟨h1, h2⟩, h3⟩, h4⟩ := h
  obtain ⟨n, hn⟩ : ∃ n, bs.length = n + 1 := ⟨bs.length - 1, by have := List.length_pos_iff.2 h1; omega⟩
  refine text_back n bs hn h4 (h3.imp id fun h => ?_)
  subst h
  simpa using hn
theorem okText_len {bs : List UInt8} (h : okText bs = true) : bs.all isDig = true ∧ bs.length ≤ 4000 := by
  unfold okText at h
  simp only [Bool.and_eq_true, decide_eq_true_eq, Bool.or_eq_true] at h
  exact ⟨h.2, h.1.1.2⟩
theorem ok_zero {bs : List UInt8} (h : okText bs = true) (h48 : bs ≠ [48]) : 1 ≤ decVal bs := by
  have hd := (okText_len h).1
  unfold okText at h
  simp only [Bool.and_eq_true, decide_eq_true_eq, Bool.or_eq_true] at h
  exact decVal_pos h.1.1.1 hd (h.1.2.resolve_right h48)
end Go.Proofs.YtmcgkglmlfbijaaGreatDoor

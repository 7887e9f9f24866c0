/-
  NaturalTexts: the walk.
-/
import Derived.Test.YtjhnbepjdpgemaaDoorNatC
import Derived.Test.YtjhnbepjdpgemaaDoorNumE
namespace Go.Proofs.YtjhnbepjdpgemaaDoor
open Go.RowKit Go.Lib
set_option linter.unusedVariables false
set_option linter.unusedSimpArgs false

theorem decVal_pos {bs : List UInt8} (h0 : bs ≠ []) (hd : bs.all isDig = true) (hz : bs.head? ≠ some 48) : 1 ≤ decVal bs := by
  cases bs with
  | nil => exact absurd rfl h0
  | cons c cs =>
    have h := decVal_append [c] cs
    rw [show [c] ++ cs = c :: cs from rfl] at h
    have hc : 1 ≤ decVal [c] := by
      simp only [List.all_cons, Bool.and_eq_true, isDig, decide_eq_true_eq] at hd
      have : c.toNat ≠ 48 := fun e => hz (by simp; exact UInt8.toNat_inj.1 (by rw [e]; rfl))
      simp [decVal]; omega
    have hp : 1 ≤ 10 ^ cs.length := Nat.one_le_pow _ _ (by decide)
    have := Nat.mul_le_mul hc hp
    omega
theorem byte_back (c : UInt8) (h : 48 ≤ c.toNat) : UInt8.ofNat (48 + (c.toNat - 48)) = c := by
  rw [show 48 + (c.toNat - 48) = c.toNat by omega]
  simp
theorem text_back : ∀ (n : Nat) (bs : List UInt8), bs.length = n + 1 → bs.all isDig = true → (bs.head? ≠ some 48 ∨ n = 0) → decDigits (decVal bs) = bs
  | n, bs, hn, hd, hz => by
    have hne : bs ≠ [] := fun e => by rw [e] at hn; cases hn
    obtain ⟨ini, c, rfl⟩ : ∃ ini c, bs = ini ++ [c] := ⟨bs.dropLast, bs.getLast hne, (List.dropLast_concat_getLast hne).symm⟩
    rw [List.all_append, Bool.and_eq_true] at hd
    have hc : 48 ≤ c.toNat ∧ c.toNat ≤ 57 := by simpa [isDig] using hd.2
    rw [decVal_snoc]
    match n, hn, hz with
    | 0, hn, _ =>
      have : ini = [] := List.eq_nil_of_length_eq_zero (by simpa using hn)
      subst this
      rw [show decVal [] = 0 from rfl, dec_small (by omega), Nat.mul_zero, Nat.zero_add, byte_back c hc.1]
      rfl
    | m + 1, hn, hz =>
      have hl : ini.length = m + 1 := by simpa using hn
      have hi : ini ≠ [] := fun e => by rw [e] at hl; cases hl
      have hz' : ini.head? ≠ some 48 := by
        cases ini with
        | nil => exact absurd rfl hi
        | cons a l => rcases hz with h | h
                      · simpa using h
                      · cases h
      have hp := decVal_pos hi hd.1 hz'
      rw [dec_big (by omega), show (10 * decVal ini + (c.toNat - 48)) / 10 = decVal ini by omega, show (10 * decVal ini + (c.toNat - 48)) % 10 = c.toNat - 48 by omega, byte_back c hc.1, text_back m ini hl hd.1 (.inl hz')]
theorem text_ok {bs : List UInt8} (h : okText bs = true) : decDigits (decVal bs) = bs := by
  unfold okText at h
  simp only [Bool.and_eq_true, decide_eq_true_eq, Bool.or_eq_true] at h
  obtain ⟨⟨⟨h1, h2⟩, h3⟩, h4⟩ := h
  obtain ⟨n, hn⟩ : ∃ n, bs.length = n + 1 := ⟨bs.length - 1, by have := List.length_pos_iff.2 h1; omega⟩
  refine text_back n bs hn h4 (h3.imp id fun h => ?_)
  subst h
  simpa using hn
theorem okText_len {bs : List UInt8} (h : okText bs = true) : bs.all isDig = true ∧ bs.length ≤ 4000 := by
  unfold okText at h
  simp only [Bool.and_eq_true, decide_eq_true_eq, Bool.or_eq_true] at h
  exact ⟨h.2, h.1.1.2⟩

set_option maxRecDepth 100000 in
set_option maxHeartbeats 3200000 in
theorem law_NaturalTexts (w : World) (htab : Tab w) (s : ByteArray) (hs : s.size ≤ maxLen) :
    Calls Tryd.prog 4 #[.string s] w (Ret w fun r w' => r = .bool true) := by
  have HT := Lib.hid htab
  obtain ⟨bs, rfl⟩ : ∃ bs : List UInt8, s = ⟨bs.toArray⟩ := ⟨s.data.toList, by simp⟩
  clear htab hs
  go_enter Tryd.func4, Tryd.ntmps4
  go_wp2_with fail
  refine (law_awake w HT.out).mono ?_
  rintro _ w1 ⟨_, rfl, g1, rfl⟩
  have G := Lib.hid g1
  clear g1
  by_cases hl : bs.length ≤ 200
  · have hb : bs.length ≤ 140737488355328 := by omega
    go_wp2_with fail
    refine (nat_Parse w1 bs hb).mono ?_
    rintro _ w2 ⟨r2, rfl, g2, h2⟩
    have G := Lib.hid (G.out.trans g2)
    by_cases hok : okText bs = true
    · unfold ParseRes at h2
      rw [if_pos hok] at h2
      obtain ⟨x, rfl, hx⟩ := h2
      have HX := Lib.hid hx
      have Hok := Lib.hid hok
      clear hx hok g2
      go_wp2_with fail
      refine (ref_Parse w2 bs hb).mono ?_
      rintro _ w3 ⟨r3, rfl, g3, h3⟩
      have G := Lib.hid (G.out.trans g3)
      have HX := Lib.hid (HX.out.grow g3)
      unfold ParseRes at h3
      rw [if_pos Hok.out] at h3
      obtain ⟨y, rfl, hy⟩ := h3
      have HY := Lib.hid hy
      clear hy g3
      go_wp2_with fail
      refine (n_Same _ _ _ (decVal bs) (decVal bs) HX.out HY.out rfl).mono ?_
      rintro _ w4 ⟨_, rfl, g4, rfl⟩
      have G := Lib.hid (G.out.trans g4)
      have HX := Lib.hid (HX.out.grow g4)
      clear g4
      go_wp2_with fail
      refine (nat_Text _ _ _ HX.out (Nat.le_trans (dec_digs (okText_len Hok.out).1 (okText_len Hok.out).2) (by decide)) (HT.out.grow G.out)).mono ?_
      rintro _ w5 ⟨_, rfl, g5, rfl⟩
      rw [nval_digs, text_ok Hok.out]
      go_wp2_with fail
      go_ret
      exact ⟨_, rfl, G.out.trans g5, rfl⟩
    · unfold ParseRes at h2
      rw [if_neg hok] at h2
      subst h2
      have Hok := Lib.hid hok
      clear hok g2
      go_wp2_with fail
      refine (ref_Parse w2 bs hb).mono ?_
      rintro _ w3 ⟨r3, rfl, g3, h3⟩
      have G := Lib.hid (G.out.trans g3)
      unfold ParseRes at h3
      rw [if_neg Hok.out] at h3
      subst h3
      clear g3
      go_wp2_with fail
      refine (n_Same _ _ _ 0 0 (nil0 _) (nil0 _) rfl).mono ?_
      rintro _ w4 ⟨_, rfl, g4, rfl⟩
      go_wp2_with fail
      go_ret
      exact ⟨_, rfl, G.out.trans g4, rfl⟩
  · go_wp2_with fail
    refine (law_awake w1 (HT.out.grow G.out)).mono ?_
    rintro _ w2 ⟨_, rfl, g2, rfl⟩
    go_wp2_with fail
    go_ret
    exact ⟨_, rfl, G.out.trans g2, rfl⟩
end Go.Proofs.YtjhnbepjdpgemaaDoor

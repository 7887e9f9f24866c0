/-
  The program's numbers: from and to words, binary digits, validity.
-/
import Derived.Test.YtmcgkglmlfbijaaDoorLeafF
import Derived.Test.YtmcgkglmlfbijaaDoorShelf
namespace Go.Proofs.YtmcgkglmlfbijaaDoor
open Go.RowKit
set_option linter.unusedVariables false
set_option linter.unusedSimpArgs false

/-- a new block of two digits -/
theorem NatL.two (w : World) (e f : Int) (x y : Nat) (he : e = x) (hf : f = y) (hx : x < BB) (hy : y < BB) (t : TypeId) :
    NatL (w.alloc (.cells #[.int .u32 e, .int .u32 f] t)) (.slice (some ⟨w.heap.size, 0, none⟩) 2 2) [x, y] := by
  subst he hf
  refine ⟨Dig.cons hx (Dig.cons hy Dig.nil), _, 2, rfl, by simp, by omega, .inr ⟨w.heap.size, 0, rfl, fun i hi => ?_⟩⟩
  have : i = 0 ∨ i = 1 := by have : i < 2 := by simpa using hi
                             omega
  rcases this with rfl | rfl <;> simp [go_sem, gd]

theorem nval_two {n : Nat} (h : n < 18446744073709551616) : nval [n % BB, n / BB % BB] = n := by
  simp only [nval, BB_eq]; omega

set_option maxHeartbeats 400000 in
theorem nat_From (w : World) (n : Nat) (h : n < 18446744073709551616) :
    Calls Tryd.prog 29 #[.int .u64 n] w (Ret w fun r w' => NatL w' r (digs n)) := by
  have hn : n ≤ 18446744073709551615 := by omega
  have E1 := Lib.hid (show (n : Int) % 4294967296 = ((n % BB : Nat) : Int) by rw [BB_eq]; omega)
  have E2 := Lib.hid (show (n : Int) / 4294967296 = ((n / BB % BB : Nat) : Int) by rw [BB_eq]; omega)
  have HV := Lib.hid (nval_two h)
  clear h
  go_enter Tryd.func29, Tryd.ntmps29
  go_wp2_with fail
  refine (nat_fresh _ _ _ (NatL.two w _ _ _ _ E1.out E2.out (Nat.mod_lt _ BB_pos) (Nat.mod_lt _ BB_pos) _) (by simp)).mono ?_
  rintro _ w1 ⟨r, rfl, g, hr⟩
  rw [HV.out] at hr
  have Hr := Lib.hid hr
  clear hr
  go_wp2_with fail
  go_ret
  exact ⟨_, rfl, ((Gr.refl w).alloc _).trans g, Hr.out⟩

set_option maxHeartbeats 400000 in
theorem ref_From (w : World) (n : Nat) (h : n < 18446744073709551616) :
    Calls Tryd.prog 35 #[.int .u64 n] w (Ret w fun r w' => NatL w' r (digs n)) := by
  have hn : n ≤ 18446744073709551615 := by omega
  have E1 := Lib.hid (show (n : Int) % 4294967296 = ((n % BB : Nat) : Int) by rw [BB_eq]; omega)
  have E2 := Lib.hid (show (n : Int) / 4294967296 = ((n / BB % BB : Nat) : Int) by rw [BB_eq]; omega)
  have HV := Lib.hid (nval_two h)
  clear h
  go_enter Tryd.func35, Tryd.ntmps35
  go_wp2_with fail
  refine (ref_Trim _ _ _ (NatL.two w _ _ _ _ E1.out E2.out (Nat.mod_lt _ BB_pos) (Nat.mod_lt _ BB_pos) _) (by simp)).mono ?_
  rintro _ w1 ⟨r, rfl, g, hr⟩
  rw [trimL, HV.out] at hr
  have Hr := Lib.hid hr
  clear hr
  go_wp2_with fail
  go_ret
  exact ⟨_, rfl, ((Gr.refl w).alloc _).trans g, Hr.out⟩

theorem nval_of_length2 {l : List Nat} (h : l.length ≤ 2) : nval l = gd l 1 * BB + gd l 0 := by
  match l, h with
  | [], _ => simp [nval, gd]
  | [a], _ => simp [nval, gd]
  | [a, b], _ => simp [nval, gd]; rw [Nat.mul_comm, Nat.add_comm]

/-- the number of binary digits -/
def bitsN (n : Nat) : Nat := if n = 0 then 0 else 32 * ((digs n).length - 1) + Lib.bitLen (gd (digs n) ((digs n).length - 1))

theorem digs_last_pos {n : Nat} (h : n ≠ 0) : gd (digs n) ((digs n).length - 1) ≠ 0 := by
  have h1 : digs n ≠ [] := fun e => h (digs_eq_nil.1 e)
  have h2 := digs_getLast h1
  rw [List.getLast_eq_getElem] at h2
  rw [gd_get (by have := List.length_pos_iff.2 h1; omega)]
  exact h2

theorem bitLen_pos {x : Nat} (h : x ≠ 0) : 0 < Lib.bitLen x := by
  unfold Lib.bitLen
  simp only [Lib.bitLenAux, if_neg h]; omega
theorem bitLen_le32 {x : Nat} (h : x < BB) : Lib.bitLen x ≤ 32 := Lib.bitLen_le x 32 (by omega) (by rw [BB_eq] at h; omega)

theorem bitsN_zero : bitsN 0 = 0 := rfl
theorem bitsN_pos {n : Nat} (h : n ≠ 0) : 0 < bitsN n := by
  unfold bitsN; rw [if_neg h]
  have := bitLen_pos (digs_last_pos h)
  omega

set_option maxHeartbeats 400000 in
theorem nat_Bits (w : World) (v : Value) (l : List Nat) (h : NatL w v l) (hlen : l.length ≤ 17592186044416) :
    Calls Tryd.prog 36 #[v] w fun e w' => e = .returned (.int .i64 (bitsN (nval l))) ∧ w = w' := by
  have HA := Lib.hid h
  have HL := Lib.hid (trimL_length l h.dig)
  have HN : ∀ k, k = (digs (nval l)).length → k ≤ 17592186044416 := fun k hk => by rw [hk]; exact Nat.le_trans HL.out hlen
  clear h
  go_enter Tryd.func36, Tryd.ntmps36
  go_wp2_with fail
  refine (nat_trim _ _ l HA.out).mono ?_
  rintro _ _ ⟨⟨p, k, rfl, hr⟩, rfl⟩
  have hk : k = (digs (nval l)).length := hr.len.symm
  have hk2 := HN k hk
  have Hr := Lib.hid hr
  have Hk := Lib.hid hk
  clear hr HN
  by_cases h0 : k = 0
  · have hz : nval l = 0 := by
      rw [h0] at hk; exact digs_eq_nil.1 (List.eq_nil_of_length_eq_zero hk.symm)
    have Hz := Lib.hid (show bitsN (nval l) = 0 by rw [hz]; rfl)
    clear hz hk
    obtain rfl := h0
    go_wp2_with fail
    go_ret
    rw [Hz.out]
    exact ⟨rfl, rfl⟩
  · obtain ⟨b, o, rfl, hc⟩ := Hr.out.at (k - 1) (by rw [trimL, ← hk]; omega)
    have hd := Hr.out.dig.gd (k - 1)
    have hne : nval l ≠ 0 := fun e => by rw [e, digs_zero] at hk; simp at hk; omega
    have Hb := Lib.hid (show 32 * ((k : Int) - 1) + Lib.bitLen (gd (trimL l) (k - 1)) = bitsN (nval l) by
      unfold bitsN
      rw [if_neg hne, ← hk]
      show _ = ((32 * (k - 1) + Lib.bitLen (gd (trimL l) (k - 1)) : Nat) : Int)
      omega)
    have hb32 := bitLen_le32 hd
    rw [BB_eq] at hd
    clear hk hne
    obtain ⟨j, rfl⟩ : ∃ j, k = j + 1 := ⟨k - 1, by omega⟩
    rw [Nat.add_sub_cancel] at hc hd hb32 Hb
    have t1 : (((j + 1 : Nat) : Int) == 0) = false := by simp; omega
    go_wp2_with fail
    refine (Tryd.bits_Len32 _ _ (by omega) (by omega)).mono ?_
    rintro _ _ ⟨rfl, rfl⟩
    rw [Int.toNat_natCast]
    go_wp2_with fail
    go_ret
    rw [← Hb.out]
    exact ⟨ret_int (by omega), rfl⟩

set_option maxHeartbeats 400000 in
theorem ref_Valid (w : World) (v : Value) (l : List Nat) (h : NatL w v l) (hlen : l.length ≤ 17592186044416) :
    Calls Tryd.prog 31 #[v] w fun e w' => e = .returned (.bool (decide (trimL l = l))) ∧ w = w' := by
  have HA := Lib.hid h
  have HT := Lib.hid (trimL_eq_self_iff l h.dig)
  obtain ⟨p, c, rfl, h1, h2, h0⟩ := h.parts
  obtain ⟨n, hn⟩ : ∃ n, l.length = n := ⟨_, rfl⟩
  rw [hn] at h1 hlen ⊢
  rw [hn] at HA HT
  have Hn := Lib.hid hn
  clear hn h0 h
  by_cases h0 : n = 0
  · obtain rfl := h0
    have Hd := Lib.hid (show decide (trimL l = l) = true by simp; exact HT.out.2 (.inl (List.eq_nil_of_length_eq_zero Hn.out)))
    go_enter Tryd.func31, Tryd.ntmps31
    go_wp2_with fail
    go_ret
    rw [Hd.out]
    exact ⟨rfl, rfl⟩
  · obtain ⟨j, rfl⟩ : ∃ j, n = j + 1 := ⟨n - 1, by omega⟩
    obtain ⟨b, o, rfl, hc⟩ := HA.out.at j (by rw [Hn.out]; omega)
    rw [Nat.add_sub_cancel] at HT
    have t1 : (((j + 1 : Nat) : Int) == 0) = false := by simp; omega
    have Hd := Lib.hid (show decide (trimL l = l) = ((gd l j : Int) != 0) by
      rw [Bool.eq_iff_iff, decide_eq_true_iff, HT.out]
      have : l ≠ [] := fun e => by have := Hn.out; rw [e] at this; simp at this
      simp [this])
    go_enter Tryd.func31, Tryd.ntmps31
    go_wp2_with fail
    go_ret
    rw [Hd.out]
    exact ⟨rfl, rfl⟩
end Go.Proofs.YtmcgkglmlfbijaaDoor

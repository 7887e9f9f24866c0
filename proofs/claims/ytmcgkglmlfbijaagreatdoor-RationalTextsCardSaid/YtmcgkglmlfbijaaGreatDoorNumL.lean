/-
  Numbers: Uint, Bits, Valid.
-/
import Derived.Test.YtmcgkglmlfbijaaGreatDoorNumH
import Derived.Test.YtmcgkglmlfbijaaGreatDoorIntI
namespace Go.Proofs.YtmcgkglmlfbijaaGreatDoor
open Go.RowKit Go.Lib
set_option linter.unusedVariables false
set_option linter.unusedSimpArgs false

set_option maxHeartbeats 400000 in
theorem nat_Valid (w : World) (v : Value) (l : List Nat) (h : NatL w v l) (hlen : l.length ≤ 17592186044416) :
    Calls Tryz.prog 63 #[v] w fun e w' => e = .returned (.bool (decide (trimL l = l))) ∧ w = w' := by
  have HA := Lib.hid h
  have HT := Lib.hid (trimL_eq_self_iff l h.dig)
  obtain ⟨p, c, rfl, h1, h2, h0⟩ := h.parts
  obtain ⟨n, hn⟩ : ∃ n, l.length = n := ⟨_, rfl⟩
  rw [hn] at h1 hlen ⊢
  rw [hn] at HA HT
  have Hn := Lib.hid hn
  clear hn h0 h
  by_cases h0 : n = 0
  · obtain rfl := h0
    have Hd := Lib.hid (show decide (trimL l = l) = true by simp; exact HT.out.2 (.inl (List.eq_nil_of_length_eq_zero Hn.out)))
    go_enter Tryz.func63, Tryz.ntmps63
    go_wp2_with fail
    go_ret
    rw [Hd.out]
    exact ⟨rfl, rfl⟩
  · obtain ⟨j, rfl⟩ : ∃ j, n = j + 1 := ⟨n - 1, by omega⟩
    obtain ⟨b, o, rfl, hc⟩ := HA.out.at j (by rw [Hn.out]; omega)
    rw [Nat.add_sub_cancel] at HT
    have t1 : (((j + 1 : Nat) : Int) == 0) = false := by simp; omega
    have Hd := Lib.hid (show decide (trimL l = l) = ((gd l j : Int) != 0) by
      rw [Bool.eq_iff_iff, decide_eq_true_iff, HT.out]
      have : l ≠ [] := fun e => by have := Hn.out; rw [e] at this; simp at this
      simp [this])
    go_enter Tryz.func63, Tryz.ntmps63
    go_wp2_with fail
    go_ret
    rw [Hd.out]
    exact ⟨rfl, rfl⟩

set_option maxRecDepth 100000 in
set_option maxHeartbeats 1600000 in
theorem ref_Uint (w : World) (v : Value) (l : List Nat) (t : Bool) (h : NatL w v l) (hlen : l.length ≤ 1000000) (ht : decide ((digs (nval l)).length ≤ 2) = t) :
    Calls Tryz.prog 112 #[v] w (Ret w fun r w' => r = .tuple #[.int .u64 (if t then nval l else 0), .bool t]) := by
  have HA := Lib.hid h
  have HT := Lib.hid ht
  clear h ht
  go_enter Tryz.func112, Tryz.ntmps112
  go_wp2_with fail
  refine (ref_Trim _ v l HA.out (Nat.le_trans hlen (by decide))).mono ?_
  rintro _ w1 ⟨vt, rfl, g1, hm⟩
  obtain ⟨N, hN⟩ : ∃ N, nval l = N := ⟨_, rfl⟩
  rw [digs_trimL, hN] at hm
  have hL : (digs N).length ≤ 1000000 := by rw [← hN]; exact Nat.le_trans (digs_nval_len HA.out.dig) hlen
  obtain ⟨m, hmm⟩ : ∃ m, digs N = m := ⟨_, rfl⟩
  have hvm : nval m = N := by rw [← hmm, nval_digs]
  have ht := HT.out
  rw [hN, hmm] at ht
  rw [hmm] at hm hL
  have HM := Lib.hid hm
  have HV := Lib.hid hvm
  have HN := Lib.hid hN
  obtain ⟨p, k, c, rfl, hk⟩ := hm.slice
  have Hk := Lib.hid hk
  have hk1 : k ≤ 1000000 := by rw [hk]; exact hL
  have G1 := Lib.hid g1
  have hkt : decide (k ≤ 2) = t := by rw [hk]; exact ht
  clear hm hvm hmm hk g1 ht hL hN
  by_cases h2 : k ≤ 2
  · have h3 : t = true := by rw [← hkt]; exact decide_eq_true h2
    subst h3
    clear hkt
    go_wp2_with fail
    go_loopw [4, 5] (fun x z w2 => ∃ j : Nat, j ≤ k ∧ z = .int .i64 ((j : Int) - 1) ∧ x = .int .u64 (nval (m.drop j) : Nat) ∧ Gr w1 w2) (fun _ z _ => (RowKit.intOf z + 1).toNat)
    case atStart => exact ⟨k, Nat.le_refl _, rfl, by rw [List.drop_of_length_le (by rw [Hk.out]; exact Nat.le_refl _)]; rfl, Gr.refl _⟩
    case round =>
      obtain ⟨j, hj, rfl, rfl, hg⟩ := hrel
      have Hg := Lib.hid hg
      clear hg
      by_cases hj0 : j = 0
      · subst hj0
        go_wp2_with fail
        go_ret2
        refine ⟨_, rfl, G1.out.trans Hg.out, ?_⟩
        show Value.tuple #[.int .u64 (nval (m.drop 0) : Nat), .bool true] = _
        rw [List.drop_zero, HV.out, HN.out]
      · obtain ⟨i, rfl⟩ : ∃ i, j = i + 1 := ⟨j - 1, by omega⟩
        have E0 : ((i + 1 : Nat) : Int) - 1 = (i : Int) := by omega
        rw [E0]
        have him : i < m.length := by rw [← Hk.out]; omega
        obtain ⟨b, o, rfl, cell0⟩ := HM.out.at i him
        have cell := Hg.out.cell cell0
        have hlt : nval (m.drop (i + 1)) < BB := by
          have h1 := nval_lt (m.drop (i + 1)) (fun d hd => HM.out.dig d (List.mem_of_mem_drop hd))
          have h2' : BB ^ (m.drop (i + 1)).length ≤ BB ^ 1 := Nat.pow_le_pow_right BB_pos (by rw [List.length_drop, ← Hk.out]; omega)
          rw [Nat.pow_one] at h2'
          omega
        have hgd := HM.out.dig.gd i
        have hor := bits_shl_or hlt hgd
        have hdr := nval_drop m i
        obtain ⟨q, hq⟩ : ∃ q, nval (m.drop (i + 1)) = q := ⟨_, rfl⟩
        obtain ⟨d, hd⟩ : ∃ d, gd m i = d := ⟨_, rfl⟩
        rw [hq] at hor hlt hdr
        rw [hd] at hor hgd hdr cell
        simp only [hq]
        rw [BB_eq] at hlt hgd
        have Hdr := Lib.hid hdr
        have hi2 : i + 1 ≤ k := hj
        clear hdr hq hd E0 cell0 hj hj0
        go_wp2_with fail
        refine ⟨⟨i, by omega, rfl, ?_, Hg.out⟩, by simp [RowKit.intOf] <;> omega⟩
        rw [Hdr.out]
        rw [Nat.mul_comm BB q, Nat.add_comm d]
        simp
  · have h3 : t = false := by rw [← hkt]; exact decide_eq_false h2
    subst h3
    clear hkt
    go_wp2_with fail
    go_ret2
    exact ⟨_, rfl, G1.out, by simp⟩

end Go.Proofs.YtmcgkglmlfbijaaGreatDoor

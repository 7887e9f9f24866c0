/-
  exodusref01.Text.
-/
import Derived.Test.YtmcgkglmlfbijaaGreatDoorNumG
import Derived.Test.YtmcgkglmlfbijaaGreatDoorNatB
import Derived.Laws.IdiomStrings
import Derived.Laws.Concat
namespace Go.Proofs.YtmcgkglmlfbijaaGreatDoor
open Go.RowKit Go.Lib
set_option linter.unusedVariables false
set_option linter.unusedSimpArgs false

/-- what has been written of N, digit by digit, when m is left -/
def Wrote (N m : Nat) (s : List UInt8) : Prop := (N = 0 → m = 0 ∧ s = []) ∧ (0 < N → decDigits N = (if m = 0 then [] else decDigits m) ++ s)
theorem Wrote.start (N : Nat) : Wrote N N [] := ⟨fun h => ⟨h, rfl⟩, fun h => by rw [if_neg (by omega)]; simp⟩
theorem Wrote.step {N m : Nat} {s : List UInt8} (h : Wrote N m s) (hm : 0 < m) : Wrote N (m / 10) (UInt8.ofNat (48 + m % 10) :: s) := by
  have hN : 0 < N := Nat.pos_of_ne_zero fun e => by have := (h.1 e).1; omega
  refine ⟨fun e => by omega, fun _ => ?_⟩
  rw [h.2 hN, if_neg (by omega)]
  by_cases h10 : m < 10
  · rw [dec_small h10, if_pos (by omega), Nat.mod_eq_of_lt h10]; rfl
  · rw [dec_big h10, if_neg (by omega), List.append_assoc]; rfl
theorem Wrote.more {N m : Nat} {s : List UInt8} (h : Wrote N m s) (hm : 0 < m) : s.length < (decDigits N).length := by
  have hN : 0 < N := Nat.pos_of_ne_zero fun e => by have := (h.1 e).1; omega
  rw [h.2 hN, if_neg (by omega), List.length_append, decDigits_length]
  have := nDigits_pos m
  omega
theorem Wrote.stop {N : Nat} {s : List UInt8} (h : Wrote N 0 s) : (s = [] ∧ N = 0) ∨ (s ≠ [] ∧ decDigits N = s) := by
  by_cases hN : N = 0
  · exact .inl ⟨(h.1 hN).2, hN⟩
  · have h2 := h.2 (by omega)
    rw [if_pos rfl, List.nil_append] at h2
    refine .inr ⟨fun e => ?_, h2⟩
    have := nDigits_pos N
    rw [← decDigits_length, h2, e] at this
    simp at this

theorem byte1 (w : World) (b : UInt8) (e : Int) (he : e = (b.toNat : Int)) (t : TypeId) : (convert 103 9 (.slice (some ⟨w.heap.size, 0, none⟩) 1 1)).run Tryz.prog (w.alloc (.cells #[.int .u8 e] t)) = .ok (.string ⟨#[b]⟩) (w.alloc (.cells #[.int .u8 e] t)) := by
  subst he
  exact run_convert_bytes_back (P := Tryz.prog) _ 103 9 5 ⟨w.heap.size, 0, none⟩ 1 [b] Tryz.underlying103 Tryz.underlying5 Tryz.underlying9 (fun j hj => by
    have : j = 0 := by simpa using hj
    subst this
    rw [Lib.add_plain]
    unfold World.cell?
    simp only [heap_alloc_new w _]
    rfl)

set_option maxRecDepth 100000 in
set_option maxHeartbeats 3200000 in
theorem ref_Text (w : World) (v : Value) (l : List Nat) (h : NatL w v l) (hlen : l.length ≤ 900000) :
    Calls Tryz.prog 88 #[v] w (Ret w fun r _ => r = .string ⟨(Lib.decDigits (nval l)).toArray⟩) := by
  have HA := Lib.hid h
  obtain ⟨N, hN⟩ : ∃ N, nval l = N := ⟨_, rfl⟩
  have HN := Lib.hid hN
  rw [hN]
  clear h hN
  go_enter Tryz.func88, Tryz.ntmps88
  go_wp2_with fail
  refine (ref_Trim _ v l HA.out (Nat.le_trans hlen (by decide))).mono ?_
  rintro _ w1 ⟨vt, rfl, g1, ht⟩
  rw [digs_trimL, HN.out] at ht
  have HT := Lib.hid ht
  have G1 := Lib.hid g1
  clear ht g1
  go_wp2_with fail
  go_loopw [0, 3] (fun va vs w2 => ∃ (m : Nat) (s : List UInt8), NatL w2 va (digs m) ∧ vs = .string ⟨s.toArray⟩ ∧ Gr w1 w2 ∧ Wrote N m s ∧ m ≤ N) (fun _ vs _ => (decDigits N).length + 1 - strLen vs)
  case atStart => exact ⟨N, [], HT.out, rfl, Gr.refl _, Wrote.start N, Nat.le_refl _⟩
  case round =>
    obtain ⟨m, s, hva, rfl, hg, hw, hmN⟩ := hrel
    have Hva := Lib.hid hva
    have Hg := Lib.hid hg
    have Hw := Lib.hid hw
    have hmL : (digs m).length ≤ 900000 := Nat.le_trans (digs_mono_len hmN) (by rw [← HN.out]; exact Nat.le_trans (digs_nval_len HA.out.dig) hlen)
    obtain ⟨pa, n, ca, rfl, hn⟩ := hva.slice
    have Hn := Lib.hid hn
    have hn9 : n ≤ 900000 := by rw [hn]; exact hmL
    clear hva hg hw hn
    by_cases hm : m = 0
    · have hn0 : n = 0 := by rw [Hn.out, hm]; simp [digs_eq_nil.2]
      subst hn0
      subst hm
      rcases Hw.out.stop with ⟨rfl, h0⟩ | ⟨hne, hd⟩
      · go_wp2_with fail
        go_ret
        exact ⟨_, rfl, G1.out.trans Hg.out, by rw [h0, dec_small (by decide)]; rfl⟩
      · have hs0 : s.isEmpty = false := by cases s <;> simp_all
        have Hd := Lib.hid hd
        clear hd
        go_wp2_with fail
        go_ret
        exact ⟨_, rfl, G1.out.trans Hg.out, by rw [Hd.out]; rfl⟩
    · have hm0 : 0 < m := by omega
      have hn0 : 0 < n := by rw [Hn.out]; exact List.length_pos_iff.2 (fun e => hm (digs_eq_nil.1 e))
      have hmore := Hw.out.more hm0
      go_wp2_with fail
      have g10 := Lib.hid ((Gr.refl wr).alloc (.cells #[.int .u32 10] 64))
      refine (ref_DivMod _ _ _ (digs m) [10] (Hva.out.grow g10.out) (NatL.one wr 10 10 rfl (by rw [BB_eq]; decide) 64) (Nat.le_trans hmL (by decide)) (by decide) (by simp [nval])).mono ?_
      rintro _ w2 ⟨_, rfl, g2, x, y, rfl, hx, hy⟩
      rw [nval_digs, show nval [10] = 10 by simp [nval]] at hx hy
      have Hx := Lib.hid hx
      have Hy := Lib.hid hy
      have G2 := Lib.hid (g10.out.trans g2)
      clear hx hy g2 g10
      go_wp2_with fail
      refine (ref_digit _ y _ 0 Hy.out (by decide)).mono ?_
      rintro _ _ ⟨rfl, rfl⟩
      obtain ⟨r, hr⟩ : ∃ r, m % 10 = r := ⟨_, rfl⟩
      have hr10 : r < 10 := by rw [← hr]; exact Nat.mod_lt _ (by decide)
      have hgd : gd (digs (m % 10)) 0 = r := by
        rw [hr]
        by_cases h0 : r = 0
        · subst h0; rw [digs_eq_nil.2 rfl]; rfl
        · rw [digs_one1 (by rw [BB_eq]; omega) h0]; rfl
      rw [hgd]
      have Hr := Lib.hid hr
      clear hr hgd
      obtain ⟨b, hb⟩ : ∃ b, UInt8.ofNat (48 + r) = b := ⟨_, rfl⟩
      have hbn : (48 + (r : Int)) = (b.toNat : Int) := by
        have : (UInt8.ofNat (48 + r)).toNat = 48 + r := by simp [UInt8.toNat_ofNat']; omega
        rw [← hb, this]; simp
      have Hb := Lib.hid hb
      have hcv := byte1 w2 b (48 + (r : Int)) hbn 5
      have hcat := ByteArray.mk_append_mk [b] s
      have Hcat := Lib.hid hcat
      clear hbn hcat hb
      have hl3 : s.length + 1 ≤ 9223372036854775807 := by
        have := dec_len (N := N) (L := l.length) (by rw [← HN.out]; exact nval_lt l HA.out.dig)
        omega
      go_wp2_with fail
      have gA : Gr w2 (w2.alloc (.cells #[.int .u8 (48 + (r : Int))] 5)) := (Gr.refl _).alloc _
      have hst := Hw.out.step hm0
      rw [Hr.out, Hb.out] at hst
      have hc2 : ((⟨#[b]⟩ : ByteArray) ++ ⟨s.toArray⟩) = ⟨(b :: s).toArray⟩ := Hcat.out
      rw [hc2]
      refine ⟨⟨m / 10, b :: s, Hx.out.grow gA, rfl, Hg.out.trans (G2.out.trans gA), hst, Nat.le_trans (Nat.div_le_self _ _) hmN⟩, ?_⟩
      show (decDigits N).length + 1 - (b :: s).length < (decDigits N).length + 1 - s.length
      rw [List.length_cons]
      omega
end Go.Proofs.YtmcgkglmlfbijaaGreatDoor

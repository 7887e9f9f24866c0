/-
  awake: the examples of the chapter.
-/
import Derived.Test.YtjhnbepjdpgemaaDoorNatA
namespace Go.Proofs.YtjhnbepjdpgemaaDoor
open Go.RowKit Go.Lib
set_option linter.unusedVariables false
set_option linter.unusedSimpArgs false

def bigText : List UInt8 := [49, 48, 48, 48, 48, 48, 48, 48, 48, 48, 48, 48, 48, 48, 48, 48, 48, 48, 48, 48, 48]
theorem bigText_ok : okText bigText = true := by decide
theorem bigText_val : decVal bigText = 100000000000000000000 := by decide
theorem dec1 : decDigits 18446744065119617025 = [49, 56, 52, 52, 54, 55, 52, 52, 48, 54, 53, 49, 49, 57, 54, 49, 55, 48, 50, 53] := by
  simp [decDigits]
theorem dec2 : decDigits 14285714285714285714 = [49, 52, 50, 56, 53, 55, 49, 52, 50, 56, 53, 55, 49, 52, 50, 56, 53, 55, 49, 52] := by
  simp [decDigits]
theorem digs_pair {a b : Nat} (ha : a < BB) (hb : b < BB) (h0 : b ≠ 0) : digs (b * BB + a) = [a, b] := by
  have h : nval [a, b] = b * BB + a := by simp [nval]; rw [Nat.mul_comm]; omega
  rw [← h, ← digs_trimL, (trimL_eq_self_iff _ (Dig.cons ha (Dig.cons hb Dig.nil))).2 (.inr (by simpa [gd] using h0))]
theorem digs_one1 {a : Nat} (ha : a < BB) (h0 : a ≠ 0) : digs a = [a] := by
  have h : nval [a] = a := by simp [nval]
  rw [show digs a = digs (nval [a]) by rw [h], ← digs_trimL, (trimL_eq_self_iff _ (Dig.cons ha Dig.nil)).2 (.inr (by simpa [gd] using h0))]

theorem cells_two (w : World) (a b : Nat) (ha : a < BB) (hb : b < BB) (e f : Int) (he : e = a) (hf : f = b) (t : TypeId) : NatL (w.alloc (.cells #[.int .u32 e, .int .u32 f] t)) (.slice (some ⟨w.heap.size, 0, none⟩) 2 2) [a, b] := by
  subst he hf
  refine ⟨Dig.cons ha (Dig.cons hb Dig.nil), _, 2, rfl, by simp, by omega, .inr ⟨w.heap.size, 0, rfl, fun i hi => ?_⟩⟩
  unfold World.cell?
  simp only [heap_alloc_new w _]
  have : i = 0 ∨ i = 1 := by simp at hi; omega
  rcases this with rfl | rfl <;> rfl

set_option maxRecDepth 100000 in
set_option maxHeartbeats 3200000 in
theorem law_awake (w : World) (htab : Tab w) : Calls Tryd.prog 10 #[] w (Ret w fun r w' => r = .bool true) := by
  have HT := Lib.hid htab
  clear htab
  go_enter Tryd.func10, Tryd.ntmps10
  go_wp2_with fail
  have HA := NatL.one w 4294967295 4294967295 rfl (by rw [BB_eq]; decide) 46
  have G1 := Lib.hid ((Gr.refl w).alloc (.cells #[.int .u32 4294967295] 46))
  have HA := Lib.hid HA
  generalize hb : w.heap.size = b0 at HA ⊢
  clear hb
  generalize w.alloc _ = w1 at HA G1 ⊢
  refine (nat_Parse w1 bigText (by decide)).mono ?_
  rintro _ w2 ⟨r2, rfl, g2, h2⟩
  unfold ParseRes at h2
  rw [if_pos bigText_ok, bigText_val] at h2
  obtain ⟨x, rfl, hx⟩ := h2
  have HX := Lib.hid hx
  have HA := Lib.hid (HA.out.grow g2)
  have G2 := Lib.hid (G1.out.trans g2)
  clear hx g2
  go_wp2_with fail
  have h7 := NatL.one w2 7 7 rfl (by rw [BB_eq]; decide) 46
  have g7 : Gr w2 (w2.alloc (.cells #[.int .u32 7] 46)) := (Gr.refl w2).alloc _
  refine (nat_DivMod _ _ _ (digs 100000000000000000000) [7] (HX.out.grow g7) h7 (Nat.le_trans (digs_length_le (k := 3) (by rw [BB_eq]; decide)) (by decide)) (by decide) (by simp [nval])).mono ?_
  rintro _ w3 ⟨_, rfl, g3, q, r, rfl, hq, hr⟩
  rw [nval_digs, show nval [7] = 7 by simp [nval]] at hq hr
  have HQ := Lib.hid (show NatL w3 q (digs 14285714285714285714) from hq)
  have HR := Lib.hid (show NatL w3 r (digs 2) from hr)
  have HA := Lib.hid (HA.out.grow (g7.trans g3))
  have G3 := Lib.hid (G2.out.trans (g7.trans g3))
  clear hq hr g3 g7 h7
  go_wp2_with fail
  refine (nat_Mul _ _ _ [4294967295] [4294967295] HA.out HA.out (by decide) (by decide)).mono ?_
  rintro _ w4 ⟨m1, rfl, g4, h4⟩
  rw [show nval [4294967295] * nval [4294967295] = 18446744065119617025 by simp [nval]] at h4
  have H4 := Lib.hid h4
  have HQ := Lib.hid (HQ.out.grow g4)
  have HR := Lib.hid (HR.out.grow g4)
  have HA := Lib.hid (HA.out.grow g4)
  have G4 := Lib.hid (G3.out.trans g4)
  clear h4 g4
  go_wp2_with fail
  have h5 := cells_two w4 1 4294967294 (by rw [BB_eq]; decide) (by rw [BB_eq]; decide) 1 4294967294 rfl rfl 46
  have g5 : Gr w4 (w4.alloc (.cells #[.int .u32 1, .int .u32 4294967294] 46)) := (Gr.refl w4).alloc _
  refine (n_Same _ _ _ 18446744065119617025 18446744065119617025 (H4.out.grow g5) (by
    have e : (18446744065119617025 : Nat) = 4294967294 * BB + 1 := by rw [BB_eq]
    rw [e, digs_pair (by rw [BB_eq]; decide) (by rw [BB_eq]; decide) (by decide)]; exact h5) rfl).mono ?_
  rintro _ w5 ⟨_, rfl, g6, rfl⟩
  have HQ := Lib.hid (HQ.out.grow (g5.trans g6))
  have HR := Lib.hid (HR.out.grow (g5.trans g6))
  have HA := Lib.hid (HA.out.grow (g5.trans g6))
  have G5 := Lib.hid (G4.out.trans (g5.trans g6))
  clear h5 g5 g6 H4
  go_wp2_with fail
  refine (nat_Mul _ _ _ [4294967295] [4294967295] HA.out HA.out (by decide) (by decide)).mono ?_
  rintro _ w6 ⟨m2, rfl, g7, h7⟩
  rw [show nval [4294967295] * nval [4294967295] = 18446744065119617025 by simp [nval]] at h7
  have H7 := Lib.hid h7
  have HQ := Lib.hid (HQ.out.grow g7)
  have HR := Lib.hid (HR.out.grow g7)
  have G6 := Lib.hid (G5.out.trans g7)
  clear h7 g7
  go_wp2_with fail
  refine (nat_Text _ _ _ H7.out (Nat.le_trans (digs_length_le (k := 2) (by rw [BB_eq]; decide)) (by decide)) (HT.out.grow G6.out)).mono ?_
  rintro _ w7 ⟨_, rfl, g8, rfl⟩
  rw [nval_digs, dec1]
  have HQ := Lib.hid (HQ.out.grow g8)
  have HR := Lib.hid (HR.out.grow g8)
  have G7 := Lib.hid (G6.out.trans g8)
  clear g8
  go_wp2_with fail
  refine (nat_Text _ _ _ HQ.out (Nat.le_trans (digs_length_le (k := 2) (by rw [BB_eq]; decide)) (by decide)) (HT.out.grow G7.out)).mono ?_
  rintro _ w8 ⟨_, rfl, g9, rfl⟩
  rw [nval_digs, dec2]
  have HR := Lib.hid (HR.out.grow g9)
  have G8 := Lib.hid (G7.out.trans g9)
  clear g9
  go_wp2_with fail
  have h9 := NatL.one w8 2 2 rfl (by rw [BB_eq]; decide) 46
  have g9 : Gr w8 (w8.alloc (.cells #[.int .u32 2] 46)) := (Gr.refl w8).alloc _
  refine (n_Same _ _ _ 2 2 (HR.out.grow g9) (by rw [digs_one1 (by rw [BB_eq]; decide) (by decide)]; exact h9) rfl).mono ?_
  rintro _ w9 ⟨_, rfl, g10, rfl⟩
  go_wp2_with fail
  go_ret
  exact ⟨_, rfl, G8.out.trans (g9.trans g10), rfl⟩
end Go.Proofs.YtjhnbepjdpgemaaDoor

/-
  exoduslaw03: awake; RationalLowest.
-/
import Derived.Test.YtmcgkglmlfbijaaGreatDoorRatL
namespace Go.Proofs.YtmcgkglmlfbijaaGreatDoor
open Go.RowKit Go.Lib
set_option linter.unusedVariables false
set_option linter.unusedSimpArgs false

theorem text_m32 : ratText (Rat.divInt 6 (-4)) = [45, 51, 47, 50] := by
  have h1 : (Rat.divInt 6 (-4)).den = 2 := by decide +kernel
  have h2 : (Rat.divInt 6 (-4)).num = -3 := by decide +kernel
  unfold ratText intText
  rw [h1, h2]
  simp [decDigits]

set_option maxRecDepth 100000 in
set_option maxHeartbeats 3200000 in
theorem law_awake3 (w : World) (htab : Tab w) : Calls Tryz.prog 10 #[] w (Ret w fun r w' => r = .bool true) := by
  have HTab := Lib.hid htab
  clear htab
  go_enter Tryz.func10, Tryz.ntmps10
  go_wp2_with fail
  refine (q_FracOk w 6 (-4) (by decide) (by decide) (by decide) (by decide) (by decide)).mono ?_
  rintro _ w1 ⟨_, rfl, g1, u, rfl, hu⟩
  have G := Lib.hid g1
  have HA := Lib.hid hu
  clear hu
  clear g1
  obtain ⟨s1, p1, k1, c1, e1, m1, n1, rfl⟩ := HA.out.agg
  have B := box3 w1 (.bool s1) (.slice p1 k1 c1) (.slice e1 m1 n1) 27
  have GB := Lib.hid B.1
  have T1 := Lib.hid B.2
  have T1_0 := B.2.load.1
  have T1_1 := B.2.load.2.1
  have T1_2 := B.2.load.2.2
  clear B
  go_wp2_with fail
  clear T1_0 T1_1 T1_2
  generalize w1.heap.size = b_T1 at T1 ⊢
  generalize w1.alloc _ = W1 at GB T1 ⊢
  have G := Lib.hid (G.out.trans GB.out)
  have HA := Lib.hid (HA.out.grow GB.out)
  refine (law_frac W1 (-7) 2 (by decide) (by decide) (by decide) (by decide) (by decide)).mono ?_
  rintro _ w2 ⟨r2, rfl, g2, h2⟩
  have G := Lib.hid (G.out.trans g2)
  have T1 := Lib.hid (T1.out.grow g2)
  have HA := Lib.hid (HA.out.grow g2)
  clear g2
  have H2 := Lib.hid h2
  clear h2
  obtain ⟨s2, p2, k2, c2, e2, m2, n2, rfl⟩ := H2.out.agg
  have B := box3 w2 (.bool s2) (.slice p2 k2 c2) (.slice e2 m2 n2) 27
  have GB := Lib.hid B.1
  have T1_0 := (T1.out.grow B.1).load.1
  have T1_1 := (T1.out.grow B.1).load.2.1
  have T1_2 := (T1.out.grow B.1).load.2.2
  have T3 := Lib.hid B.2
  have T3_0 := B.2.load.1
  have T3_1 := B.2.load.2.1
  have T3_2 := B.2.load.2.2
  clear B
  go_wp2_with fail
  clear T1_0 T1_1 T1_2 T3_0 T3_1 T3_2
  generalize w2.heap.size = b_T3 at T3 ⊢
  generalize w2.alloc _ = W2 at GB T3 ⊢
  have G := Lib.hid (G.out.trans GB.out)
  have T1 := Lib.hid (T1.out.grow GB.out)
  have HA := Lib.hid (HA.out.grow GB.out)
  have H2 := Lib.hid (H2.out.grow GB.out)
  refine (q_Text W2 _ _ 1 [45, 51, 47, 50] (HA.out.v (by unfold Sz; decide +kernel)) text_m32 (by decide) (by decide) (HTab.out.grow G.out)).mono ?_
  rintro _ w3 ⟨_, rfl, g3, rfl⟩
  have G := Lib.hid (G.out.trans g3)
  have T1 := Lib.hid (T1.out.grow g3)
  have T3 := Lib.hid (T3.out.grow g3)
  have HA := Lib.hid (HA.out.grow g3)
  have H2 := Lib.hid (H2.out.grow g3)
  clear g3
  have T1_0 := T1.out.load.1
  have T1_1 := T1.out.load.2.1
  have T1_2 := T1.out.load.2.2
  have T3_0 := T3.out.load.1
  have T3_1 := T3.out.load.2.1
  have T3_2 := T3.out.load.2.2
  go_wp2_with fail
  refine (law_frac w3 1 6 (by decide) (by decide) (by decide) (by decide) (by decide)).mono ?_
  rintro _ w4 ⟨r4, rfl, g4, h4⟩
  clear T1_0 T1_1 T1_2 T3_0 T3_1 T3_2
  have G := Lib.hid (G.out.trans g4)
  have T1 := Lib.hid (T1.out.grow g4)
  have T3 := Lib.hid (T3.out.grow g4)
  have HA := Lib.hid (HA.out.grow g4)
  have H2 := Lib.hid (H2.out.grow g4)
  clear g4
  have H4 := Lib.hid h4
  clear h4
  have T1_0 := T1.out.load.1
  have T1_1 := T1.out.load.2.1
  have T1_2 := T1.out.load.2.2
  have T3_0 := T3.out.load.1
  have T3_1 := T3.out.load.2.1
  have T3_2 := T3.out.load.2.2
  go_wp2_with fail
  refine (law_frac w4 1 3 (by decide) (by decide) (by decide) (by decide) (by decide)).mono ?_
  rintro _ w5 ⟨r5, rfl, g5, h5⟩
  clear T1_0 T1_1 T1_2 T3_0 T3_1 T3_2
  have G := Lib.hid (G.out.trans g5)
  have T1 := Lib.hid (T1.out.grow g5)
  have T3 := Lib.hid (T3.out.grow g5)
  have HA := Lib.hid (HA.out.grow g5)
  have H2 := Lib.hid (H2.out.grow g5)
  have H4 := Lib.hid (H4.out.grow g5)
  clear g5
  have H5 := Lib.hid h5
  clear h5
  have T1_0 := T1.out.load.1
  have T1_1 := T1.out.load.2.1
  have T1_2 := T1.out.load.2.2
  have T3_0 := T3.out.load.1
  have T3_1 := T3.out.load.2.1
  have T3_2 := T3.out.load.2.2
  go_wp2_with fail
  refine (q_Add w5 _ _ (Rat.divInt 1 6) (Rat.divInt 1 3) (Rat.divInt 1 2) 1 1 (H4.out.v (by unfold Sz; decide +kernel)) (H5.out.v (by unfold Sz; decide +kernel)) (by decide +kernel) (by decide) (by decide)).mono ?_
  rintro _ w6 ⟨r6, rfl, g6, h6⟩
  clear T1_0 T1_1 T1_2 T3_0 T3_1 T3_2
  have G := Lib.hid (G.out.trans g6)
  have T1 := Lib.hid (T1.out.grow g6)
  have T3 := Lib.hid (T3.out.grow g6)
  have HA := Lib.hid (HA.out.grow g6)
  have H2 := Lib.hid (H2.out.grow g6)
  have H4 := Lib.hid (H4.out.grow g6)
  have H5 := Lib.hid (H5.out.grow g6)
  clear g6
  have H6 := Lib.hid h6
  clear h6
  have T1_0 := T1.out.load.1
  have T1_1 := T1.out.load.2.1
  have T1_2 := T1.out.load.2.2
  have T3_0 := T3.out.load.1
  have T3_1 := T3.out.load.2.1
  have T3_2 := T3.out.load.2.2
  go_wp2_with fail
  refine (law_frac w6 1 2 (by decide) (by decide) (by decide) (by decide) (by decide)).mono ?_
  rintro _ w7 ⟨r7, rfl, g7, h7⟩
  clear T1_0 T1_1 T1_2 T3_0 T3_1 T3_2
  have G := Lib.hid (G.out.trans g7)
  have T1 := Lib.hid (T1.out.grow g7)
  have T3 := Lib.hid (T3.out.grow g7)
  have HA := Lib.hid (HA.out.grow g7)
  have H2 := Lib.hid (H2.out.grow g7)
  have H4 := Lib.hid (H4.out.grow g7)
  have H5 := Lib.hid (H5.out.grow g7)
  have H6 := Lib.hid (H6.out.grow g7)
  clear g7
  have H7 := Lib.hid h7
  clear h7
  have T1_0 := T1.out.load.1
  have T1_1 := T1.out.load.2.1
  have T1_2 := T1.out.load.2.2
  have T3_0 := T3.out.load.1
  have T3_1 := T3.out.load.2.1
  have T3_2 := T3.out.load.2.2
  go_wp2_with fail
  refine (d_SameC w7 _ _ _ _ true H6.out H7.out (by simp)).mono ?_
  rintro _ w8 ⟨_, rfl, g8, rfl⟩
  clear T1_0 T1_1 T1_2 T3_0 T3_1 T3_2
  have G := Lib.hid (G.out.trans g8)
  have T1 := Lib.hid (T1.out.grow g8)
  have T3 := Lib.hid (T3.out.grow g8)
  have HA := Lib.hid (HA.out.grow g8)
  have H2 := Lib.hid (H2.out.grow g8)
  have H4 := Lib.hid (H4.out.grow g8)
  have H5 := Lib.hid (H5.out.grow g8)
  have H6 := Lib.hid (H6.out.grow g8)
  have H7 := Lib.hid (H7.out.grow g8)
  clear g8
  have T1_0 := T1.out.load.1
  have T1_1 := T1.out.load.2.1
  have T1_2 := T1.out.load.2.2
  have T3_0 := T3.out.load.1
  have T3_1 := T3.out.load.2.1
  have T3_2 := T3.out.load.2.2
  go_wp2_with fail
  refine (q_Floor w8 _ (Rat.divInt (-7) 2) (-4) 1 (H2.out.v (by unfold Sz; decide +kernel)) (by decide +kernel) (by decide)).mono ?_
  rintro _ w9 ⟨r9, rfl, g9, h9⟩
  clear T1_0 T1_1 T1_2 T3_0 T3_1 T3_2
  have G := Lib.hid (G.out.trans g9)
  have T1 := Lib.hid (T1.out.grow g9)
  have T3 := Lib.hid (T3.out.grow g9)
  have HA := Lib.hid (HA.out.grow g9)
  have H2 := Lib.hid (H2.out.grow g9)
  have H4 := Lib.hid (H4.out.grow g9)
  have H5 := Lib.hid (H5.out.grow g9)
  have H6 := Lib.hid (H6.out.grow g9)
  have H7 := Lib.hid (H7.out.grow g9)
  clear g9
  have H9 := Lib.hid h9
  clear h9
  have T1_0 := T1.out.load.1
  have T1_1 := T1.out.load.2.1
  have T1_2 := T1.out.load.2.2
  have T3_0 := T3.out.load.1
  have T3_1 := T3.out.load.2.1
  have T3_2 := T3.out.load.2.2
  go_wp2_with fail
  refine (ref2_From w9 (-4) (by decide) (by decide)).mono ?_
  rintro _ w10 ⟨r10, rfl, g10, h10⟩
  clear T1_0 T1_1 T1_2 T3_0 T3_1 T3_2
  have G := Lib.hid (G.out.trans g10)
  have T1 := Lib.hid (T1.out.grow g10)
  have T3 := Lib.hid (T3.out.grow g10)
  have HA := Lib.hid (HA.out.grow g10)
  have H2 := Lib.hid (H2.out.grow g10)
  have H4 := Lib.hid (H4.out.grow g10)
  have H5 := Lib.hid (H5.out.grow g10)
  have H6 := Lib.hid (H6.out.grow g10)
  have H7 := Lib.hid (H7.out.grow g10)
  have H9 := Lib.hid (H9.out.grow g10)
  clear g10
  have H10 := Lib.hid h10
  clear h10
  have T1_0 := T1.out.load.1
  have T1_1 := T1.out.load.2.1
  have T1_2 := T1.out.load.2.2
  have T3_0 := T3.out.load.1
  have T3_1 := T3.out.load.2.1
  have T3_2 := T3.out.load.2.2
  go_wp2_with fail
  refine (v_Same w10 _ _ (-4) (-4) true H9.out H10.out (by decide)).mono ?_
  rintro _ w11 ⟨_, rfl, g11, rfl⟩
  clear T1_0 T1_1 T1_2 T3_0 T3_1 T3_2
  have G := Lib.hid (G.out.trans g11)
  have T1 := Lib.hid (T1.out.grow g11)
  have T3 := Lib.hid (T3.out.grow g11)
  have HA := Lib.hid (HA.out.grow g11)
  have H2 := Lib.hid (H2.out.grow g11)
  have H4 := Lib.hid (H4.out.grow g11)
  have H5 := Lib.hid (H5.out.grow g11)
  have H6 := Lib.hid (H6.out.grow g11)
  have H7 := Lib.hid (H7.out.grow g11)
  have H9 := Lib.hid (H9.out.grow g11)
  have H10 := Lib.hid (H10.out.grow g11)
  clear g11
  have T1_0 := T1.out.load.1
  have T1_1 := T1.out.load.2.1
  have T1_2 := T1.out.load.2.2
  have T3_0 := T3.out.load.1
  have T3_1 := T3.out.load.2.1
  have T3_2 := T3.out.load.2.2
  go_wp2_with fail
  refine (q_Ceil w11 _ (Rat.divInt (-7) 2) (-3) 1 (H2.out.v (by unfold Sz; decide +kernel)) (by decide +kernel) (by decide) (by decide)).mono ?_
  rintro _ w12 ⟨r12, rfl, g12, h12⟩
  clear T1_0 T1_1 T1_2 T3_0 T3_1 T3_2
  have G := Lib.hid (G.out.trans g12)
  have T1 := Lib.hid (T1.out.grow g12)
  have T3 := Lib.hid (T3.out.grow g12)
  have HA := Lib.hid (HA.out.grow g12)
  have H2 := Lib.hid (H2.out.grow g12)
  have H4 := Lib.hid (H4.out.grow g12)
  have H5 := Lib.hid (H5.out.grow g12)
  have H6 := Lib.hid (H6.out.grow g12)
  have H7 := Lib.hid (H7.out.grow g12)
  have H9 := Lib.hid (H9.out.grow g12)
  have H10 := Lib.hid (H10.out.grow g12)
  clear g12
  have H12 := Lib.hid h12
  clear h12
  have T1_0 := T1.out.load.1
  have T1_1 := T1.out.load.2.1
  have T1_2 := T1.out.load.2.2
  have T3_0 := T3.out.load.1
  have T3_1 := T3.out.load.2.1
  have T3_2 := T3.out.load.2.2
  go_wp2_with fail
  refine (ref2_From w12 (-3) (by decide) (by decide)).mono ?_
  rintro _ w13 ⟨r13, rfl, g13, h13⟩
  clear T1_0 T1_1 T1_2 T3_0 T3_1 T3_2
  have G := Lib.hid (G.out.trans g13)
  have T1 := Lib.hid (T1.out.grow g13)
  have T3 := Lib.hid (T3.out.grow g13)
  have HA := Lib.hid (HA.out.grow g13)
  have H2 := Lib.hid (H2.out.grow g13)
  have H4 := Lib.hid (H4.out.grow g13)
  have H5 := Lib.hid (H5.out.grow g13)
  have H6 := Lib.hid (H6.out.grow g13)
  have H7 := Lib.hid (H7.out.grow g13)
  have H9 := Lib.hid (H9.out.grow g13)
  have H10 := Lib.hid (H10.out.grow g13)
  have H12 := Lib.hid (H12.out.grow g13)
  clear g13
  have H13 := Lib.hid h13
  clear h13
  have T1_0 := T1.out.load.1
  have T1_1 := T1.out.load.2.1
  have T1_2 := T1.out.load.2.2
  have T3_0 := T3.out.load.1
  have T3_1 := T3.out.load.2.1
  have T3_2 := T3.out.load.2.2
  go_wp2_with fail
  refine (v_Same w13 _ _ (-3) (-3) true H12.out H13.out (by decide)).mono ?_
  rintro _ w14 ⟨_, rfl, g14, rfl⟩
  clear T1_0 T1_1 T1_2 T3_0 T3_1 T3_2
  have G := Lib.hid (G.out.trans g14)
  have T1 := Lib.hid (T1.out.grow g14)
  have T3 := Lib.hid (T3.out.grow g14)
  have HA := Lib.hid (HA.out.grow g14)
  have H2 := Lib.hid (H2.out.grow g14)
  have H4 := Lib.hid (H4.out.grow g14)
  have H5 := Lib.hid (H5.out.grow g14)
  have H6 := Lib.hid (H6.out.grow g14)
  have H7 := Lib.hid (H7.out.grow g14)
  have H9 := Lib.hid (H9.out.grow g14)
  have H10 := Lib.hid (H10.out.grow g14)
  have H12 := Lib.hid (H12.out.grow g14)
  have H13 := Lib.hid (H13.out.grow g14)
  clear g14
  have T1_0 := T1.out.load.1
  have T1_1 := T1.out.load.2.1
  have T1_2 := T1.out.load.2.2
  have T3_0 := T3.out.load.1
  have T3_1 := T3.out.load.2.1
  have T3_2 := T3.out.load.2.2
  go_wp2_with fail
  go_ret
  exact ⟨_, rfl, G.out, rfl⟩

theorem validQ_can (x : Rat) : validQ (decide (x.num < 0)) (digs x.num.natAbs) (dd x.den) = true := by
  rw [← canon_valid _ _ _ (Dig.digs _) (dd_dig _), ratv_can]
  simp
theorem v_Valid (w : World) (va : Value) (x : Rat) (L : Nat) (ha : RatC w va x) (hx : Sz L x) (hL : L ≤ 1000) :
    Calls Tryz.prog 22 #[va] w (Ret w fun r w' => r = .bool true) :=
  rat_Valid w va _ _ _ true L ha hx.1 (dd_len hx.2) hL (validQ_can x)
theorem sz_divInt {a b : Int} {L : Nat} (hb : b ≠ 0) (h1 : (digs a.natAbs).length ≤ L) (h2 : (digs b.natAbs).length ≤ L) : Sz L (Rat.divInt a b) := by
  by_cases h : 0 < b
  · rw [divInt_pos h]; exact sz_mk (by omega) h1 h2
  · rw [divInt_neg (by omega)]; exact sz_mk (by omega) (by rw [Int.natAbs_neg]; exact h1) h2
theorem mul_i32 {a b : Int} (a1 : -2147483648 ≤ a) (a2 : a ≤ 2147483647) (b1 : -2147483648 ≤ b) (b2 : b ≤ 2147483647) : -4611686018427387904 ≤ a * b ∧ a * b ≤ 4611686018427387904 := by
  have h1 : a.natAbs ≤ 2147483648 := by omega
  have h2 : b.natAbs ≤ 2147483648 := by omega
  have h3 := Nat.mul_le_mul h1 h2
  rw [← Int.natAbs_mul] at h3
  omega

set_option maxRecDepth 100000 in
set_option maxHeartbeats 3200000 in
theorem law_RationalLowest (w : World) (htab : Tab w) (a b k : Int) (a1 : -2147483648 ≤ a) (a2 : a ≤ 2147483647) (b1 : -2147483648 ≤ b) (b2 : b ≤ 2147483647) (k1 : -2147483648 ≤ k) (k2 : k ≤ 2147483647) :
    Calls Tryz.prog 4 #[.int .i32 a, .int .i32 b, .int .i32 k] w (Ret w fun r w' => r = .bool true) := by
  have HTab := Lib.hid htab
  clear htab
  have hk := mul_i32 a1 a2 k1 k2
  have hj := mul_i32 b1 b2 k1 k2
  go_enter Tryz.func4, Tryz.ntmps4
  go_wp2_with fail
  refine (law_awake3 w HTab.out).mono ?_
  rintro _ w1 ⟨_, rfl, g1, rfl⟩
  have G := Lib.hid g1
  clear g1
  go_wp2_with fail
  by_cases hb : b = 0
  · subst hb
    refine (q_FracNo w1 a (by omega) (by omega)).mono ?_
    rintro _ w2 ⟨_, rfl, g2, rfl⟩
    have G := Lib.hid (G.out.trans g2)
    clear g2
    have B := box3 w2 (.bool false) (.slice none 0 0) (.slice none 0 0) 27
    obtain ⟨P, hP⟩ : ∃ P, a * k = P := ⟨_, rfl⟩
    have p1 : -4611686018427387904 ≤ P := by rw [← hP]; exact hk.1
    have p2 : P ≤ 4611686018427387904 := by rw [← hP]; exact hk.2
    clear hk hj
    have GB := Lib.hid B.1
    have T1 := Lib.hid B.2
    have T1_0 := B.2.load.1
    have T1_1 := B.2.load.2.1
    have T1_2 := B.2.load.2.2
    clear B
    go_wp2_with fail
    clear T1_0 T1_1 T1_2
    generalize w2.heap.size = b_T1 at T1 ⊢
    generalize w2.alloc _ = W2 at GB T1 ⊢
    have G := Lib.hid (G.out.trans GB.out)
    refine (q_FracNo W2 P (by omega) (by omega)).mono ?_
    rintro _ w3 ⟨_, rfl, g3, rfl⟩
    have G := Lib.hid (G.out.trans g3)
    have T1 := Lib.hid (T1.out.grow g3)
    clear g3
    have B := box3 w3 (.bool false) (.slice none 0 0) (.slice none 0 0) 27
    have GB := Lib.hid B.1
    have T1_0 := (T1.out.grow B.1).load.1
    have T1_1 := (T1.out.grow B.1).load.2.1
    have T1_2 := (T1.out.grow B.1).load.2.2
    have T2 := Lib.hid B.2
    have T2_0 := B.2.load.1
    have T2_1 := B.2.load.2.1
    have T2_2 := B.2.load.2.2
    clear B
    go_wp2_with fail
    clear T1_0 T1_1 T1_2 T2_0 T2_1 T2_2
    generalize w3.heap.size = b_T2 at T2 ⊢
    generalize w3.alloc _ = W3 at GB T2 ⊢
    have G := Lib.hid (G.out.trans GB.out)
    have T1 := Lib.hid (T1.out.grow GB.out)
    go_ret
    exact ⟨_, rfl, G.out, rfl⟩
  · refine (q_FracOk w1 a b (by omega) (by omega) (by omega) (by omega) hb).mono ?_
    rintro _ w2 ⟨_, rfl, g2, u, rfl, hu⟩
    have G := Lib.hid (G.out.trans g2)
    clear g2
    have HX := Lib.hid hu
    clear hu
    have HSz := Lib.hid (show Sz 2 (Rat.divInt a b) from sz_divInt hb (i64_len a (by omega) (by omega)) (i64_len b (by omega) (by omega)))
    obtain ⟨s1, p1, c0, c1, e1, m1, n1, rfl⟩ := HX.out.agg
    have B := box3 w2 (.bool s1) (.slice p1 c0 c1) (.slice e1 m1 n1) 27
    by_cases hk0 : k = 0
    · subst hk0
      clear hk hj
      have GB := Lib.hid B.1
      have T1 := Lib.hid B.2
      have T1_0 := B.2.load.1
      have T1_1 := B.2.load.2.1
      have T1_2 := B.2.load.2.2
      clear B
      go_wp2_with fail
      clear T1_0 T1_1 T1_2
      generalize w2.heap.size = b_T1 at T1 ⊢
      generalize w2.alloc _ = W2 at GB T1 ⊢
      have G := Lib.hid (G.out.trans GB.out)
      have HX := Lib.hid (HX.out.grow GB.out)
      refine (q_FracNo W2 0 (by omega) (by omega)).mono ?_
      rintro _ w3 ⟨_, rfl, g3, rfl⟩
      have G := Lib.hid (G.out.trans g3)
      have T1 := Lib.hid (T1.out.grow g3)
      have HX := Lib.hid (HX.out.grow g3)
      clear g3
      have B := box3 w3 (.bool false) (.slice none 0 0) (.slice none 0 0) 27
      have GB := Lib.hid B.1
      have T1_0 := (T1.out.grow B.1).load.1
      have T1_1 := (T1.out.grow B.1).load.2.1
      have T1_2 := (T1.out.grow B.1).load.2.2
      have T2 := Lib.hid B.2
      have T2_0 := B.2.load.1
      have T2_1 := B.2.load.2.1
      have T2_2 := B.2.load.2.2
      clear B
      go_wp2_with fail
      clear T1_0 T1_1 T1_2 T2_0 T2_1 T2_2
      generalize w3.heap.size = b_T2 at T2 ⊢
      generalize w3.alloc _ = W3 at GB T2 ⊢
      have G := Lib.hid (G.out.trans GB.out)
      have T1 := Lib.hid (T1.out.grow GB.out)
      have HX := Lib.hid (HX.out.grow GB.out)
      go_ret
      exact ⟨_, rfl, G.out, rfl⟩
    · obtain ⟨P, hP⟩ : ∃ P, a * k = P := ⟨_, rfl⟩
      have q1 : -4611686018427387904 ≤ P := by rw [← hP]; exact hk.1
      have q2 : P ≤ 4611686018427387904 := by rw [← hP]; exact hk.2
      obtain ⟨Q, hQ⟩ : ∃ Q, b * k = Q := ⟨_, rfl⟩
      have q3 : -4611686018427387904 ≤ Q := by rw [← hQ]; exact hj.1
      have q4 : Q ≤ 4611686018427387904 := by rw [← hQ]; exact hj.2
      have hQ0 : Q ≠ 0 := by rw [← hQ]; exact Int.mul_ne_zero hb hk0
      have HE := Lib.hid (show Rat.divInt P Q = Rat.divInt a b by rw [← hP, ← hQ]; exact Rat.divInt_mul_right hk0)
      clear hk hj
      have GB := Lib.hid B.1
      have T1 := Lib.hid B.2
      have T1_0 := B.2.load.1
      have T1_1 := B.2.load.2.1
      have T1_2 := B.2.load.2.2
      clear B
      go_wp2_with fail
      clear T1_0 T1_1 T1_2
      generalize w2.heap.size = b_T1 at T1 ⊢
      generalize w2.alloc _ = W2 at GB T1 ⊢
      have G := Lib.hid (G.out.trans GB.out)
      have HX := Lib.hid (HX.out.grow GB.out)
      refine (q_FracOk W2 P Q (by omega) (by omega) (by omega) (by omega) hQ0).mono ?_
      rintro _ w3 ⟨_, rfl, g3, u, rfl, hu⟩
      have G := Lib.hid (G.out.trans g3)
      have T1 := Lib.hid (T1.out.grow g3)
      have HX := Lib.hid (HX.out.grow g3)
      clear g3
      rw [HE.out] at hu
      have HY := Lib.hid hu
      clear hu
      obtain ⟨s2, p2, c2, c3, e2, m2, n2, rfl⟩ := HY.out.agg
      have B := box3 w3 (.bool s2) (.slice p2 c2 c3) (.slice e2 m2 n2) 27
      have GB := Lib.hid B.1
      have T1_0 := (T1.out.grow B.1).load.1
      have T1_1 := (T1.out.grow B.1).load.2.1
      have T1_2 := (T1.out.grow B.1).load.2.2
      have T2 := Lib.hid B.2
      have T2_0 := B.2.load.1
      have T2_1 := B.2.load.2.1
      have T2_2 := B.2.load.2.2
      clear B
      go_wp2_with fail
      clear T1_0 T1_1 T1_2 T2_0 T2_1 T2_2
      generalize w3.heap.size = b_T2 at T2 ⊢
      generalize w3.alloc _ = W3 at GB T2 ⊢
      have G := Lib.hid (G.out.trans GB.out)
      have T1 := Lib.hid (T1.out.grow GB.out)
      have HX := Lib.hid (HX.out.grow GB.out)
      have HY := Lib.hid (HY.out.grow GB.out)
      refine (d_SameC W3 _ _ _ _ true HX.out HY.out (by simp)).mono ?_
      rintro _ w4 ⟨_, rfl, g4, rfl⟩
      have G := Lib.hid (G.out.trans g4)
      have T1 := Lib.hid (T1.out.grow g4)
      have T2 := Lib.hid (T2.out.grow g4)
      have HX := Lib.hid (HX.out.grow g4)
      have HY := Lib.hid (HY.out.grow g4)
      clear g4
      have T1_0 := T1.out.load.1
      have T1_1 := T1.out.load.2.1
      have T1_2 := T1.out.load.2.2
      have T2_0 := T2.out.load.1
      have T2_1 := T2.out.load.2.1
      have T2_2 := T2.out.load.2.2
      go_wp2_with fail
      refine (v_Valid w4 _ _ 2 HX.out HSz.out (by decide)).mono ?_
      rintro _ w5 ⟨_, rfl, g5, rfl⟩
      clear T1_0 T1_1 T1_2 T2_0 T2_1 T2_2
      have G := Lib.hid (G.out.trans g5)
      have T1 := Lib.hid (T1.out.grow g5)
      have T2 := Lib.hid (T2.out.grow g5)
      have HX := Lib.hid (HX.out.grow g5)
      have HY := Lib.hid (HY.out.grow g5)
      clear g5
      go_wp2_with fail
      go_ret
      exact ⟨_, rfl, G.out, rfl⟩
end Go.Proofs.YtmcgkglmlfbijaaGreatDoor

/-
  IntegerSmall: values of 31 bits.
-/
import Derived.Test.YtpjblmedcipopaaLawF
import Derived.Test.YtpjblmedcipopaaIntI
import Derived.Test.YtpjblmedcipopaaFast
namespace Go.Proofs.Ytpjblmedcipopaa
open Go.RowKit
set_option linter.unusedVariables false
set_option linter.unusedSimpArgs false

theorem fits_of {z : Int} (h1 : -9223372036854775808 ≤ z) (h2 : z < 9223372036854775808) : fits z = true := decide_eq_true ⟨h1, h2⟩

set_option maxRecDepth 100000 in
set_option maxHeartbeats 800000 in
theorem law_Small1 (w : World) (va : Value) (z : Int) (h1 : -9223372036854775808 ≤ z) (h2 : z < 9223372036854775808) (ha : IntC w va z) :
    Calls Try.prog 29 #[va, .int .i64 z] w (Ret w fun r w' => r = .bool true) := by
  have HA := Lib.hid (show IntL w va (decide (z < 0)) (digs z.natAbs) from ha)
  obtain ⟨pa, ka, ca, rfl, ha⟩ := ha
  obtain ⟨s, hs⟩ : ∃ s, decide (z < 0) = s := ⟨_, rfl⟩
  rw [hs] at HA ⊢
  have B := boxed1 w (.bool s) (.slice pa ka ca) 25
  have Hf := Lib.hid (fits_of h1 h2)
  have Hz := Lib.hid (show zval s (digs z.natAbs) = z by rw [← hs]; exact zval_can z)
  clear ha hs h1 h2
  go_enter Try.func29, Try.ntmps29
  go_wp2_with fail
  generalize w.alloc _ = W at B ⊢
  obtain ⟨G0, ta⟩ := B
  have HW := Lib.hid G0
  have c0 := ta.c0 W (Gr.refl _)
  have c1 := ta.c1 W (Gr.refl _)
  clear ta G0
  go_wp2_with fail
  refine (int_Int64 _ _ s _ z true Hz.out Hf.out (HA.out.grow HW.out)).mono ?_
  rintro _ w1 ⟨_, rfl, g, rfl⟩
  go_wp2_with fail
  go_ret
  exact ⟨_, rfl, HW.out.trans g, by simp⟩

theorem quo_t (x y : Int) : quoZ false x y = x.tdiv y := by
  unfold quoZ
  simp only [Bool.false_and, Bool.false_eq_true, if_false, Nat.add_zero]
  have key : ∀ (m n : Nat), (((m / n : Nat) : Int)) = Int.tdiv m n := fun m n => rfl
  rcases Int.lt_trichotomy x 0 with hx | hx | hx <;> rcases Int.lt_trichotomy y 0 with hy | hy | hy
  all_goals (try subst hx) <;> (try subst hy)
  · obtain ⟨m, rfl⟩ : ∃ m : Nat, x = -m := ⟨x.natAbs, by omega⟩
    obtain ⟨n, rfl⟩ : ∃ n : Nat, y = -n := ⟨y.natAbs, by omega⟩
    rw [sgn_of_neg hx, sgn_of_neg hy, if_neg (by decide), Int.neg_tdiv, Int.tdiv_neg, Int.neg_neg, Int.natAbs_neg, Int.natAbs_neg]
    rfl
  · simp [sgn]
  · obtain ⟨m, rfl⟩ : ∃ m : Nat, x = -m := ⟨x.natAbs, by omega⟩
    obtain ⟨n, rfl⟩ : ∃ n : Nat, y = n := ⟨y.natAbs, by omega⟩
    rw [sgn_of_neg hx, sgn_of_pos hy, if_pos (by decide), Int.neg_tdiv, Int.natAbs_neg]
    rfl
  · simp [sgn]
  · simp [sgn]
  · simp [sgn]
  · obtain ⟨m, rfl⟩ : ∃ m : Nat, x = m := ⟨x.natAbs, by omega⟩
    obtain ⟨n, rfl⟩ : ∃ n : Nat, y = -n := ⟨y.natAbs, by omega⟩
    rw [sgn_of_pos hx, sgn_of_neg hy, if_pos (by decide), Int.tdiv_neg, Int.natAbs_neg]
    rfl
  · simp [sgn]
  · obtain ⟨m, rfl⟩ : ∃ m : Nat, x = m := ⟨x.natAbs, by omega⟩
    obtain ⟨n, rfl⟩ : ∃ n : Nat, y = n := ⟨y.natAbs, by omega⟩
    rw [sgn_of_pos hx, sgn_of_pos hy, if_neg (by decide)]
    rfl
theorem rem_t (x y : Int) : x - quoZ false x y * y = x.tmod y := by
  rw [quo_t, Int.tmod_def, Int.mul_comm]

theorem floor_t (x y : Int) (hy : y ≠ 0) : quoZ true x y = (if x.tmod y ≠ 0 ∧ (decide (x.tmod y < 0)) ≠ decide (y < 0) then x.tdiv y - 1 else x.tdiv y) := by
  have h1 := quo_facts false x y hy
  have h2 := quo_facts true x y hy
  rw [← rem_t, ← quo_t]
  generalize quoZ false x y = q at *
  have e : x - quoZ true x y * y = (x - q * y) - (quoZ true x y - q) * y := by rw [Int.sub_mul]; omega
  generalize hf : quoZ true x y = f at *
  generalize x - q * y = r at *
  simp only [if_true] at h2
  rw [e] at h2
  obtain ⟨d, hd⟩ : ∃ d, f - q = d := ⟨_, rfl⟩
  rw [hd] at h2
  have hd3 : d = -1 ∨ d = 0 ∨ d = 1 := by
    by_cases h : 2 ≤ d.natAbs
    · have h3 := Nat.mul_le_mul_right y.natAbs h
      rw [← Int.natAbs_mul] at h3
      generalize d * y = m at *
      omega
    · omega
  have hs : ∀ g : Int, g = 0 ∨ sgn g = sgn y → g = 0 ∨ (g < 0 ↔ y < 0) := fun g h => h.imp id fun h => by
    unfold sgn at h
    split at h <;> split at h <;> (try split at h) <;> (try split at h) <;> omega
  have h4 := hs _ h2.2
  have h5 := h2.1
  have h6 := h1.1
  clear h1 h2 hs hf e
  have hf : f = q + d := by omega
  subst hf
  by_cases hr : r = 0
  · subst hr
    rw [if_neg (by simp)]
    rcases hd3 with rfl | rfl | rfl <;> omega
  · by_cases hrn : r < 0 <;> by_cases hyn : y < 0
    · rw [if_neg (by simp [hrn, hyn])]
      rcases hd3 with rfl | rfl | rfl <;> omega
    · rw [if_pos (by simp [hrn, hyn, hr])]
      rcases hd3 with rfl | rfl | rfl <;> omega
    · rw [if_pos (by simp [hrn, hyn, hr])]
      rcases hd3 with rfl | rfl | rfl <;> omega
    · rw [if_neg (by simp [hrn, hyn])]
      rcases hd3 with rfl | rfl | rfl <;> omega

theorem sign_cases (r y : Int) (hy : y ≠ 0) : r = 0 ∨ (r ≠ 0 ∧ r < 0 ∧ y < 0) ∨ (r ≠ 0 ∧ r < 0 ∧ ¬ y < 0) ∨ (r ≠ 0 ∧ ¬ r < 0 ∧ y < 0) ∨ (r ≠ 0 ∧ ¬ r < 0 ∧ ¬ y < 0) := by omega
theorem natAbs_31 {z : Int} (h1 : -2147483648 ≤ z) (h2 : z ≤ 2147483647) : z.natAbs ≤ 2147483648 := by omega
theorem mul_small {x y : Int} (a1 : -2147483648 ≤ x) (a2 : x ≤ 2147483647) (b1 : -2147483648 ≤ y) (b2 : y ≤ 2147483647) : -4611686018427387904 ≤ x * y ∧ x * y ≤ 4611686018427387904 := by
  have h := Nat.mul_le_mul (natAbs_31 a1 a2) (natAbs_31 b1 b2)
  rw [← Int.natAbs_mul] at h
  generalize x * y = z at *
  omega
theorem tdiv_small {x y : Int} (a1 : -2147483648 ≤ x) (a2 : x ≤ 2147483647) : -2147483648 ≤ x.tdiv y ∧ x.tdiv y ≤ 2147483648 := by
  have h : (x.tdiv y).natAbs ≤ x.natAbs := by rw [Int.natAbs_tdiv]; exact Nat.div_le_self _ _
  have h2 := natAbs_31 a1 a2
  generalize x.tdiv y = z at *
  omega
theorem tmod_small {x y : Int} (b1 : -2147483648 ≤ y) (b2 : y ≤ 2147483647) (hy : y ≠ 0) : -2147483648 ≤ x.tmod y ∧ x.tmod y ≤ 2147483648 := by
  have h := (quo_facts false x y hy).1
  rw [rem_t] at h
  have h2 := natAbs_31 b1 b2
  generalize x.tmod y = z at *
  omega

set_option maxRecDepth 100000 in
set_option maxHeartbeats 6400000 in
theorem law_Small (w : World) (z0 : Int) (i0 : -2147483648 ≤ z0) (j0 : z0 ≤ 2147483647) (z1 : Int) (i1 : -2147483648 ≤ z1) (j1 : z1 ≤ 2147483647) :
    Calls Try.prog 7 #[.int .i32 z0, .int .i32 z1] w (Ret w fun r w' => r = .bool true) := by
  go_enter Try.func7, Try.ntmps7
  go_wp2_with fail
  refine (law_awake w).mono ?_
  rintro _ w1 ⟨_, rfl, g1, rfl⟩
  have G := Lib.hid g1
  clear g1
  go_wp2_with fail
  refine (int_From _ z0 (by omega) (by omega)).mono ?_
  rintro _ w2 ⟨r2, rfl, g2, h2⟩
  have G := Lib.hid (G.out.trans g2)
  have I0 := Lib.hid h2
  clear g2
  obtain ⟨p0, k0, c0, rfl, _⟩ := h2
  go_wp2_with fail
  refine (int_From _ z1 (by omega) (by omega)).mono ?_
  rintro _ w3 ⟨r3, rfl, g3, h3⟩
  have G := Lib.hid (G.out.trans g3)
  have I1 := Lib.hid h3
  have I0 := Lib.hid (I0.out.grow g3)
  clear g3
  obtain ⟨p1, k1, c1, rfl, _⟩ := h3
  obtain ⟨s0, hs0⟩ : ∃ s, decide (z0 < 0) = s := ⟨_, rfl⟩
  obtain ⟨s1, hs1⟩ : ∃ s, decide (z1 < 0) = s := ⟨_, rfl⟩
  rw [hs0] at I0 ⊢
  rw [hs1] at I1 ⊢
  clear hs0 hs1
  have B := boxed2 w3 (.bool s0) (.slice p0 k0 c0) (.bool s1) (.slice p1 k1 c1) 25 25
  obtain ⟨GB, t0, t1⟩ := B
  have a0 := t0.c0 _ (Gr.refl _)
  have d0 := t0.c1 _ (Gr.refl _)
  have a1 := t1.c0 _ (Gr.refl _)
  have d1 := t1.c1 _ (Gr.refl _)
  have G := Lib.hid (G.out.trans GB)
  have I0 := Lib.hid (I0.out.grow GB)
  have I1 := Lib.hid (I1.out.grow GB)
  have T0 := Lib.hid t0
  have T1 := Lib.hid t1
  clear t0 t1 GB
  go_wp2_with fail
  clear a0 a1 d0 d1
  generalize (w3.alloc _).alloc _ = W at G I0 I1 T0 T1 ⊢
  have hL0 := digs_one z0 1 (by omega) (by omega) (by decide)
  have hL1 := digs_one z1 1 (by omega) (by omega) (by decide)
  have V0 := Lib.hid (I0.out.v hL0)
  have V1 := Lib.hid (I1.out.v hL1)
  obtain ⟨m1, m2⟩ := mul_small i0 j0 i1 j1
  clear I0 I1
  refine (v_Add _ _ _ _ _ (z0 + z1) 1 1 V0.out V1.out rfl (by decide) (by decide)).mono ?_
  rintro _ w4 ⟨_, rfl, gn, hr⟩
  have V0 := Lib.hid (V0.out.grow gn)
  have V1 := Lib.hid (V1.out.grow gn)
  have T0 := Lib.hid (T0.out.grow gn)
  have T1 := Lib.hid (T1.out.grow gn)
  have G := Lib.hid (G.out.trans gn)
  clear gn
  go_wp2_with fail
  refine (law_Small1 _ _ (z0 + z1) (by omega) (by omega) hr.1).mono ?_
  clear hr
  rintro _ w5 ⟨_, rfl, gn, rfl⟩
  have V0 := Lib.hid (V0.out.grow gn)
  have V1 := Lib.hid (V1.out.grow gn)
  have T0 := Lib.hid (T0.out.grow gn)
  have T1 := Lib.hid (T1.out.grow gn)
  have G := Lib.hid (G.out.trans gn)
  clear gn
  have a0 := T0.out.c0 w5 (Gr.refl _)
  have d0 := T0.out.c1 w5 (Gr.refl _)
  have a1 := T1.out.c0 w5 (Gr.refl _)
  have d1 := T1.out.c1 w5 (Gr.refl _)
  go_wp2_with fail
  clear a0 a1 d0 d1
  refine (v_Sub _ _ _ _ _ (z0 - z1) 1 1 V0.out V1.out rfl (by decide) (by decide)).mono ?_
  rintro _ w6 ⟨_, rfl, gn, hr⟩
  have V0 := Lib.hid (V0.out.grow gn)
  have V1 := Lib.hid (V1.out.grow gn)
  have T0 := Lib.hid (T0.out.grow gn)
  have T1 := Lib.hid (T1.out.grow gn)
  have G := Lib.hid (G.out.trans gn)
  clear gn
  go_wp2_with fail
  refine (law_Small1 _ _ (z0 - z1) (by omega) (by omega) hr.1).mono ?_
  clear hr
  rintro _ w7 ⟨_, rfl, gn, rfl⟩
  have V0 := Lib.hid (V0.out.grow gn)
  have V1 := Lib.hid (V1.out.grow gn)
  have T0 := Lib.hid (T0.out.grow gn)
  have T1 := Lib.hid (T1.out.grow gn)
  have G := Lib.hid (G.out.trans gn)
  clear gn
  have a0 := T0.out.c0 w7 (Gr.refl _)
  have d0 := T0.out.c1 w7 (Gr.refl _)
  have a1 := T1.out.c0 w7 (Gr.refl _)
  have d1 := T1.out.c1 w7 (Gr.refl _)
  go_wp2_with fail
  clear a0 a1 d0 d1
  refine (v_Mul _ _ _ _ _ (z0 * z1) 1 1 V0.out V1.out rfl (by decide) (by decide)).mono ?_
  rintro _ w8 ⟨_, rfl, gn, hr⟩
  have V0 := Lib.hid (V0.out.grow gn)
  have V1 := Lib.hid (V1.out.grow gn)
  have T0 := Lib.hid (T0.out.grow gn)
  have T1 := Lib.hid (T1.out.grow gn)
  have G := Lib.hid (G.out.trans gn)
  clear gn
  go_wp2_with fail
  refine (law_Small1 _ _ (z0 * z1) (by omega) (by omega) hr.1).mono ?_
  clear hr
  rintro _ w9 ⟨_, rfl, gn, rfl⟩
  have V0 := Lib.hid (V0.out.grow gn)
  have V1 := Lib.hid (V1.out.grow gn)
  have T0 := Lib.hid (T0.out.grow gn)
  have T1 := Lib.hid (T1.out.grow gn)
  have G := Lib.hid (G.out.trans gn)
  clear gn
  by_cases hz : z1 = 0
  · subst hz
    go_wp2_with fail
    go_ret
    exact ⟨_, rfl, G.out, rfl⟩
  · have b1 : -2147483648 ≤ z0.tdiv z1 ∧ z0.tdiv z1 ≤ 2147483648 := tdiv_small i0 j0
    have b2 : -2147483648 ≤ z0.tmod z1 ∧ z0.tmod z1 ≤ 2147483648 := tmod_small i1 j1 hz
    obtain ⟨Q, hQ⟩ : ∃ Q, z0.tdiv z1 = Q := ⟨_, rfl⟩
    obtain ⟨R, hR⟩ : ∃ R, z0.tmod z1 = R := ⟨_, rfl⟩
    rw [hQ] at b1
    rw [hR] at b2
    obtain ⟨b1, b3⟩ := b1
    obtain ⟨b2, b4⟩ := b2
    have HQ := Lib.hid hQ
    have HR := Lib.hid hR
    have FQ := Lib.hid (show quoZ false z0 z1 = Q by rw [quo_t]; exact hQ)
    have FR := Lib.hid (show z0 - Q * z1 = R by rw [← FQ.out, rem_t]; exact hR)
    have FL := Lib.hid (floor_t z0 z1 hz)
    have a0 := T0.out.c0 w9 (Gr.refl _)
    have d0 := T0.out.c1 w9 (Gr.refl _)
    have a1 := T1.out.c0 w9 (Gr.refl _)
    have d1 := T1.out.c1 w9 (Gr.refl _)
    go_wp2_with fail
    clear a0 a1 d0 d1
    refine (v_QuoV _ _ _ z0 z1 Q 1 1 V0.out V1.out (by decide) (by decide) hz FQ.out).mono ?_
    rintro _ w20 ⟨_, rfl, gn, na, pa, ka, ca, ma, oa, la, ea, rfl, hq, hs⟩
    have B := boxed2 w20 (.bool na) (.slice pa ka ca) (.bool ma) (.slice oa la ea) 25 25
    obtain ⟨GB, tq, tr⟩ := B
    have KQ := Lib.hid (hq.grow GB)
    have KR := Lib.hid (hs.grow GB)
    have V0 := Lib.hid (V0.out.grow (gn.trans GB))
    have V1 := Lib.hid (V1.out.grow (gn.trans GB))
    have T0 := Lib.hid (T0.out.grow (gn.trans GB))
    have T1 := Lib.hid (T1.out.grow (gn.trans GB))
    have a0 := T0.out.c0 _ (Gr.refl _)
    have d0 := T0.out.c1 _ (Gr.refl _)
    have a1 := T1.out.c0 _ (Gr.refl _)
    have d1 := T1.out.c1 _ (Gr.refl _)
    have G := Lib.hid (G.out.trans (gn.trans GB))
    have TQ := Lib.hid tq
    have TR := Lib.hid tr
    clear tq tr GB gn hq hs
    go_wp2_with fail
    clear a0 a1 d0 d1
    generalize (w20.alloc _).alloc _ = W21 at V0 V1 T0 T1 TQ TR KQ KR G ⊢
    obtain ⟨F, hF⟩ : ∃ F, quoZ true z0 z1 = F := ⟨_, rfl⟩
    have HF := Lib.hid hF
    clear hF hQ hR
    refine (v_FloorV _ _ _ z0 z1 F 1 1 V0.out V1.out (by decide) (by decide) hz HF.out).mono ?_
    rintro _ w22 ⟨_, rfl, gn, nf, pf, kf, cf, mf, of, lf, ef, rfl, hq, hs⟩
    have B := boxed2 w22 (.bool nf) (.slice pf kf cf) (.bool mf) (.slice of lf ef) 25 25
    obtain ⟨GB, tq, tr⟩ := B
    have KF := Lib.hid (hq.grow GB)
    have KG := Lib.hid (hs.grow GB)
    have V0 := Lib.hid (V0.out.grow (gn.trans GB))
    have V1 := Lib.hid (V1.out.grow (gn.trans GB))
    have T0 := Lib.hid (T0.out.grow (gn.trans GB))
    have T1 := Lib.hid (T1.out.grow (gn.trans GB))
    have TQ := Lib.hid (TQ.out.grow (gn.trans GB))
    have TR := Lib.hid (TR.out.grow (gn.trans GB))
    have KQ := Lib.hid (KQ.out.grow (gn.trans GB))
    have KR := Lib.hid (KR.out.grow (gn.trans GB))
    have a0 := T0.out.c0 _ (Gr.refl _)
    have d0 := T0.out.c1 _ (Gr.refl _)
    have a1 := T1.out.c0 _ (Gr.refl _)
    have d1 := T1.out.c1 _ (Gr.refl _)
    have G := Lib.hid (G.out.trans (gn.trans GB))
    have TF := Lib.hid tq
    have TG := Lib.hid tr
    clear tq tr GB gn hq hs
    have e1 := HQ.out
    have e2 := HR.out
    go_wp2_with fail
    clear a0 a1 d0 d1
    generalize (w22.alloc _).alloc _ = W23 at V0 V1 T0 T1 TQ TR KQ KR TF TG KF KG G ⊢
    have wQ : IntKind.i64.wrap Q = Q := by rw [IntKind.wrap_i64]; omega
    have wR : IntKind.i64.wrap R = R := by rw [IntKind.wrap_i64]; omega
    have FL : (if R ≠ 0 ∧ decide (R < 0) ≠ decide (z1 < 0) then Q - 1 else Q) = F := by rw [← HF.out, FL.out, e1, e2]
    have hFG : z0 - F * z1 = R + (Q - F) * z1 := by rw [← FR.out, Int.sub_mul]; omega
    rw [hFG] at KG
    clear hFG
    refine wp_region_fast [(0, true), (1, true), (2, true), (3, true), (4, true), (5, true), (6, true), (7, true)] (by kernel_rfl) (by kernel_rfl) rfl (by kernel_rfl) (fun _ _ d _ _ h => by cases d <;> exact h) ?_
    have g0 : Gr W23 W23.drew := (Gr.refl _).drew
    repeat (refine wpE_readB (v := ?_) g0 rfl rfl (fun w' hg => ?_) (fun K hK => ?_); rotate_left; (go_simp; rfl); go_simp; refine hK _ _ ?_; clear hK K)
    refine wpE_nil ?_
    have G := Lib.hid (G.out.trans g0)
    have TQ := Lib.hid (TQ.out.grow g0)
    have TR := Lib.hid (TR.out.grow g0)
    have TF := Lib.hid (TF.out.grow g0)
    have TG := Lib.hid (TG.out.grow g0)
    have KQ := Lib.hid (KQ.out.grow g0)
    have KR := Lib.hid (KR.out.grow g0)
    have KF := Lib.hid (KF.out.grow g0)
    have KG := Lib.hid (KG.out.grow g0)
    clear T0 T1 V0 V1 g0
    generalize W23.drew = W24 at *
    have KR := Lib.hid (show IntC W24 _ R by have h := KR.out; rw [FR.out] at h; exact h)
    rcases sign_cases R z1 hz with rfl | ⟨x1, x2, x3⟩ | ⟨x1, x2, x3⟩ | ⟨x1, x2, x3⟩ | ⟨x1, x2, x3⟩
    · rw [if_neg (by simp)] at FL
      obtain rfl : Q = F := FL
      have KG := Lib.hid (show IntC W24 _ 0 by have h := KG.out; rw [Int.sub_self, Int.zero_mul, Int.add_zero] at h; exact h)
      go_wp2_with fail
      have q0 := TQ.out.c0
      have q1 := TQ.out.c1
      have r0 := TR.out.c0
      have r1 := TR.out.c1
      have f0 := TF.out.c0
      have f1 := TF.out.c1
      have g0 := TG.out.c0
      have g1 := TG.out.c1
      refine wp_region_fast [(0, true), (1, true), (2, true), (3, true), (4, true), (5, true), (6, true), (7, true), (8, true), (9, true), (10, true), (11, true), (12, false), (13, true), (14, true), (15, true), (16, true), (17, true), (18, true), (19, true), (20, false), (21, true), (22, true), (23, true), (24, true), (25, true), (26, false), (27, true), (28, true), (29, true), (30, true), (31, true), (32, false), (33, true), (34, true)] (by kernel_rfl) (by kernel_rfl) rfl (by kernel_rfl) (fun _ _ d _ _ h => by cases d <;> exact h) ?_
      have h0 : Gr W24 W24.drew := (Gr.refl _).drew
      repeat (refine wpE_readB (v := ?_) h0 rfl rfl (fun w' hg => ?_) (fun K hK => ?_); rotate_left; (go_simp; rfl); go_simp; refine hK _ _ ?_; clear hK K)
      refine wpE_fn (args := ?_) rfl rfl rfl rfl rfl rfl (by kernel_rfl) (by kernel_rfl) ?_ (fun K hK => ?_)
      rotate_left
      · go_simp; rfl
      refine (law_Small1 _ _ (Q) (by omega) (by omega) (KQ.out.grow h0)).mono ?_
      rintro _ v1 ⟨_, rfl, gn, rfl⟩
      refine ⟨_, rfl, gn, ?_⟩
      go_simp
      refine hK _ _ ?_
      clear hK K
      have h1 := h0.trans gn
      clear gn h0
      repeat (refine wpE_readB (v := ?_) h1 rfl rfl (fun w' hg => ?_) (fun K hK => ?_); rotate_left; (go_simp; rfl); go_simp; refine hK _ _ ?_; clear hK K)
      refine wpE_fn (args := ?_) rfl rfl rfl rfl rfl rfl (by kernel_rfl) (by kernel_rfl) ?_ (fun K hK => ?_)
      rotate_left
      · go_simp; rfl
      refine (law_Small1 _ _ (0) (by omega) (by omega) (KR.out.grow h1)).mono ?_
      rintro _ v2 ⟨_, rfl, gn, rfl⟩
      refine ⟨_, rfl, gn, ?_⟩
      go_simp
      refine hK _ _ ?_
      clear hK K
      have h2 := h1.trans gn
      clear gn h1
      repeat (refine wpE_readB (v := ?_) h2 rfl rfl (fun w' hg => ?_) (fun K hK => ?_); rotate_left; (go_simp; rfl); go_simp; refine hK _ _ ?_; clear hK K)
      refine wpE_fn (args := ?_) rfl rfl rfl rfl rfl rfl (by kernel_rfl) (by kernel_rfl) ?_ (fun K hK => ?_)
      rotate_left
      · go_simp; rfl
      refine (law_Small1 _ _ (Q) (by omega) (by omega) (KF.out.grow h2)).mono ?_
      rintro _ v3 ⟨_, rfl, gn, rfl⟩
      refine ⟨_, rfl, gn, ?_⟩
      go_simp
      refine hK _ _ ?_
      clear hK K
      have h3 := h2.trans gn
      clear gn h2
      repeat (refine wpE_readB (v := ?_) h3 rfl rfl (fun w' hg => ?_) (fun K hK => ?_); rotate_left; (go_simp; rfl); go_simp; refine hK _ _ ?_; clear hK K)
      refine wpE_fn (args := ?_) rfl rfl rfl rfl rfl rfl (by kernel_rfl) (by kernel_rfl) ?_ (fun K hK => ?_)
      rotate_left
      · go_simp; rfl
      refine (law_Small1 _ _ (0) (by omega) (by omega) (KG.out.grow h3)).mono ?_
      rintro _ v4 ⟨_, rfl, gn, rfl⟩
      refine ⟨_, rfl, gn, ?_⟩
      go_simp
      refine hK _ _ ?_
      clear hK K
      have h4 := h3.trans gn
      clear gn h3
      repeat (refine wpE_readB (v := ?_) h4 rfl rfl (fun w' hg => ?_) (fun K hK => ?_); rotate_left; (go_simp; rfl); go_simp; refine hK _ _ ?_; clear hK K)
      refine wpE_nil ?_
      go_wp2_with fail
      go_ret
      exact ⟨_, rfl, G.out.trans h4, rfl⟩
    · rw [if_neg (by simp [x1, x2, x3])] at FL
      obtain rfl : Q = F := FL
      have KG := Lib.hid (show IntC W24 _ R by have h := KG.out; rw [Int.sub_self, Int.zero_mul, Int.add_zero] at h; exact h)
      go_wp2_with fail
      have q0 := TQ.out.c0
      have q1 := TQ.out.c1
      have r0 := TR.out.c0
      have r1 := TR.out.c1
      have f0 := TF.out.c0
      have f1 := TF.out.c1
      have g0 := TG.out.c0
      have g1 := TG.out.c1
      refine wp_region_fast [(0, true), (1, true), (2, true), (3, true), (4, true), (5, true), (6, true), (7, true), (8, true), (9, true), (10, true), (11, true), (12, false), (13, true), (14, true), (15, true), (16, true), (17, true), (18, true), (19, true), (20, false), (21, true), (22, true), (23, true), (24, true), (25, true), (26, false), (27, true), (28, true), (29, true), (30, true), (31, true), (32, false), (33, true), (34, true)] (by kernel_rfl) (by kernel_rfl) rfl (by kernel_rfl) (fun _ _ d _ _ h => by cases d <;> exact h) ?_
      have h0 : Gr W24 W24.drew := (Gr.refl _).drew
      repeat (refine wpE_readB (v := ?_) h0 rfl rfl (fun w' hg => ?_) (fun K hK => ?_); rotate_left; (go_simp; rfl); go_simp; refine hK _ _ ?_; clear hK K)
      refine wpE_fn (args := ?_) rfl rfl rfl rfl rfl rfl (by kernel_rfl) (by kernel_rfl) ?_ (fun K hK => ?_)
      rotate_left
      · go_simp; rfl
      refine (law_Small1 _ _ (Q) (by omega) (by omega) (KQ.out.grow h0)).mono ?_
      rintro _ v1 ⟨_, rfl, gn, rfl⟩
      refine ⟨_, rfl, gn, ?_⟩
      go_simp
      refine hK _ _ ?_
      clear hK K
      have h1 := h0.trans gn
      clear gn h0
      repeat (refine wpE_readB (v := ?_) h1 rfl rfl (fun w' hg => ?_) (fun K hK => ?_); rotate_left; (go_simp; rfl); go_simp; refine hK _ _ ?_; clear hK K)
      refine wpE_fn (args := ?_) rfl rfl rfl rfl rfl rfl (by kernel_rfl) (by kernel_rfl) ?_ (fun K hK => ?_)
      rotate_left
      · go_simp; rfl
      refine (law_Small1 _ _ (R) (by omega) (by omega) (KR.out.grow h1)).mono ?_
      rintro _ v2 ⟨_, rfl, gn, rfl⟩
      refine ⟨_, rfl, gn, ?_⟩
      go_simp
      refine hK _ _ ?_
      clear hK K
      have h2 := h1.trans gn
      clear gn h1
      repeat (refine wpE_readB (v := ?_) h2 rfl rfl (fun w' hg => ?_) (fun K hK => ?_); rotate_left; (go_simp; rfl); go_simp; refine hK _ _ ?_; clear hK K)
      refine wpE_fn (args := ?_) rfl rfl rfl rfl rfl rfl (by kernel_rfl) (by kernel_rfl) ?_ (fun K hK => ?_)
      rotate_left
      · go_simp; rfl
      refine (law_Small1 _ _ (Q) (by omega) (by omega) (KF.out.grow h2)).mono ?_
      rintro _ v3 ⟨_, rfl, gn, rfl⟩
      refine ⟨_, rfl, gn, ?_⟩
      go_simp
      refine hK _ _ ?_
      clear hK K
      have h3 := h2.trans gn
      clear gn h2
      repeat (refine wpE_readB (v := ?_) h3 rfl rfl (fun w' hg => ?_) (fun K hK => ?_); rotate_left; (go_simp; rfl); go_simp; refine hK _ _ ?_; clear hK K)
      refine wpE_fn (args := ?_) rfl rfl rfl rfl rfl rfl (by kernel_rfl) (by kernel_rfl) ?_ (fun K hK => ?_)
      rotate_left
      · go_simp; rfl
      refine (law_Small1 _ _ (R) (by omega) (by omega) (KG.out.grow h3)).mono ?_
      rintro _ v4 ⟨_, rfl, gn, rfl⟩
      refine ⟨_, rfl, gn, ?_⟩
      go_simp
      refine hK _ _ ?_
      clear hK K
      have h4 := h3.trans gn
      clear gn h3
      repeat (refine wpE_readB (v := ?_) h4 rfl rfl (fun w' hg => ?_) (fun K hK => ?_); rotate_left; (go_simp; rfl); go_simp; refine hK _ _ ?_; clear hK K)
      refine wpE_nil ?_
      go_wp2_with fail
      go_ret
      exact ⟨_, rfl, G.out.trans h4, rfl⟩
    · rw [if_pos (by simp [x1, x2, x3])] at FL
      obtain rfl : Q - 1 = F := FL
      have KG := Lib.hid (show IntC W24 _ (R + z1) by have h := KG.out; rw [show Q - (Q - 1) = 1 by omega, Int.one_mul] at h; exact h)
      go_wp2_with fail
      have q0 := TQ.out.c0
      have q1 := TQ.out.c1
      have r0 := TR.out.c0
      have r1 := TR.out.c1
      have f0 := TF.out.c0
      have f1 := TF.out.c1
      have g0 := TG.out.c0
      have g1 := TG.out.c1
      refine wp_region_fast [(0, true), (1, true), (2, true), (3, true), (4, true), (5, true), (6, true), (7, true), (8, true), (9, true), (10, true), (11, true), (12, false), (13, true), (14, true), (15, true), (16, true), (17, true), (18, true), (19, true), (20, false), (21, true), (22, true), (23, true), (24, true), (25, true), (26, false), (27, true), (28, true), (29, true), (30, true), (31, true), (32, false), (33, true), (34, true)] (by kernel_rfl) (by kernel_rfl) rfl (by kernel_rfl) (fun _ _ d _ _ h => by cases d <;> exact h) ?_
      have h0 : Gr W24 W24.drew := (Gr.refl _).drew
      repeat (refine wpE_readB (v := ?_) h0 rfl rfl (fun w' hg => ?_) (fun K hK => ?_); rotate_left; (go_simp; rfl); go_simp; refine hK _ _ ?_; clear hK K)
      refine wpE_fn (args := ?_) rfl rfl rfl rfl rfl rfl (by kernel_rfl) (by kernel_rfl) ?_ (fun K hK => ?_)
      rotate_left
      · go_simp; rfl
      refine (law_Small1 _ _ (Q) (by omega) (by omega) (KQ.out.grow h0)).mono ?_
      rintro _ v1 ⟨_, rfl, gn, rfl⟩
      refine ⟨_, rfl, gn, ?_⟩
      go_simp
      refine hK _ _ ?_
      clear hK K
      have h1 := h0.trans gn
      clear gn h0
      repeat (refine wpE_readB (v := ?_) h1 rfl rfl (fun w' hg => ?_) (fun K hK => ?_); rotate_left; (go_simp; rfl); go_simp; refine hK _ _ ?_; clear hK K)
      refine wpE_fn (args := ?_) rfl rfl rfl rfl rfl rfl (by kernel_rfl) (by kernel_rfl) ?_ (fun K hK => ?_)
      rotate_left
      · go_simp; rfl
      refine (law_Small1 _ _ (R) (by omega) (by omega) (KR.out.grow h1)).mono ?_
      rintro _ v2 ⟨_, rfl, gn, rfl⟩
      refine ⟨_, rfl, gn, ?_⟩
      go_simp
      refine hK _ _ ?_
      clear hK K
      have h2 := h1.trans gn
      clear gn h1
      repeat (refine wpE_readB (v := ?_) h2 rfl rfl (fun w' hg => ?_) (fun K hK => ?_); rotate_left; (go_simp; rfl); go_simp; refine hK _ _ ?_; clear hK K)
      refine wpE_fn (args := ?_) rfl rfl rfl rfl rfl rfl (by kernel_rfl) (by kernel_rfl) ?_ (fun K hK => ?_)
      rotate_left
      · go_simp; rfl
      refine (law_Small1 _ _ (Q - 1) (by omega) (by omega) (KF.out.grow h2)).mono ?_
      rintro _ v3 ⟨_, rfl, gn, rfl⟩
      refine ⟨_, rfl, gn, ?_⟩
      go_simp
      refine hK _ _ ?_
      clear hK K
      have h3 := h2.trans gn
      clear gn h2
      repeat (refine wpE_readB (v := ?_) h3 rfl rfl (fun w' hg => ?_) (fun K hK => ?_); rotate_left; (go_simp; rfl); go_simp; refine hK _ _ ?_; clear hK K)
      refine wpE_fn (args := ?_) rfl rfl rfl rfl rfl rfl (by kernel_rfl) (by kernel_rfl) ?_ (fun K hK => ?_)
      rotate_left
      · go_simp; rfl
      refine (law_Small1 _ _ (R + z1) (by omega) (by omega) (KG.out.grow h3)).mono ?_
      rintro _ v4 ⟨_, rfl, gn, rfl⟩
      refine ⟨_, rfl, gn, ?_⟩
      go_simp
      refine hK _ _ ?_
      clear hK K
      have h4 := h3.trans gn
      clear gn h3
      repeat (refine wpE_readB (v := ?_) h4 rfl rfl (fun w' hg => ?_) (fun K hK => ?_); rotate_left; (go_simp; rfl); go_simp; refine hK _ _ ?_; clear hK K)
      refine wpE_nil ?_
      go_wp2_with fail
      go_ret
      exact ⟨_, rfl, G.out.trans h4, rfl⟩
    · rw [if_pos (by simp [x1, x2, x3])] at FL
      obtain rfl : Q - 1 = F := FL
      have KG := Lib.hid (show IntC W24 _ (R + z1) by have h := KG.out; rw [show Q - (Q - 1) = 1 by omega, Int.one_mul] at h; exact h)
      go_wp2_with fail
      have q0 := TQ.out.c0
      have q1 := TQ.out.c1
      have r0 := TR.out.c0
      have r1 := TR.out.c1
      have f0 := TF.out.c0
      have f1 := TF.out.c1
      have g0 := TG.out.c0
      have g1 := TG.out.c1
      refine wp_region_fast [(0, true), (1, true), (2, true), (3, true), (4, true), (5, true), (6, true), (7, true), (8, true), (9, true), (10, true), (11, true), (12, false), (13, true), (14, true), (15, true), (16, true), (17, true), (18, true), (19, true), (20, false), (21, true), (22, true), (23, true), (24, true), (25, true), (26, false), (27, true), (28, true), (29, true), (30, true), (31, true), (32, false), (33, true), (34, true)] (by kernel_rfl) (by kernel_rfl) rfl (by kernel_rfl) (fun _ _ d _ _ h => by cases d <;> exact h) ?_
      have h0 : Gr W24 W24.drew := (Gr.refl _).drew
      repeat (refine wpE_readB (v := ?_) h0 rfl rfl (fun w' hg => ?_) (fun K hK => ?_); rotate_left; (go_simp; rfl); go_simp; refine hK _ _ ?_; clear hK K)
      refine wpE_fn (args := ?_) rfl rfl rfl rfl rfl rfl (by kernel_rfl) (by kernel_rfl) ?_ (fun K hK => ?_)
      rotate_left
      · go_simp; rfl
      refine (law_Small1 _ _ (Q) (by omega) (by omega) (KQ.out.grow h0)).mono ?_
      rintro _ v1 ⟨_, rfl, gn, rfl⟩
      refine ⟨_, rfl, gn, ?_⟩
      go_simp
      refine hK _ _ ?_
      clear hK K
      have h1 := h0.trans gn
      clear gn h0
      repeat (refine wpE_readB (v := ?_) h1 rfl rfl (fun w' hg => ?_) (fun K hK => ?_); rotate_left; (go_simp; rfl); go_simp; refine hK _ _ ?_; clear hK K)
      refine wpE_fn (args := ?_) rfl rfl rfl rfl rfl rfl (by kernel_rfl) (by kernel_rfl) ?_ (fun K hK => ?_)
      rotate_left
      · go_simp; rfl
      refine (law_Small1 _ _ (R) (by omega) (by omega) (KR.out.grow h1)).mono ?_
      rintro _ v2 ⟨_, rfl, gn, rfl⟩
      refine ⟨_, rfl, gn, ?_⟩
      go_simp
      refine hK _ _ ?_
      clear hK K
      have h2 := h1.trans gn
      clear gn h1
      repeat (refine wpE_readB (v := ?_) h2 rfl rfl (fun w' hg => ?_) (fun K hK => ?_); rotate_left; (go_simp; rfl); go_simp; refine hK _ _ ?_; clear hK K)
      refine wpE_fn (args := ?_) rfl rfl rfl rfl rfl rfl (by kernel_rfl) (by kernel_rfl) ?_ (fun K hK => ?_)
      rotate_left
      · go_simp; rfl
      refine (law_Small1 _ _ (Q - 1) (by omega) (by omega) (KF.out.grow h2)).mono ?_
      rintro _ v3 ⟨_, rfl, gn, rfl⟩
      refine ⟨_, rfl, gn, ?_⟩
      go_simp
      refine hK _ _ ?_
      clear hK K
      have h3 := h2.trans gn
      clear gn h2
      repeat (refine wpE_readB (v := ?_) h3 rfl rfl (fun w' hg => ?_) (fun K hK => ?_); rotate_left; (go_simp; rfl); go_simp; refine hK _ _ ?_; clear hK K)
      refine wpE_fn (args := ?_) rfl rfl rfl rfl rfl rfl (by kernel_rfl) (by kernel_rfl) ?_ (fun K hK => ?_)
      rotate_left
      · go_simp; rfl
      refine (law_Small1 _ _ (R + z1) (by omega) (by omega) (KG.out.grow h3)).mono ?_
      rintro _ v4 ⟨_, rfl, gn, rfl⟩
      refine ⟨_, rfl, gn, ?_⟩
      go_simp
      refine hK _ _ ?_
      clear hK K
      have h4 := h3.trans gn
      clear gn h3
      repeat (refine wpE_readB (v := ?_) h4 rfl rfl (fun w' hg => ?_) (fun K hK => ?_); rotate_left; (go_simp; rfl); go_simp; refine hK _ _ ?_; clear hK K)
      refine wpE_nil ?_
      go_wp2_with fail
      go_ret
      exact ⟨_, rfl, G.out.trans h4, rfl⟩
    · rw [if_neg (by simp [x1, x2, x3])] at FL
      obtain rfl : Q = F := FL
      have KG := Lib.hid (show IntC W24 _ R by have h := KG.out; rw [Int.sub_self, Int.zero_mul, Int.add_zero] at h; exact h)
      go_wp2_with fail
      have q0 := TQ.out.c0
      have q1 := TQ.out.c1
      have r0 := TR.out.c0
      have r1 := TR.out.c1
      have f0 := TF.out.c0
      have f1 := TF.out.c1
      have g0 := TG.out.c0
      have g1 := TG.out.c1
      refine wp_region_fast [(0, true), (1, true), (2, true), (3, true), (4, true), (5, true), (6, true), (7, true), (8, true), (9, true), (10, true), (11, true), (12, false), (13, true), (14, true), (15, true), (16, true), (17, true), (18, true), (19, true), (20, false), (21, true), (22, true), (23, true), (24, true), (25, true), (26, false), (27, true), (28, true), (29, true), (30, true), (31, true), (32, false), (33, true), (34, true)] (by kernel_rfl) (by kernel_rfl) rfl (by kernel_rfl) (fun _ _ d _ _ h => by cases d <;> exact h) ?_
      have h0 : Gr W24 W24.drew := (Gr.refl _).drew
      repeat (refine wpE_readB (v := ?_) h0 rfl rfl (fun w' hg => ?_) (fun K hK => ?_); rotate_left; (go_simp; rfl); go_simp; refine hK _ _ ?_; clear hK K)
      refine wpE_fn (args := ?_) rfl rfl rfl rfl rfl rfl (by kernel_rfl) (by kernel_rfl) ?_ (fun K hK => ?_)
      rotate_left
      · go_simp; rfl
      refine (law_Small1 _ _ (Q) (by omega) (by omega) (KQ.out.grow h0)).mono ?_
      rintro _ v1 ⟨_, rfl, gn, rfl⟩
      refine ⟨_, rfl, gn, ?_⟩
      go_simp
      refine hK _ _ ?_
      clear hK K
      have h1 := h0.trans gn
      clear gn h0
      repeat (refine wpE_readB (v := ?_) h1 rfl rfl (fun w' hg => ?_) (fun K hK => ?_); rotate_left; (go_simp; rfl); go_simp; refine hK _ _ ?_; clear hK K)
      refine wpE_fn (args := ?_) rfl rfl rfl rfl rfl rfl (by kernel_rfl) (by kernel_rfl) ?_ (fun K hK => ?_)
      rotate_left
      · go_simp; rfl
      refine (law_Small1 _ _ (R) (by omega) (by omega) (KR.out.grow h1)).mono ?_
      rintro _ v2 ⟨_, rfl, gn, rfl⟩
      refine ⟨_, rfl, gn, ?_⟩
      go_simp
      refine hK _ _ ?_
      clear hK K
      have h2 := h1.trans gn
      clear gn h1
      repeat (refine wpE_readB (v := ?_) h2 rfl rfl (fun w' hg => ?_) (fun K hK => ?_); rotate_left; (go_simp; rfl); go_simp; refine hK _ _ ?_; clear hK K)
      refine wpE_fn (args := ?_) rfl rfl rfl rfl rfl rfl (by kernel_rfl) (by kernel_rfl) ?_ (fun K hK => ?_)
      rotate_left
      · go_simp; rfl
      refine (law_Small1 _ _ (Q) (by omega) (by omega) (KF.out.grow h2)).mono ?_
      rintro _ v3 ⟨_, rfl, gn, rfl⟩
      refine ⟨_, rfl, gn, ?_⟩
      go_simp
      refine hK _ _ ?_
      clear hK K
      have h3 := h2.trans gn
      clear gn h2
      repeat (refine wpE_readB (v := ?_) h3 rfl rfl (fun w' hg => ?_) (fun K hK => ?_); rotate_left; (go_simp; rfl); go_simp; refine hK _ _ ?_; clear hK K)
      refine wpE_fn (args := ?_) rfl rfl rfl rfl rfl rfl (by kernel_rfl) (by kernel_rfl) ?_ (fun K hK => ?_)
      rotate_left
      · go_simp; rfl
      refine (law_Small1 _ _ (R) (by omega) (by omega) (KG.out.grow h3)).mono ?_
      rintro _ v4 ⟨_, rfl, gn, rfl⟩
      refine ⟨_, rfl, gn, ?_⟩
      go_simp
      refine hK _ _ ?_
      clear hK K
      have h4 := h3.trans gn
      clear gn h3
      repeat (refine wpE_readB (v := ?_) h4 rfl rfl (fun w' hg => ?_) (fun K hK => ?_); rotate_left; (go_simp; rfl); go_simp; refine hK _ _ ?_; clear hK K)
      refine wpE_nil ?_
      go_wp2_with fail
      go_ret
      exact ⟨_, rfl, G.out.trans h4, rfl⟩
end Go.Proofs.Ytpjblmedcipopaa

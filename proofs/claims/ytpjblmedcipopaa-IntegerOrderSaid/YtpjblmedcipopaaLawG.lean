/-
  IntegerOrder: the walk (printed by ordergen.py).
-/
import Derived.Test.YtpjblmedcipopaaLawC
import Derived.Test.YtpjblmedcipopaaFast
namespace Go.Proofs.Ytpjblmedcipopaa
open Go.RowKit
set_option linter.unusedVariables false
set_option linter.unusedSimpArgs false

theorem cmp_spec {x y c : Int} (h : cmpZ x y = c) : (x < y ∧ c = -1) ∨ (x = y ∧ c = 0) ∨ (y < x ∧ c = 1) := by
  unfold cmpZ at h
  split at h
  · exact .inl ⟨by assumption, h.symm⟩
  · split at h
    · exact .inr (.inl ⟨by assumption, h.symm⟩)
    · exact .inr (.inr ⟨by omega, h.symm⟩)
theorem cmp3 {x y c : Int} (h : cmpZ x y = c) : c = -1 ∨ c = 0 ∨ c = 1 := by
  rcases cmp_spec h with h | h | h <;> simp [h.2]
theorem order_cases {x y z c1 c2 c3 : Int} (h1 : cmpZ x y = c1) (h2 : cmpZ y z = c2) (h3 : cmpZ x z = c3) :
    (c1 = -1 ∧ (c2 = -1 ∨ c2 = 0) ∧ c3 = -1) ∨ (c1 = -1 ∧ c2 = 1) ∨ (c1 = 0 ∧ c2 = c3) ∨ c1 = 1 := by
  have h1 := cmp_spec h1
  have h2 := cmp_spec h2
  have h3 := cmp_spec h3
  omega
theorem cmp_swap (x y : Int) {c : Int} (h : cmpZ x y = c) : cmpZ y x = -c := by
  have h := cmp_spec h
  have h' := cmp_spec (x := y) (y := x) rfl
  omega
theorem cmpZ_add (x y z : Int) : cmpZ (x + z) (y + z) = cmpZ x y := by
  have h := cmp_spec (x := x) (y := y) rfl
  have h' := cmp_spec (x := x + z) (y := y + z) rfl
  omega
theorem cmpZ_neg (x y : Int) : cmpZ (-x) (-y) = -cmpZ x y := by
  have h := cmp_spec (x := x) (y := y) rfl
  have h' := cmp_spec (x := -x) (y := -y) rfl
  omega
theorem sgn_mul (x y : Int) : sgn (x * y) = sgn x * sgn y := by
  rcases Int.lt_trichotomy x 0 with h | h | h <;> rcases Int.lt_trichotomy y 0 with k | k | k <;> (try subst h) <;> (try subst k)
  · have := Int.mul_pos_of_neg_of_neg h k
    unfold sgn; simp [h, k]; omega
  · simp [sgn]
  · have := Int.mul_neg_of_neg_of_pos h k
    unfold sgn; simp [h, this]; omega
  · simp [sgn]
  · simp [sgn]
  · simp [sgn]
  · have := Int.mul_neg_of_pos_of_neg h k
    unfold sgn; simp [k, this]; omega
  · simp [sgn]
  · have := Int.mul_pos h k
    unfold sgn
    rw [if_neg (by omega), if_neg (by omega), if_neg (by omega), if_neg (by omega), if_neg (by omega), if_neg (by omega)]
    rfl

set_option maxRecDepth 100000 in
set_option maxHeartbeats 6400000 in
theorem law_Order (w : World) (va : Value) (n0 : Bool) (l0 : List Nat) (i0 : IntL w va n0 l0) (vb : Value) (n1 : Bool) (l1 : List Nat) (i1 : IntL w vb n1 l1) (vc : Value) (n2 : Bool) (l2 : List Nat) (i2 : IntL w vc n2 l2) :
    Calls Try.prog 6 #[va, vb, vc] w (Ret w fun r w' => r = .bool true) := by
  have HA0 := Lib.hid i0
  have HA1 := Lib.hid i1
  have HA2 := Lib.hid i2
  obtain ⟨p0, k0, c0, rfl, i0⟩ := i0
  obtain ⟨p1, k1, c1, rfl, i1⟩ := i1
  obtain ⟨p2, k2, c2, rfl, i2⟩ := i2
  have hl0 := Lib.hid i0.len
  have hl1 := Lib.hid i1.len
  have hl2 := Lib.hid i2.len
  have B := boxed3 w (.bool n0) (.slice p0 k0 c0) (.bool n1) (.slice p1 k1 c1) (.bool n2) (.slice p2 k2 c2) 25 25 25
  clear i0 i1 i2
  go_enter Try.func6, Try.ntmps6
  go_wp2_with fail
  generalize ((w.alloc _).alloc _).alloc _ = W at B ⊢
  obtain ⟨G0, t0, t1, t2⟩ := B
  generalize w.heap.size = b0 at t0 t1 t2 ⊢
  have HW := Lib.hid G0
  have T0 := Lib.hid t0
  have T1 := Lib.hid t1
  have T2 := Lib.hid t2
  clear G0 t0 t1 t2
  refine (law_awake W).mono ?_
  rintro _ w1 ⟨_, rfl, g1, rfl⟩
  have a0 := T0.out.c0 w1 g1
  have d0 := T0.out.c1 w1 g1
  have a1 := T1.out.c0 w1 g1
  have d1 := T1.out.c1 w1 g1
  have a2 := T2.out.c0 w1 g1
  have d2 := T2.out.c1 w1 g1
  have G1 := Lib.hid g1
  clear g1
  go_wp2_with fail
  obtain ⟨t, ht⟩ : ∃ t, decide (∀ i, i < 3 → (if i = 0 then k0 else if i = 1 then k1 else k2) ≤ 10) = t := ⟨_, rfl⟩
  have HT := Lib.hid ht
  refine (law_few _ _ 3 3 (fun i => if i = 0 then n0 else if i = 1 then n1 else n2) (fun i => if i = 0 then p0 else if i = 1 then p1 else p2) (fun i => if i = 0 then k0 else if i = 1 then k1 else k2) (fun i => if i = 0 then c0 else if i = 1 then c1 else c2) (by decide) (by decide) t ht (fun i hi => ?_)).mono ?_
  · match i, hi with
    | 0, _ => exact ⟨cell_new _ _ _ _, cell_new _ _ _ _⟩
    | 1, _ => exact ⟨cell_new _ _ _ _, cell_new _ _ _ _⟩
    | 2, _ => exact ⟨cell_new _ _ _ _, cell_new _ _ _ _⟩
  rintro _ w3 ⟨_, rfl, g3, rfl⟩
  have G3 := Lib.hid (G1.out.trans (((Gr.refl w1).alloc _).trans g3))
  clear a0 d0 a1 d1 a2 d2 g3 G1
  cases t
  · clear ht
    go_wp2_with fail
    refine (law_awake w3).mono ?_
    rintro _ w4 ⟨_, rfl, g4, rfl⟩
    have G4 := Lib.hid g4
    clear g4
    go_wp2_with fail
    go_ret
    exact ⟨_, rfl, HW.out.trans (G3.out.trans G4.out), rfl⟩
  · have hh := of_decide_eq_true ht
    have m0 : k0 ≤ 10 := hh 0 (by decide)
    have IA0 := Lib.hid (show IntV w3 _ _ 10 from ⟨n0, l0, HA0.out.grow (HW.out.trans G3.out), rfl, by rw [hl0.out]; exact m0⟩)
    have a0 := (T0.out.grow G3.out).c0
    have d0 := (T0.out.grow G3.out).c1
    have m1 : k1 ≤ 10 := hh 1 (by decide)
    have IA1 := Lib.hid (show IntV w3 _ _ 10 from ⟨n1, l1, HA1.out.grow (HW.out.trans G3.out), rfl, by rw [hl1.out]; exact m1⟩)
    have a1 := (T1.out.grow G3.out).c0
    have d1 := (T1.out.grow G3.out).c1
    have m2 : k2 ≤ 10 := hh 2 (by decide)
    have IA2 := Lib.hid (show IntV w3 _ _ 10 from ⟨n2, l2, HA2.out.grow (HW.out.trans G3.out), rfl, by rw [hl2.out]; exact m2⟩)
    have a2 := (T2.out.grow G3.out).c0
    have d2 := (T2.out.grow G3.out).c1
    generalize zval n0 l0 = x0 at IA0
    generalize zval n1 l1 = x1 at IA1
    generalize zval n2 l2 = x2 at IA2
    clear hh ht m0 m1 m2
    go_wp2_with fail
    obtain ⟨c1, hc1⟩ : ∃ c, cmpZ x0 x1 = c := ⟨_, rfl⟩
    obtain ⟨c2, hc2⟩ : ∃ c, cmpZ x1 x2 = c := ⟨_, rfl⟩
    obtain ⟨c3, hc3⟩ : ∃ c, cmpZ x0 x2 = c := ⟨_, rfl⟩
    have C1 := Lib.hid hc1
    have C2 := Lib.hid hc2
    have C3 := Lib.hid hc3
    clear hc1 hc2 hc3
    refine wp_region_fast [(0, true), (1, true), (3, true), (4, true), (6, true), (7, true), (2, false), (5, false), (8, false), (9, true), (10, true), (11, true)] (by kernel_rfl) (by kernel_rfl) rfl (by kernel_rfl) (fun _ _ d _ _ h => by cases d <;> exact h) ?_
    have g0 : Gr w3 w3.drew := (Gr.refl w3).drew
    repeat (refine wpE_readB (v := ?_) g0 rfl rfl (fun w' hg => ?_) (fun K hK => ?_); rotate_left; (go_simp; rfl); go_simp; refine hK _ _ ?_; clear hK K)
    refine wpE_fn (args := ?_) rfl rfl rfl rfl rfl rfl (by kernel_rfl) (by kernel_rfl) ?_ (fun K hK => ?_)
    rotate_left
    · go_simp; rfl
    refine (v_Cmp _ _ _ _ _ _ 10 10 (IA0.out.grow g0) (IA1.out.grow g0) C1.out (by decide) (by decide)).mono ?_
    rintro _ v1 ⟨_, rfl, gn, rfl⟩
    refine ⟨_, rfl, gn, ?_⟩
    go_simp
    refine hK _ _ ?_
    clear hK K
    have h1 := g0.trans gn
    clear gn g0
    repeat (refine wpE_readB (v := ?_) h1 rfl rfl (fun w' hg => ?_) (fun K hK => ?_); rotate_left; (go_simp; rfl); go_simp; refine hK _ _ ?_; clear hK K)
    refine wpE_fn (args := ?_) rfl rfl rfl rfl rfl rfl (by kernel_rfl) (by kernel_rfl) ?_ (fun K hK => ?_)
    rotate_left
    · go_simp; rfl
    refine (v_Cmp _ _ _ _ _ _ 10 10 (IA1.out.grow h1) (IA2.out.grow h1) C2.out (by decide) (by decide)).mono ?_
    rintro _ v2 ⟨_, rfl, gn, rfl⟩
    refine ⟨_, rfl, gn, ?_⟩
    go_simp
    refine hK _ _ ?_
    clear hK K
    have h2 := h1.trans gn
    clear gn h1
    repeat (refine wpE_readB (v := ?_) h2 rfl rfl (fun w' hg => ?_) (fun K hK => ?_); rotate_left; (go_simp; rfl); go_simp; refine hK _ _ ?_; clear hK K)
    refine wpE_fn (args := ?_) rfl rfl rfl rfl rfl rfl (by kernel_rfl) (by kernel_rfl) ?_ (fun K hK => ?_)
    rotate_left
    · go_simp; rfl
    refine (v_Cmp _ _ _ _ _ _ 10 10 (IA0.out.grow h2) (IA2.out.grow h2) C3.out (by decide) (by decide)).mono ?_
    rintro _ v3 ⟨_, rfl, gn, rfl⟩
    refine ⟨_, rfl, gn, ?_⟩
    go_simp
    refine hK _ _ ?_
    clear hK K
    have h3 := h2.trans gn
    clear gn h2
    repeat (refine wpE_readB (v := ?_) h3 rfl rfl (fun w' hg => ?_) (fun K hK => ?_); rotate_left; (go_simp; rfl); go_simp; refine hK _ _ ?_; clear hK K)
    refine wpE_nil ?_
    have IA0 := Lib.hid (IA0.out.grow h3)
    have IA1 := Lib.hid (IA1.out.grow h3)
    have IA2 := Lib.hid (IA2.out.grow h3)
    have a0 := fun w' g => a0 w' (h3.trans g)
    have d0 := fun w' g => d0 w' (h3.trans g)
    have a1 := fun w' g => a1 w' (h3.trans g)
    have d1 := fun w' g => d1 w' (h3.trans g)
    have a2 := fun w' g => a2 w' (h3.trans g)
    have d2 := fun w' g => d2 w' (h3.trans g)
    have G3 := Lib.hid (G3.out.trans h3)
    clear h3
    have e0 := a0 v3 (Gr.refl _)
    have f0 := d0 v3 (Gr.refl _)
    have e1 := a1 v3 (Gr.refl _)
    have f1 := d1 v3 (Gr.refl _)
    have hk : (c1 = -1 ∧ (c2 = -1 ∨ c2 = 0) ∧ c3 = -1) ∨ (c1 = -1 ∧ c2 = 1) ∨ (c1 = 0 ∧ c2 = c3) ∨ c1 = 1 := order_cases C1.out C2.out C3.out
    have hs := cmp_swap x0 x1 C1.out
    have Hs := Lib.hid hs
    clear hs
    rcases hk with ⟨rfl, h2, rfl⟩ | ⟨rfl, rfl⟩ | ⟨rfl, rfl⟩ | rfl
    · have hl : c2 ≤ 0 := by omega
      go_wp2_with fail
      refine (v_Cmp _ _ _ _ _ _ 10 10 IA1.out IA0.out Hs.out (by decide) (by decide)).mono ?_
      rintro _ v4 ⟨_, rfl, gn, rfl⟩
      clear e0 e1 f0 f1
      go_wp2_with fail
      as_aux_lemma =>
      have IA0 := Lib.hid (IA0.out.grow gn)
      have IA1 := Lib.hid (IA1.out.grow gn)
      have IA2 := Lib.hid (IA2.out.grow gn)
      have a0 := fun w' g => a0 w' (gn.trans g)
      have d0 := fun w' g => d0 w' (gn.trans g)
      have a1 := fun w' g => a1 w' (gn.trans g)
      have d1 := fun w' g => d1 w' (gn.trans g)
      have a2 := fun w' g => a2 w' (gn.trans g)
      have d2 := fun w' g => d2 w' (gn.trans g)
      have G3 := Lib.hid (G3.out.trans gn)
      clear gn
      obtain ⟨s0, hs0⟩ : ∃ s, sgn x0 = s := ⟨_, rfl⟩
      obtain ⟨s1, hs1⟩ : ∃ s, sgn x1 = s := ⟨_, rfl⟩
      have hr := sgn_mul_range x0 x1
      rw [hs0, hs1] at hr
      obtain ⟨hr1, hr2⟩ := hr
      have E := Lib.hid (show IntKind.i64.wrap (s0 * s1) = s0 * s1 by rw [IntKind.wrap_i64]; omega)
      have S0 := Lib.hid hs0
      have S1 := Lib.hid hs1
      clear hs0 hs1
      refine wp_region_fast [(0, true), (1, true), (3, true), (4, true), (7, true), (2, false), (5, false), (6, false), (8, true), (9, true), (10, true), (12, true), (15, true), (16, true), (11, false), (13, false), (14, false), (17, true), (18, true), (19, true), (20, true), (21, true), (24, true), (26, true), (22, false), (23, false), (25, false), (27, false), (28, true), (29, true), (30, true), (31, true)] (by kernel_rfl) (by kernel_rfl) rfl (by kernel_rfl) (fun _ _ d _ _ h => by cases d <;> exact h) ?_
      have g0 : Gr v4 v4.drew := (Gr.refl _).drew
      repeat (refine wpE_readB (v := ?_) g0 rfl rfl (fun w' hg => ?_) (fun K hK => ?_); rotate_left; (go_simp; rfl); go_simp; refine hK _ _ ?_; clear hK K)
      refine wpE_fn (args := ?_) rfl rfl rfl rfl rfl rfl (by kernel_rfl) (by kernel_rfl) ?_ (fun K hK => ?_)
      rotate_left
      · go_simp; rfl
      refine (v_Add _ _ _ _ _ _ 10 10 (IA0.out.grow g0) (IA2.out.grow g0) rfl (by decide) (by decide)).mono ?_
      rintro _ v5 ⟨r5, rfl, gn, hr⟩
      refine ⟨_, rfl, gn, ?_⟩
      go_simp
      refine hK _ _ ?_
      clear hK K
      have R1 := Lib.hid hr
      clear hr
      have h5 := g0.trans gn
      clear gn g0
      repeat (refine wpE_readB (v := ?_) h5 rfl rfl (fun w' hg => ?_) (fun K hK => ?_); rotate_left; (go_simp; rfl); go_simp; refine hK _ _ ?_; clear hK K)
      refine wpE_fn (args := ?_) rfl rfl rfl rfl rfl rfl (by kernel_rfl) (by kernel_rfl) ?_ (fun K hK => ?_)
      rotate_left
      · go_simp; rfl
      refine (v_Add _ _ _ _ _ _ 10 10 (IA1.out.grow h5) (IA2.out.grow h5) rfl (by decide) (by decide)).mono ?_
      rintro _ v6 ⟨r6, rfl, gn, hr⟩
      refine ⟨_, rfl, gn, ?_⟩
      go_simp
      refine hK _ _ ?_
      clear hK K
      have R2 := Lib.hid hr
      clear hr
      have R1 := Lib.hid (R1.out.grow gn)
      have h6 := h5.trans gn
      clear gn h5
      repeat (refine wpE_readB (v := ?_) h6 rfl rfl (fun w' hg => ?_) (fun K hK => ?_); rotate_left; (go_simp; rfl); go_simp; refine hK _ _ ?_; clear hK K)
      refine wpE_fn (args := ?_) rfl rfl rfl rfl rfl rfl (by kernel_rfl) (by kernel_rfl) ?_ (fun K hK => ?_)
      rotate_left
      · go_simp; rfl
      refine (v_Cmp _ _ _ _ _ (-1) 21 21 R1.out.2 R2.out.2 ((cmpZ_add _ _ _).trans C1.out) (by decide) (by decide)).mono ?_
      rintro _ v7 ⟨_, rfl, gn, rfl⟩
      refine ⟨_, rfl, gn, ?_⟩
      go_simp
      refine hK _ _ ?_
      clear hK K
      clear R1 R2
      have h7 := h6.trans gn
      clear gn h6
      repeat (refine wpE_readB (v := ?_) h7 rfl rfl (fun w' hg => ?_) (fun K hK => ?_); rotate_left; (go_simp; rfl); go_simp; refine hK _ _ ?_; clear hK K)
      refine wpE_fn (args := ?_) rfl rfl rfl rfl rfl rfl (by kernel_rfl) (by kernel_rfl) ?_ (fun K hK => ?_)
      rotate_left
      · go_simp; rfl
      refine (v_Neg _ _ _ _ 10 (IA0.out.grow h7) rfl (by decide)).mono ?_
      rintro _ v8 ⟨r8, rfl, gn, hr⟩
      refine ⟨_, rfl, gn, ?_⟩
      go_simp
      refine hK _ _ ?_
      clear hK K
      have R1 := Lib.hid hr
      clear hr
      have h8 := h7.trans gn
      clear gn h7
      repeat (refine wpE_readB (v := ?_) h8 rfl rfl (fun w' hg => ?_) (fun K hK => ?_); rotate_left; (go_simp; rfl); go_simp; refine hK _ _ ?_; clear hK K)
      refine wpE_fn (args := ?_) rfl rfl rfl rfl rfl rfl (by kernel_rfl) (by kernel_rfl) ?_ (fun K hK => ?_)
      rotate_left
      · go_simp; rfl
      refine (v_Neg _ _ _ _ 10 (IA1.out.grow h8) rfl (by decide)).mono ?_
      rintro _ v9 ⟨r9, rfl, gn, hr⟩
      refine ⟨_, rfl, gn, ?_⟩
      go_simp
      refine hK _ _ ?_
      clear hK K
      have R2 := Lib.hid hr
      clear hr
      have R1 := Lib.hid (R1.out.grow gn)
      have h9 := h8.trans gn
      clear gn h8
      repeat (refine wpE_readB (v := ?_) h9 rfl rfl (fun w' hg => ?_) (fun K hK => ?_); rotate_left; (go_simp; rfl); go_simp; refine hK _ _ ?_; clear hK K)
      refine wpE_fn (args := ?_) rfl rfl rfl rfl rfl rfl (by kernel_rfl) (by kernel_rfl) ?_ (fun K hK => ?_)
      rotate_left
      · go_simp; rfl
      refine (v_Cmp _ _ _ _ _ (-(-1)) 10 10 R1.out.2 R2.out.2 ((cmpZ_neg _ _).trans (congrArg _ C1.out)) (by decide) (by decide)).mono ?_
      rintro _ v10 ⟨_, rfl, gn, rfl⟩
      refine ⟨_, rfl, gn, ?_⟩
      go_simp
      refine hK _ _ ?_
      clear hK K
      clear R1 R2
      have h10 := h9.trans gn
      clear gn h9
      repeat (refine wpE_readB (v := ?_) h10 rfl rfl (fun w' hg => ?_) (fun K hK => ?_); rotate_left; (go_simp; rfl); go_simp; refine hK _ _ ?_; clear hK K)
      refine wpE_fn (args := ?_) rfl rfl rfl rfl rfl rfl (by kernel_rfl) (by kernel_rfl) ?_ (fun K hK => ?_)
      rotate_left
      · go_simp; rfl
      refine (v_Mul _ _ _ _ _ _ 10 10 (IA0.out.grow h10) (IA1.out.grow h10) rfl (by decide) (by decide)).mono ?_
      rintro _ v11 ⟨r11, rfl, gn, hr⟩
      refine ⟨_, rfl, gn, ?_⟩
      go_simp
      refine hK _ _ ?_
      clear hK K
      have R1 := Lib.hid hr
      clear hr
      have h11 := h10.trans gn
      clear gn h10
      repeat (refine wpE_readB (v := ?_) h11 rfl rfl (fun w' hg => ?_) (fun K hK => ?_); rotate_left; (go_simp; rfl); go_simp; refine hK _ _ ?_; clear hK K)
      refine wpE_fn (args := ?_) rfl rfl rfl rfl rfl rfl (by kernel_rfl) (by kernel_rfl) ?_ (fun K hK => ?_)
      rotate_left
      · go_simp; rfl
      refine (v_Sign _ _ _ (s0 * s1) 21 R1.out.2 ((sgn_mul _ _).trans (by rw [S0.out, S1.out])) (by decide)).mono ?_
      rintro _ v12 ⟨_, rfl, gn, rfl⟩
      refine ⟨_, rfl, gn, ?_⟩
      go_simp
      refine hK _ _ ?_
      clear hK K
      clear R1
      have h12 := h11.trans gn
      clear gn h11
      repeat (refine wpE_readB (v := ?_) h12 rfl rfl (fun w' hg => ?_) (fun K hK => ?_); rotate_left; (go_simp; rfl); go_simp; refine hK _ _ ?_; clear hK K)
      refine wpE_fn (args := ?_) rfl rfl rfl rfl rfl rfl (by kernel_rfl) (by kernel_rfl) ?_ (fun K hK => ?_)
      rotate_left
      · go_simp; rfl
      refine (v_Sign _ _ _ s0 10 (IA0.out.grow h12) S0.out (by decide)).mono ?_
      rintro _ v13 ⟨_, rfl, gn, rfl⟩
      refine ⟨_, rfl, gn, ?_⟩
      go_simp
      refine hK _ _ ?_
      clear hK K
      have h13 := h12.trans gn
      clear gn h12
      repeat (refine wpE_readB (v := ?_) h13 rfl rfl (fun w' hg => ?_) (fun K hK => ?_); rotate_left; (go_simp; rfl); go_simp; refine hK _ _ ?_; clear hK K)
      refine wpE_fn (args := ?_) rfl rfl rfl rfl rfl rfl (by kernel_rfl) (by kernel_rfl) ?_ (fun K hK => ?_)
      rotate_left
      · go_simp; rfl
      refine (v_Sign _ _ _ s1 10 (IA1.out.grow h13) S1.out (by decide)).mono ?_
      rintro _ v14 ⟨_, rfl, gn, rfl⟩
      refine ⟨_, rfl, gn, ?_⟩
      go_simp
      refine hK _ _ ?_
      clear hK K
      have h14 := h13.trans gn
      clear gn h13
      repeat (refine wpE_readB (v := ?_) h14 rfl rfl (fun w' hg => ?_) (fun K hK => ?_); rotate_left; (go_simp; rfl); go_simp; refine hK _ _ ?_; clear hK K)
      refine wpE_nil ?_
      go_wp2_with fail
      go_ret
      exact ⟨_, rfl, HW.out.trans (G3.out.trans h14), by show Value.bool (_ && _) = Value.bool true; rw [E.out, beq_self_eq_true, Bool.and_true]; rfl⟩
    · have hl : (1 : Int) ≤ 1 := by decide
      go_wp2_with fail
      refine (v_Cmp _ _ _ _ _ _ 10 10 IA1.out IA0.out Hs.out (by decide) (by decide)).mono ?_
      rintro _ v4 ⟨_, rfl, gn, rfl⟩
      clear e0 e1 f0 f1
      go_wp2_with fail
      as_aux_lemma =>
      have IA0 := Lib.hid (IA0.out.grow gn)
      have IA1 := Lib.hid (IA1.out.grow gn)
      have IA2 := Lib.hid (IA2.out.grow gn)
      have a0 := fun w' g => a0 w' (gn.trans g)
      have d0 := fun w' g => d0 w' (gn.trans g)
      have a1 := fun w' g => a1 w' (gn.trans g)
      have d1 := fun w' g => d1 w' (gn.trans g)
      have a2 := fun w' g => a2 w' (gn.trans g)
      have d2 := fun w' g => d2 w' (gn.trans g)
      have G3 := Lib.hid (G3.out.trans gn)
      clear gn
      obtain ⟨s0, hs0⟩ : ∃ s, sgn x0 = s := ⟨_, rfl⟩
      obtain ⟨s1, hs1⟩ : ∃ s, sgn x1 = s := ⟨_, rfl⟩
      have hr := sgn_mul_range x0 x1
      rw [hs0, hs1] at hr
      obtain ⟨hr1, hr2⟩ := hr
      have E := Lib.hid (show IntKind.i64.wrap (s0 * s1) = s0 * s1 by rw [IntKind.wrap_i64]; omega)
      have S0 := Lib.hid hs0
      have S1 := Lib.hid hs1
      clear hs0 hs1
      refine wp_region_fast [(0, true), (1, true), (3, true), (4, true), (7, true), (2, false), (5, false), (6, false), (8, true), (9, true), (10, true), (12, true), (15, true), (16, true), (11, false), (13, false), (14, false), (17, true), (18, true), (19, true), (20, true), (21, true), (24, true), (26, true), (22, false), (23, false), (25, false), (27, false), (28, true), (29, true), (30, true), (31, true)] (by kernel_rfl) (by kernel_rfl) rfl (by kernel_rfl) (fun _ _ d _ _ h => by cases d <;> exact h) ?_
      have g0 : Gr v4 v4.drew := (Gr.refl _).drew
      repeat (refine wpE_readB (v := ?_) g0 rfl rfl (fun w' hg => ?_) (fun K hK => ?_); rotate_left; (go_simp; rfl); go_simp; refine hK _ _ ?_; clear hK K)
      refine wpE_fn (args := ?_) rfl rfl rfl rfl rfl rfl (by kernel_rfl) (by kernel_rfl) ?_ (fun K hK => ?_)
      rotate_left
      · go_simp; rfl
      refine (v_Add _ _ _ _ _ _ 10 10 (IA0.out.grow g0) (IA2.out.grow g0) rfl (by decide) (by decide)).mono ?_
      rintro _ v5 ⟨r5, rfl, gn, hr⟩
      refine ⟨_, rfl, gn, ?_⟩
      go_simp
      refine hK _ _ ?_
      clear hK K
      have R1 := Lib.hid hr
      clear hr
      have h5 := g0.trans gn
      clear gn g0
      repeat (refine wpE_readB (v := ?_) h5 rfl rfl (fun w' hg => ?_) (fun K hK => ?_); rotate_left; (go_simp; rfl); go_simp; refine hK _ _ ?_; clear hK K)
      refine wpE_fn (args := ?_) rfl rfl rfl rfl rfl rfl (by kernel_rfl) (by kernel_rfl) ?_ (fun K hK => ?_)
      rotate_left
      · go_simp; rfl
      refine (v_Add _ _ _ _ _ _ 10 10 (IA1.out.grow h5) (IA2.out.grow h5) rfl (by decide) (by decide)).mono ?_
      rintro _ v6 ⟨r6, rfl, gn, hr⟩
      refine ⟨_, rfl, gn, ?_⟩
      go_simp
      refine hK _ _ ?_
      clear hK K
      have R2 := Lib.hid hr
      clear hr
      have R1 := Lib.hid (R1.out.grow gn)
      have h6 := h5.trans gn
      clear gn h5
      repeat (refine wpE_readB (v := ?_) h6 rfl rfl (fun w' hg => ?_) (fun K hK => ?_); rotate_left; (go_simp; rfl); go_simp; refine hK _ _ ?_; clear hK K)
      refine wpE_fn (args := ?_) rfl rfl rfl rfl rfl rfl (by kernel_rfl) (by kernel_rfl) ?_ (fun K hK => ?_)
      rotate_left
      · go_simp; rfl
      refine (v_Cmp _ _ _ _ _ (-1) 21 21 R1.out.2 R2.out.2 ((cmpZ_add _ _ _).trans C1.out) (by decide) (by decide)).mono ?_
      rintro _ v7 ⟨_, rfl, gn, rfl⟩
      refine ⟨_, rfl, gn, ?_⟩
      go_simp
      refine hK _ _ ?_
      clear hK K
      clear R1 R2
      have h7 := h6.trans gn
      clear gn h6
      repeat (refine wpE_readB (v := ?_) h7 rfl rfl (fun w' hg => ?_) (fun K hK => ?_); rotate_left; (go_simp; rfl); go_simp; refine hK _ _ ?_; clear hK K)
      refine wpE_fn (args := ?_) rfl rfl rfl rfl rfl rfl (by kernel_rfl) (by kernel_rfl) ?_ (fun K hK => ?_)
      rotate_left
      · go_simp; rfl
      refine (v_Neg _ _ _ _ 10 (IA0.out.grow h7) rfl (by decide)).mono ?_
      rintro _ v8 ⟨r8, rfl, gn, hr⟩
      refine ⟨_, rfl, gn, ?_⟩
      go_simp
      refine hK _ _ ?_
      clear hK K
      have R1 := Lib.hid hr
      clear hr
      have h8 := h7.trans gn
      clear gn h7
      repeat (refine wpE_readB (v := ?_) h8 rfl rfl (fun w' hg => ?_) (fun K hK => ?_); rotate_left; (go_simp; rfl); go_simp; refine hK _ _ ?_; clear hK K)
      refine wpE_fn (args := ?_) rfl rfl rfl rfl rfl rfl (by kernel_rfl) (by kernel_rfl) ?_ (fun K hK => ?_)
      rotate_left
      · go_simp; rfl
      refine (v_Neg _ _ _ _ 10 (IA1.out.grow h8) rfl (by decide)).mono ?_
      rintro _ v9 ⟨r9, rfl, gn, hr⟩
      refine ⟨_, rfl, gn, ?_⟩
      go_simp
      refine hK _ _ ?_
      clear hK K
      have R2 := Lib.hid hr
      clear hr
      have R1 := Lib.hid (R1.out.grow gn)
      have h9 := h8.trans gn
      clear gn h8
      repeat (refine wpE_readB (v := ?_) h9 rfl rfl (fun w' hg => ?_) (fun K hK => ?_); rotate_left; (go_simp; rfl); go_simp; refine hK _ _ ?_; clear hK K)
      refine wpE_fn (args := ?_) rfl rfl rfl rfl rfl rfl (by kernel_rfl) (by kernel_rfl) ?_ (fun K hK => ?_)
      rotate_left
      · go_simp; rfl
      refine (v_Cmp _ _ _ _ _ (-(-1)) 10 10 R1.out.2 R2.out.2 ((cmpZ_neg _ _).trans (congrArg _ C1.out)) (by decide) (by decide)).mono ?_
      rintro _ v10 ⟨_, rfl, gn, rfl⟩
      refine ⟨_, rfl, gn, ?_⟩
      go_simp
      refine hK _ _ ?_
      clear hK K
      clear R1 R2
      have h10 := h9.trans gn
      clear gn h9
      repeat (refine wpE_readB (v := ?_) h10 rfl rfl (fun w' hg => ?_) (fun K hK => ?_); rotate_left; (go_simp; rfl); go_simp; refine hK _ _ ?_; clear hK K)
      refine wpE_fn (args := ?_) rfl rfl rfl rfl rfl rfl (by kernel_rfl) (by kernel_rfl) ?_ (fun K hK => ?_)
      rotate_left
      · go_simp; rfl
      refine (v_Mul _ _ _ _ _ _ 10 10 (IA0.out.grow h10) (IA1.out.grow h10) rfl (by decide) (by decide)).mono ?_
      rintro _ v11 ⟨r11, rfl, gn, hr⟩
      refine ⟨_, rfl, gn, ?_⟩
      go_simp
      refine hK _ _ ?_
      clear hK K
      have R1 := Lib.hid hr
      clear hr
      have h11 := h10.trans gn
      clear gn h10
      repeat (refine wpE_readB (v := ?_) h11 rfl rfl (fun w' hg => ?_) (fun K hK => ?_); rotate_left; (go_simp; rfl); go_simp; refine hK _ _ ?_; clear hK K)
      refine wpE_fn (args := ?_) rfl rfl rfl rfl rfl rfl (by kernel_rfl) (by kernel_rfl) ?_ (fun K hK => ?_)
      rotate_left
      · go_simp; rfl
      refine (v_Sign _ _ _ (s0 * s1) 21 R1.out.2 ((sgn_mul _ _).trans (by rw [S0.out, S1.out])) (by decide)).mono ?_
      rintro _ v12 ⟨_, rfl, gn, rfl⟩
      refine ⟨_, rfl, gn, ?_⟩
      go_simp
      refine hK _ _ ?_
      clear hK K
      clear R1
      have h12 := h11.trans gn
      clear gn h11
      repeat (refine wpE_readB (v := ?_) h12 rfl rfl (fun w' hg => ?_) (fun K hK => ?_); rotate_left; (go_simp; rfl); go_simp; refine hK _ _ ?_; clear hK K)
      refine wpE_fn (args := ?_) rfl rfl rfl rfl rfl rfl (by kernel_rfl) (by kernel_rfl) ?_ (fun K hK => ?_)
      rotate_left
      · go_simp; rfl
      refine (v_Sign _ _ _ s0 10 (IA0.out.grow h12) S0.out (by decide)).mono ?_
      rintro _ v13 ⟨_, rfl, gn, rfl⟩
      refine ⟨_, rfl, gn, ?_⟩
      go_simp
      refine hK _ _ ?_
      clear hK K
      have h13 := h12.trans gn
      clear gn h12
      repeat (refine wpE_readB (v := ?_) h13 rfl rfl (fun w' hg => ?_) (fun K hK => ?_); rotate_left; (go_simp; rfl); go_simp; refine hK _ _ ?_; clear hK K)
      refine wpE_fn (args := ?_) rfl rfl rfl rfl rfl rfl (by kernel_rfl) (by kernel_rfl) ?_ (fun K hK => ?_)
      rotate_left
      · go_simp; rfl
      refine (v_Sign _ _ _ s1 10 (IA1.out.grow h13) S1.out (by decide)).mono ?_
      rintro _ v14 ⟨_, rfl, gn, rfl⟩
      refine ⟨_, rfl, gn, ?_⟩
      go_simp
      refine hK _ _ ?_
      clear hK K
      have h14 := h13.trans gn
      clear gn h13
      repeat (refine wpE_readB (v := ?_) h14 rfl rfl (fun w' hg => ?_) (fun K hK => ?_); rotate_left; (go_simp; rfl); go_simp; refine hK _ _ ?_; clear hK K)
      refine wpE_nil ?_
      go_wp2_with fail
      go_ret
      exact ⟨_, rfl, HW.out.trans (G3.out.trans h14), by show Value.bool (_ && _) = Value.bool true; rw [E.out, beq_self_eq_true, Bool.and_true]; rfl⟩
    · rcases cmp3 C2.out with rfl | rfl | rfl
      · have hl : (1 : Int) ≤ 1 := by decide
        go_wp2_with fail
        refine (v_Cmp _ _ _ _ _ _ 10 10 IA1.out IA0.out Hs.out (by decide) (by decide)).mono ?_
        rintro _ v4 ⟨_, rfl, gn, rfl⟩
        clear e0 e1 f0 f1
        go_wp2_with fail
        as_aux_lemma =>
        have IA0 := Lib.hid (IA0.out.grow gn)
        have IA1 := Lib.hid (IA1.out.grow gn)
        have IA2 := Lib.hid (IA2.out.grow gn)
        have a0 := fun w' g => a0 w' (gn.trans g)
        have d0 := fun w' g => d0 w' (gn.trans g)
        have a1 := fun w' g => a1 w' (gn.trans g)
        have d1 := fun w' g => d1 w' (gn.trans g)
        have a2 := fun w' g => a2 w' (gn.trans g)
        have d2 := fun w' g => d2 w' (gn.trans g)
        have G3 := Lib.hid (G3.out.trans gn)
        clear gn
        obtain ⟨s0, hs0⟩ : ∃ s, sgn x0 = s := ⟨_, rfl⟩
        obtain ⟨s1, hs1⟩ : ∃ s, sgn x1 = s := ⟨_, rfl⟩
        have hr := sgn_mul_range x0 x1
        rw [hs0, hs1] at hr
        obtain ⟨hr1, hr2⟩ := hr
        have E := Lib.hid (show IntKind.i64.wrap (s0 * s1) = s0 * s1 by rw [IntKind.wrap_i64]; omega)
        have S0 := Lib.hid hs0
        have S1 := Lib.hid hs1
        clear hs0 hs1
        refine wp_region_fast [(0, true), (1, true), (3, true), (4, true), (7, true), (2, false), (5, false), (6, false), (8, true), (9, true), (10, true), (12, true), (15, true), (16, true), (11, false), (13, false), (14, false), (17, true), (18, true), (19, true), (20, true), (21, true), (24, true), (26, true), (22, false), (23, false), (25, false), (27, false), (28, true), (29, true), (30, true), (31, true)] (by kernel_rfl) (by kernel_rfl) rfl (by kernel_rfl) (fun _ _ d _ _ h => by cases d <;> exact h) ?_
        have g0 : Gr v4 v4.drew := (Gr.refl _).drew
        repeat (refine wpE_readB (v := ?_) g0 rfl rfl (fun w' hg => ?_) (fun K hK => ?_); rotate_left; (go_simp; rfl); go_simp; refine hK _ _ ?_; clear hK K)
        refine wpE_fn (args := ?_) rfl rfl rfl rfl rfl rfl (by kernel_rfl) (by kernel_rfl) ?_ (fun K hK => ?_)
        rotate_left
        · go_simp; rfl
        refine (v_Add _ _ _ _ _ _ 10 10 (IA0.out.grow g0) (IA2.out.grow g0) rfl (by decide) (by decide)).mono ?_
        rintro _ v5 ⟨r5, rfl, gn, hr⟩
        refine ⟨_, rfl, gn, ?_⟩
        go_simp
        refine hK _ _ ?_
        clear hK K
        have R1 := Lib.hid hr
        clear hr
        have h5 := g0.trans gn
        clear gn g0
        repeat (refine wpE_readB (v := ?_) h5 rfl rfl (fun w' hg => ?_) (fun K hK => ?_); rotate_left; (go_simp; rfl); go_simp; refine hK _ _ ?_; clear hK K)
        refine wpE_fn (args := ?_) rfl rfl rfl rfl rfl rfl (by kernel_rfl) (by kernel_rfl) ?_ (fun K hK => ?_)
        rotate_left
        · go_simp; rfl
        refine (v_Add _ _ _ _ _ _ 10 10 (IA1.out.grow h5) (IA2.out.grow h5) rfl (by decide) (by decide)).mono ?_
        rintro _ v6 ⟨r6, rfl, gn, hr⟩
        refine ⟨_, rfl, gn, ?_⟩
        go_simp
        refine hK _ _ ?_
        clear hK K
        have R2 := Lib.hid hr
        clear hr
        have R1 := Lib.hid (R1.out.grow gn)
        have h6 := h5.trans gn
        clear gn h5
        repeat (refine wpE_readB (v := ?_) h6 rfl rfl (fun w' hg => ?_) (fun K hK => ?_); rotate_left; (go_simp; rfl); go_simp; refine hK _ _ ?_; clear hK K)
        refine wpE_fn (args := ?_) rfl rfl rfl rfl rfl rfl (by kernel_rfl) (by kernel_rfl) ?_ (fun K hK => ?_)
        rotate_left
        · go_simp; rfl
        refine (v_Cmp _ _ _ _ _ (0) 21 21 R1.out.2 R2.out.2 ((cmpZ_add _ _ _).trans C1.out) (by decide) (by decide)).mono ?_
        rintro _ v7 ⟨_, rfl, gn, rfl⟩
        refine ⟨_, rfl, gn, ?_⟩
        go_simp
        refine hK _ _ ?_
        clear hK K
        clear R1 R2
        have h7 := h6.trans gn
        clear gn h6
        repeat (refine wpE_readB (v := ?_) h7 rfl rfl (fun w' hg => ?_) (fun K hK => ?_); rotate_left; (go_simp; rfl); go_simp; refine hK _ _ ?_; clear hK K)
        refine wpE_fn (args := ?_) rfl rfl rfl rfl rfl rfl (by kernel_rfl) (by kernel_rfl) ?_ (fun K hK => ?_)
        rotate_left
        · go_simp; rfl
        refine (v_Neg _ _ _ _ 10 (IA0.out.grow h7) rfl (by decide)).mono ?_
        rintro _ v8 ⟨r8, rfl, gn, hr⟩
        refine ⟨_, rfl, gn, ?_⟩
        go_simp
        refine hK _ _ ?_
        clear hK K
        have R1 := Lib.hid hr
        clear hr
        have h8 := h7.trans gn
        clear gn h7
        repeat (refine wpE_readB (v := ?_) h8 rfl rfl (fun w' hg => ?_) (fun K hK => ?_); rotate_left; (go_simp; rfl); go_simp; refine hK _ _ ?_; clear hK K)
        refine wpE_fn (args := ?_) rfl rfl rfl rfl rfl rfl (by kernel_rfl) (by kernel_rfl) ?_ (fun K hK => ?_)
        rotate_left
        · go_simp; rfl
        refine (v_Neg _ _ _ _ 10 (IA1.out.grow h8) rfl (by decide)).mono ?_
        rintro _ v9 ⟨r9, rfl, gn, hr⟩
        refine ⟨_, rfl, gn, ?_⟩
        go_simp
        refine hK _ _ ?_
        clear hK K
        have R2 := Lib.hid hr
        clear hr
        have R1 := Lib.hid (R1.out.grow gn)
        have h9 := h8.trans gn
        clear gn h8
        repeat (refine wpE_readB (v := ?_) h9 rfl rfl (fun w' hg => ?_) (fun K hK => ?_); rotate_left; (go_simp; rfl); go_simp; refine hK _ _ ?_; clear hK K)
        refine wpE_fn (args := ?_) rfl rfl rfl rfl rfl rfl (by kernel_rfl) (by kernel_rfl) ?_ (fun K hK => ?_)
        rotate_left
        · go_simp; rfl
        refine (v_Cmp _ _ _ _ _ (-(0)) 10 10 R1.out.2 R2.out.2 ((cmpZ_neg _ _).trans (congrArg _ C1.out)) (by decide) (by decide)).mono ?_
        rintro _ v10 ⟨_, rfl, gn, rfl⟩
        refine ⟨_, rfl, gn, ?_⟩
        go_simp
        refine hK _ _ ?_
        clear hK K
        clear R1 R2
        have h10 := h9.trans gn
        clear gn h9
        repeat (refine wpE_readB (v := ?_) h10 rfl rfl (fun w' hg => ?_) (fun K hK => ?_); rotate_left; (go_simp; rfl); go_simp; refine hK _ _ ?_; clear hK K)
        refine wpE_fn (args := ?_) rfl rfl rfl rfl rfl rfl (by kernel_rfl) (by kernel_rfl) ?_ (fun K hK => ?_)
        rotate_left
        · go_simp; rfl
        refine (v_Mul _ _ _ _ _ _ 10 10 (IA0.out.grow h10) (IA1.out.grow h10) rfl (by decide) (by decide)).mono ?_
        rintro _ v11 ⟨r11, rfl, gn, hr⟩
        refine ⟨_, rfl, gn, ?_⟩
        go_simp
        refine hK _ _ ?_
        clear hK K
        have R1 := Lib.hid hr
        clear hr
        have h11 := h10.trans gn
        clear gn h10
        repeat (refine wpE_readB (v := ?_) h11 rfl rfl (fun w' hg => ?_) (fun K hK => ?_); rotate_left; (go_simp; rfl); go_simp; refine hK _ _ ?_; clear hK K)
        refine wpE_fn (args := ?_) rfl rfl rfl rfl rfl rfl (by kernel_rfl) (by kernel_rfl) ?_ (fun K hK => ?_)
        rotate_left
        · go_simp; rfl
        refine (v_Sign _ _ _ (s0 * s1) 21 R1.out.2 ((sgn_mul _ _).trans (by rw [S0.out, S1.out])) (by decide)).mono ?_
        rintro _ v12 ⟨_, rfl, gn, rfl⟩
        refine ⟨_, rfl, gn, ?_⟩
        go_simp
        refine hK _ _ ?_
        clear hK K
        clear R1
        have h12 := h11.trans gn
        clear gn h11
        repeat (refine wpE_readB (v := ?_) h12 rfl rfl (fun w' hg => ?_) (fun K hK => ?_); rotate_left; (go_simp; rfl); go_simp; refine hK _ _ ?_; clear hK K)
        refine wpE_fn (args := ?_) rfl rfl rfl rfl rfl rfl (by kernel_rfl) (by kernel_rfl) ?_ (fun K hK => ?_)
        rotate_left
        · go_simp; rfl
        refine (v_Sign _ _ _ s0 10 (IA0.out.grow h12) S0.out (by decide)).mono ?_
        rintro _ v13 ⟨_, rfl, gn, rfl⟩
        refine ⟨_, rfl, gn, ?_⟩
        go_simp
        refine hK _ _ ?_
        clear hK K
        have h13 := h12.trans gn
        clear gn h12
        repeat (refine wpE_readB (v := ?_) h13 rfl rfl (fun w' hg => ?_) (fun K hK => ?_); rotate_left; (go_simp; rfl); go_simp; refine hK _ _ ?_; clear hK K)
        refine wpE_fn (args := ?_) rfl rfl rfl rfl rfl rfl (by kernel_rfl) (by kernel_rfl) ?_ (fun K hK => ?_)
        rotate_left
        · go_simp; rfl
        refine (v_Sign _ _ _ s1 10 (IA1.out.grow h13) S1.out (by decide)).mono ?_
        rintro _ v14 ⟨_, rfl, gn, rfl⟩
        refine ⟨_, rfl, gn, ?_⟩
        go_simp
        refine hK _ _ ?_
        clear hK K
        have h14 := h13.trans gn
        clear gn h13
        repeat (refine wpE_readB (v := ?_) h14 rfl rfl (fun w' hg => ?_) (fun K hK => ?_); rotate_left; (go_simp; rfl); go_simp; refine hK _ _ ?_; clear hK K)
        refine wpE_nil ?_
        go_wp2_with fail
        go_ret
        exact ⟨_, rfl, HW.out.trans (G3.out.trans h14), by show Value.bool (_ && _) = Value.bool true; rw [E.out, beq_self_eq_true, Bool.and_true]; rfl⟩
      · have hl : (1 : Int) ≤ 1 := by decide
        go_wp2_with fail
        refine (v_Cmp _ _ _ _ _ _ 10 10 IA1.out IA0.out Hs.out (by decide) (by decide)).mono ?_
        rintro _ v4 ⟨_, rfl, gn, rfl⟩
        clear e0 e1 f0 f1
        go_wp2_with fail
        as_aux_lemma =>
        have IA0 := Lib.hid (IA0.out.grow gn)
        have IA1 := Lib.hid (IA1.out.grow gn)
        have IA2 := Lib.hid (IA2.out.grow gn)
        have a0 := fun w' g => a0 w' (gn.trans g)
        have d0 := fun w' g => d0 w' (gn.trans g)
        have a1 := fun w' g => a1 w' (gn.trans g)
        have d1 := fun w' g => d1 w' (gn.trans g)
        have a2 := fun w' g => a2 w' (gn.trans g)
        have d2 := fun w' g => d2 w' (gn.trans g)
        have G3 := Lib.hid (G3.out.trans gn)
        clear gn
        obtain ⟨s0, hs0⟩ : ∃ s, sgn x0 = s := ⟨_, rfl⟩
        obtain ⟨s1, hs1⟩ : ∃ s, sgn x1 = s := ⟨_, rfl⟩
        have hr := sgn_mul_range x0 x1
        rw [hs0, hs1] at hr
        obtain ⟨hr1, hr2⟩ := hr
        have E := Lib.hid (show IntKind.i64.wrap (s0 * s1) = s0 * s1 by rw [IntKind.wrap_i64]; omega)
        have S0 := Lib.hid hs0
        have S1 := Lib.hid hs1
        clear hs0 hs1
        refine wp_region_fast [(0, true), (1, true), (3, true), (4, true), (7, true), (2, false), (5, false), (6, false), (8, true), (9, true), (10, true), (12, true), (15, true), (16, true), (11, false), (13, false), (14, false), (17, true), (18, true), (19, true), (20, true), (21, true), (24, true), (26, true), (22, false), (23, false), (25, false), (27, false), (28, true), (29, true), (30, true), (31, true)] (by kernel_rfl) (by kernel_rfl) rfl (by kernel_rfl) (fun _ _ d _ _ h => by cases d <;> exact h) ?_
        have g0 : Gr v4 v4.drew := (Gr.refl _).drew
        repeat (refine wpE_readB (v := ?_) g0 rfl rfl (fun w' hg => ?_) (fun K hK => ?_); rotate_left; (go_simp; rfl); go_simp; refine hK _ _ ?_; clear hK K)
        refine wpE_fn (args := ?_) rfl rfl rfl rfl rfl rfl (by kernel_rfl) (by kernel_rfl) ?_ (fun K hK => ?_)
        rotate_left
        · go_simp; rfl
        refine (v_Add _ _ _ _ _ _ 10 10 (IA0.out.grow g0) (IA2.out.grow g0) rfl (by decide) (by decide)).mono ?_
        rintro _ v5 ⟨r5, rfl, gn, hr⟩
        refine ⟨_, rfl, gn, ?_⟩
        go_simp
        refine hK _ _ ?_
        clear hK K
        have R1 := Lib.hid hr
        clear hr
        have h5 := g0.trans gn
        clear gn g0
        repeat (refine wpE_readB (v := ?_) h5 rfl rfl (fun w' hg => ?_) (fun K hK => ?_); rotate_left; (go_simp; rfl); go_simp; refine hK _ _ ?_; clear hK K)
        refine wpE_fn (args := ?_) rfl rfl rfl rfl rfl rfl (by kernel_rfl) (by kernel_rfl) ?_ (fun K hK => ?_)
        rotate_left
        · go_simp; rfl
        refine (v_Add _ _ _ _ _ _ 10 10 (IA1.out.grow h5) (IA2.out.grow h5) rfl (by decide) (by decide)).mono ?_
        rintro _ v6 ⟨r6, rfl, gn, hr⟩
        refine ⟨_, rfl, gn, ?_⟩
        go_simp
        refine hK _ _ ?_
        clear hK K
        have R2 := Lib.hid hr
        clear hr
        have R1 := Lib.hid (R1.out.grow gn)
        have h6 := h5.trans gn
        clear gn h5
        repeat (refine wpE_readB (v := ?_) h6 rfl rfl (fun w' hg => ?_) (fun K hK => ?_); rotate_left; (go_simp; rfl); go_simp; refine hK _ _ ?_; clear hK K)
        refine wpE_fn (args := ?_) rfl rfl rfl rfl rfl rfl (by kernel_rfl) (by kernel_rfl) ?_ (fun K hK => ?_)
        rotate_left
        · go_simp; rfl
        refine (v_Cmp _ _ _ _ _ (0) 21 21 R1.out.2 R2.out.2 ((cmpZ_add _ _ _).trans C1.out) (by decide) (by decide)).mono ?_
        rintro _ v7 ⟨_, rfl, gn, rfl⟩
        refine ⟨_, rfl, gn, ?_⟩
        go_simp
        refine hK _ _ ?_
        clear hK K
        clear R1 R2
        have h7 := h6.trans gn
        clear gn h6
        repeat (refine wpE_readB (v := ?_) h7 rfl rfl (fun w' hg => ?_) (fun K hK => ?_); rotate_left; (go_simp; rfl); go_simp; refine hK _ _ ?_; clear hK K)
        refine wpE_fn (args := ?_) rfl rfl rfl rfl rfl rfl (by kernel_rfl) (by kernel_rfl) ?_ (fun K hK => ?_)
        rotate_left
        · go_simp; rfl
        refine (v_Neg _ _ _ _ 10 (IA0.out.grow h7) rfl (by decide)).mono ?_
        rintro _ v8 ⟨r8, rfl, gn, hr⟩
        refine ⟨_, rfl, gn, ?_⟩
        go_simp
        refine hK _ _ ?_
        clear hK K
        have R1 := Lib.hid hr
        clear hr
        have h8 := h7.trans gn
        clear gn h7
        repeat (refine wpE_readB (v := ?_) h8 rfl rfl (fun w' hg => ?_) (fun K hK => ?_); rotate_left; (go_simp; rfl); go_simp; refine hK _ _ ?_; clear hK K)
        refine wpE_fn (args := ?_) rfl rfl rfl rfl rfl rfl (by kernel_rfl) (by kernel_rfl) ?_ (fun K hK => ?_)
        rotate_left
        · go_simp; rfl
        refine (v_Neg _ _ _ _ 10 (IA1.out.grow h8) rfl (by decide)).mono ?_
        rintro _ v9 ⟨r9, rfl, gn, hr⟩
        refine ⟨_, rfl, gn, ?_⟩
        go_simp
        refine hK _ _ ?_
        clear hK K
        have R2 := Lib.hid hr
        clear hr
        have R1 := Lib.hid (R1.out.grow gn)
        have h9 := h8.trans gn
        clear gn h8
        repeat (refine wpE_readB (v := ?_) h9 rfl rfl (fun w' hg => ?_) (fun K hK => ?_); rotate_left; (go_simp; rfl); go_simp; refine hK _ _ ?_; clear hK K)
        refine wpE_fn (args := ?_) rfl rfl rfl rfl rfl rfl (by kernel_rfl) (by kernel_rfl) ?_ (fun K hK => ?_)
        rotate_left
        · go_simp; rfl
        refine (v_Cmp _ _ _ _ _ (-(0)) 10 10 R1.out.2 R2.out.2 ((cmpZ_neg _ _).trans (congrArg _ C1.out)) (by decide) (by decide)).mono ?_
        rintro _ v10 ⟨_, rfl, gn, rfl⟩
        refine ⟨_, rfl, gn, ?_⟩
        go_simp
        refine hK _ _ ?_
        clear hK K
        clear R1 R2
        have h10 := h9.trans gn
        clear gn h9
        repeat (refine wpE_readB (v := ?_) h10 rfl rfl (fun w' hg => ?_) (fun K hK => ?_); rotate_left; (go_simp; rfl); go_simp; refine hK _ _ ?_; clear hK K)
        refine wpE_fn (args := ?_) rfl rfl rfl rfl rfl rfl (by kernel_rfl) (by kernel_rfl) ?_ (fun K hK => ?_)
        rotate_left
        · go_simp; rfl
        refine (v_Mul _ _ _ _ _ _ 10 10 (IA0.out.grow h10) (IA1.out.grow h10) rfl (by decide) (by decide)).mono ?_
        rintro _ v11 ⟨r11, rfl, gn, hr⟩
        refine ⟨_, rfl, gn, ?_⟩
        go_simp
        refine hK _ _ ?_
        clear hK K
        have R1 := Lib.hid hr
        clear hr
        have h11 := h10.trans gn
        clear gn h10
        repeat (refine wpE_readB (v := ?_) h11 rfl rfl (fun w' hg => ?_) (fun K hK => ?_); rotate_left; (go_simp; rfl); go_simp; refine hK _ _ ?_; clear hK K)
        refine wpE_fn (args := ?_) rfl rfl rfl rfl rfl rfl (by kernel_rfl) (by kernel_rfl) ?_ (fun K hK => ?_)
        rotate_left
        · go_simp; rfl
        refine (v_Sign _ _ _ (s0 * s1) 21 R1.out.2 ((sgn_mul _ _).trans (by rw [S0.out, S1.out])) (by decide)).mono ?_
        rintro _ v12 ⟨_, rfl, gn, rfl⟩
        refine ⟨_, rfl, gn, ?_⟩
        go_simp
        refine hK _ _ ?_
        clear hK K
        clear R1
        have h12 := h11.trans gn
        clear gn h11
        repeat (refine wpE_readB (v := ?_) h12 rfl rfl (fun w' hg => ?_) (fun K hK => ?_); rotate_left; (go_simp; rfl); go_simp; refine hK _ _ ?_; clear hK K)
        refine wpE_fn (args := ?_) rfl rfl rfl rfl rfl rfl (by kernel_rfl) (by kernel_rfl) ?_ (fun K hK => ?_)
        rotate_left
        · go_simp; rfl
        refine (v_Sign _ _ _ s0 10 (IA0.out.grow h12) S0.out (by decide)).mono ?_
        rintro _ v13 ⟨_, rfl, gn, rfl⟩
        refine ⟨_, rfl, gn, ?_⟩
        go_simp
        refine hK _ _ ?_
        clear hK K
        have h13 := h12.trans gn
        clear gn h12
        repeat (refine wpE_readB (v := ?_) h13 rfl rfl (fun w' hg => ?_) (fun K hK => ?_); rotate_left; (go_simp; rfl); go_simp; refine hK _ _ ?_; clear hK K)
        refine wpE_fn (args := ?_) rfl rfl rfl rfl rfl rfl (by kernel_rfl) (by kernel_rfl) ?_ (fun K hK => ?_)
        rotate_left
        · go_simp; rfl
        refine (v_Sign _ _ _ s1 10 (IA1.out.grow h13) S1.out (by decide)).mono ?_
        rintro _ v14 ⟨_, rfl, gn, rfl⟩
        refine ⟨_, rfl, gn, ?_⟩
        go_simp
        refine hK _ _ ?_
        clear hK K
        have h14 := h13.trans gn
        clear gn h13
        repeat (refine wpE_readB (v := ?_) h14 rfl rfl (fun w' hg => ?_) (fun K hK => ?_); rotate_left; (go_simp; rfl); go_simp; refine hK _ _ ?_; clear hK K)
        refine wpE_nil ?_
        go_wp2_with fail
        go_ret
        exact ⟨_, rfl, HW.out.trans (G3.out.trans h14), by show Value.bool (_ && _) = Value.bool true; rw [E.out, beq_self_eq_true, Bool.and_true]; rfl⟩
      · have hl : (1 : Int) ≤ 1 := by decide
        go_wp2_with fail
        refine (v_Cmp _ _ _ _ _ _ 10 10 IA1.out IA0.out Hs.out (by decide) (by decide)).mono ?_
        rintro _ v4 ⟨_, rfl, gn, rfl⟩
        clear e0 e1 f0 f1
        go_wp2_with fail
        as_aux_lemma =>
        have IA0 := Lib.hid (IA0.out.grow gn)
        have IA1 := Lib.hid (IA1.out.grow gn)
        have IA2 := Lib.hid (IA2.out.grow gn)
        have a0 := fun w' g => a0 w' (gn.trans g)
        have d0 := fun w' g => d0 w' (gn.trans g)
        have a1 := fun w' g => a1 w' (gn.trans g)
        have d1 := fun w' g => d1 w' (gn.trans g)
        have a2 := fun w' g => a2 w' (gn.trans g)
        have d2 := fun w' g => d2 w' (gn.trans g)
        have G3 := Lib.hid (G3.out.trans gn)
        clear gn
        obtain ⟨s0, hs0⟩ : ∃ s, sgn x0 = s := ⟨_, rfl⟩
        obtain ⟨s1, hs1⟩ : ∃ s, sgn x1 = s := ⟨_, rfl⟩
        have hr := sgn_mul_range x0 x1
        rw [hs0, hs1] at hr
        obtain ⟨hr1, hr2⟩ := hr
        have E := Lib.hid (show IntKind.i64.wrap (s0 * s1) = s0 * s1 by rw [IntKind.wrap_i64]; omega)
        have S0 := Lib.hid hs0
        have S1 := Lib.hid hs1
        clear hs0 hs1
        refine wp_region_fast [(0, true), (1, true), (3, true), (4, true), (7, true), (2, false), (5, false), (6, false), (8, true), (9, true), (10, true), (12, true), (15, true), (16, true), (11, false), (13, false), (14, false), (17, true), (18, true), (19, true), (20, true), (21, true), (24, true), (26, true), (22, false), (23, false), (25, false), (27, false), (28, true), (29, true), (30, true), (31, true)] (by kernel_rfl) (by kernel_rfl) rfl (by kernel_rfl) (fun _ _ d _ _ h => by cases d <;> exact h) ?_
        have g0 : Gr v4 v4.drew := (Gr.refl _).drew
        repeat (refine wpE_readB (v := ?_) g0 rfl rfl (fun w' hg => ?_) (fun K hK => ?_); rotate_left; (go_simp; rfl); go_simp; refine hK _ _ ?_; clear hK K)
        refine wpE_fn (args := ?_) rfl rfl rfl rfl rfl rfl (by kernel_rfl) (by kernel_rfl) ?_ (fun K hK => ?_)
        rotate_left
        · go_simp; rfl
        refine (v_Add _ _ _ _ _ _ 10 10 (IA0.out.grow g0) (IA2.out.grow g0) rfl (by decide) (by decide)).mono ?_
        rintro _ v5 ⟨r5, rfl, gn, hr⟩
        refine ⟨_, rfl, gn, ?_⟩
        go_simp
        refine hK _ _ ?_
        clear hK K
        have R1 := Lib.hid hr
        clear hr
        have h5 := g0.trans gn
        clear gn g0
        repeat (refine wpE_readB (v := ?_) h5 rfl rfl (fun w' hg => ?_) (fun K hK => ?_); rotate_left; (go_simp; rfl); go_simp; refine hK _ _ ?_; clear hK K)
        refine wpE_fn (args := ?_) rfl rfl rfl rfl rfl rfl (by kernel_rfl) (by kernel_rfl) ?_ (fun K hK => ?_)
        rotate_left
        · go_simp; rfl
        refine (v_Add _ _ _ _ _ _ 10 10 (IA1.out.grow h5) (IA2.out.grow h5) rfl (by decide) (by decide)).mono ?_
        rintro _ v6 ⟨r6, rfl, gn, hr⟩
        refine ⟨_, rfl, gn, ?_⟩
        go_simp
        refine hK _ _ ?_
        clear hK K
        have R2 := Lib.hid hr
        clear hr
        have R1 := Lib.hid (R1.out.grow gn)
        have h6 := h5.trans gn
        clear gn h5
        repeat (refine wpE_readB (v := ?_) h6 rfl rfl (fun w' hg => ?_) (fun K hK => ?_); rotate_left; (go_simp; rfl); go_simp; refine hK _ _ ?_; clear hK K)
        refine wpE_fn (args := ?_) rfl rfl rfl rfl rfl rfl (by kernel_rfl) (by kernel_rfl) ?_ (fun K hK => ?_)
        rotate_left
        · go_simp; rfl
        refine (v_Cmp _ _ _ _ _ (0) 21 21 R1.out.2 R2.out.2 ((cmpZ_add _ _ _).trans C1.out) (by decide) (by decide)).mono ?_
        rintro _ v7 ⟨_, rfl, gn, rfl⟩
        refine ⟨_, rfl, gn, ?_⟩
        go_simp
        refine hK _ _ ?_
        clear hK K
        clear R1 R2
        have h7 := h6.trans gn
        clear gn h6
        repeat (refine wpE_readB (v := ?_) h7 rfl rfl (fun w' hg => ?_) (fun K hK => ?_); rotate_left; (go_simp; rfl); go_simp; refine hK _ _ ?_; clear hK K)
        refine wpE_fn (args := ?_) rfl rfl rfl rfl rfl rfl (by kernel_rfl) (by kernel_rfl) ?_ (fun K hK => ?_)
        rotate_left
        · go_simp; rfl
        refine (v_Neg _ _ _ _ 10 (IA0.out.grow h7) rfl (by decide)).mono ?_
        rintro _ v8 ⟨r8, rfl, gn, hr⟩
        refine ⟨_, rfl, gn, ?_⟩
        go_simp
        refine hK _ _ ?_
        clear hK K
        have R1 := Lib.hid hr
        clear hr
        have h8 := h7.trans gn
        clear gn h7
        repeat (refine wpE_readB (v := ?_) h8 rfl rfl (fun w' hg => ?_) (fun K hK => ?_); rotate_left; (go_simp; rfl); go_simp; refine hK _ _ ?_; clear hK K)
        refine wpE_fn (args := ?_) rfl rfl rfl rfl rfl rfl (by kernel_rfl) (by kernel_rfl) ?_ (fun K hK => ?_)
        rotate_left
        · go_simp; rfl
        refine (v_Neg _ _ _ _ 10 (IA1.out.grow h8) rfl (by decide)).mono ?_
        rintro _ v9 ⟨r9, rfl, gn, hr⟩
        refine ⟨_, rfl, gn, ?_⟩
        go_simp
        refine hK _ _ ?_
        clear hK K
        have R2 := Lib.hid hr
        clear hr
        have R1 := Lib.hid (R1.out.grow gn)
        have h9 := h8.trans gn
        clear gn h8
        repeat (refine wpE_readB (v := ?_) h9 rfl rfl (fun w' hg => ?_) (fun K hK => ?_); rotate_left; (go_simp; rfl); go_simp; refine hK _ _ ?_; clear hK K)
        refine wpE_fn (args := ?_) rfl rfl rfl rfl rfl rfl (by kernel_rfl) (by kernel_rfl) ?_ (fun K hK => ?_)
        rotate_left
        · go_simp; rfl
        refine (v_Cmp _ _ _ _ _ (-(0)) 10 10 R1.out.2 R2.out.2 ((cmpZ_neg _ _).trans (congrArg _ C1.out)) (by decide) (by decide)).mono ?_
        rintro _ v10 ⟨_, rfl, gn, rfl⟩
        refine ⟨_, rfl, gn, ?_⟩
        go_simp
        refine hK _ _ ?_
        clear hK K
        clear R1 R2
        have h10 := h9.trans gn
        clear gn h9
        repeat (refine wpE_readB (v := ?_) h10 rfl rfl (fun w' hg => ?_) (fun K hK => ?_); rotate_left; (go_simp; rfl); go_simp; refine hK _ _ ?_; clear hK K)
        refine wpE_fn (args := ?_) rfl rfl rfl rfl rfl rfl (by kernel_rfl) (by kernel_rfl) ?_ (fun K hK => ?_)
        rotate_left
        · go_simp; rfl
        refine (v_Mul _ _ _ _ _ _ 10 10 (IA0.out.grow h10) (IA1.out.grow h10) rfl (by decide) (by decide)).mono ?_
        rintro _ v11 ⟨r11, rfl, gn, hr⟩
        refine ⟨_, rfl, gn, ?_⟩
        go_simp
        refine hK _ _ ?_
        clear hK K
        have R1 := Lib.hid hr
        clear hr
        have h11 := h10.trans gn
        clear gn h10
        repeat (refine wpE_readB (v := ?_) h11 rfl rfl (fun w' hg => ?_) (fun K hK => ?_); rotate_left; (go_simp; rfl); go_simp; refine hK _ _ ?_; clear hK K)
        refine wpE_fn (args := ?_) rfl rfl rfl rfl rfl rfl (by kernel_rfl) (by kernel_rfl) ?_ (fun K hK => ?_)
        rotate_left
        · go_simp; rfl
        refine (v_Sign _ _ _ (s0 * s1) 21 R1.out.2 ((sgn_mul _ _).trans (by rw [S0.out, S1.out])) (by decide)).mono ?_
        rintro _ v12 ⟨_, rfl, gn, rfl⟩
        refine ⟨_, rfl, gn, ?_⟩
        go_simp
        refine hK _ _ ?_
        clear hK K
        clear R1
        have h12 := h11.trans gn
        clear gn h11
        repeat (refine wpE_readB (v := ?_) h12 rfl rfl (fun w' hg => ?_) (fun K hK => ?_); rotate_left; (go_simp; rfl); go_simp; refine hK _ _ ?_; clear hK K)
        refine wpE_fn (args := ?_) rfl rfl rfl rfl rfl rfl (by kernel_rfl) (by kernel_rfl) ?_ (fun K hK => ?_)
        rotate_left
        · go_simp; rfl
        refine (v_Sign _ _ _ s0 10 (IA0.out.grow h12) S0.out (by decide)).mono ?_
        rintro _ v13 ⟨_, rfl, gn, rfl⟩
        refine ⟨_, rfl, gn, ?_⟩
        go_simp
        refine hK _ _ ?_
        clear hK K
        have h13 := h12.trans gn
        clear gn h12
        repeat (refine wpE_readB (v := ?_) h13 rfl rfl (fun w' hg => ?_) (fun K hK => ?_); rotate_left; (go_simp; rfl); go_simp; refine hK _ _ ?_; clear hK K)
        refine wpE_fn (args := ?_) rfl rfl rfl rfl rfl rfl (by kernel_rfl) (by kernel_rfl) ?_ (fun K hK => ?_)
        rotate_left
        · go_simp; rfl
        refine (v_Sign _ _ _ s1 10 (IA1.out.grow h13) S1.out (by decide)).mono ?_
        rintro _ v14 ⟨_, rfl, gn, rfl⟩
        refine ⟨_, rfl, gn, ?_⟩
        go_simp
        refine hK _ _ ?_
        clear hK K
        have h14 := h13.trans gn
        clear gn h13
        repeat (refine wpE_readB (v := ?_) h14 rfl rfl (fun w' hg => ?_) (fun K hK => ?_); rotate_left; (go_simp; rfl); go_simp; refine hK _ _ ?_; clear hK K)
        refine wpE_nil ?_
        go_wp2_with fail
        go_ret
        exact ⟨_, rfl, HW.out.trans (G3.out.trans h14), by show Value.bool (_ && _) = Value.bool true; rw [E.out, beq_self_eq_true, Bool.and_true]; rfl⟩
    · have hl : (1 : Int) ≤ 1 := by decide
      go_wp2_with fail
      refine (v_Cmp _ _ _ _ _ _ 10 10 IA1.out IA0.out Hs.out (by decide) (by decide)).mono ?_
      rintro _ v4 ⟨_, rfl, gn, rfl⟩
      clear e0 e1 f0 f1
      go_wp2_with fail
      as_aux_lemma =>
      have IA0 := Lib.hid (IA0.out.grow gn)
      have IA1 := Lib.hid (IA1.out.grow gn)
      have IA2 := Lib.hid (IA2.out.grow gn)
      have a0 := fun w' g => a0 w' (gn.trans g)
      have d0 := fun w' g => d0 w' (gn.trans g)
      have a1 := fun w' g => a1 w' (gn.trans g)
      have d1 := fun w' g => d1 w' (gn.trans g)
      have a2 := fun w' g => a2 w' (gn.trans g)
      have d2 := fun w' g => d2 w' (gn.trans g)
      have G3 := Lib.hid (G3.out.trans gn)
      clear gn
      obtain ⟨s0, hs0⟩ : ∃ s, sgn x0 = s := ⟨_, rfl⟩
      obtain ⟨s1, hs1⟩ : ∃ s, sgn x1 = s := ⟨_, rfl⟩
      have hr := sgn_mul_range x0 x1
      rw [hs0, hs1] at hr
      obtain ⟨hr1, hr2⟩ := hr
      have E := Lib.hid (show IntKind.i64.wrap (s0 * s1) = s0 * s1 by rw [IntKind.wrap_i64]; omega)
      have S0 := Lib.hid hs0
      have S1 := Lib.hid hs1
      clear hs0 hs1
      refine wp_region_fast [(0, true), (1, true), (3, true), (4, true), (7, true), (2, false), (5, false), (6, false), (8, true), (9, true), (10, true), (12, true), (15, true), (16, true), (11, false), (13, false), (14, false), (17, true), (18, true), (19, true), (20, true), (21, true), (24, true), (26, true), (22, false), (23, false), (25, false), (27, false), (28, true), (29, true), (30, true), (31, true)] (by kernel_rfl) (by kernel_rfl) rfl (by kernel_rfl) (fun _ _ d _ _ h => by cases d <;> exact h) ?_
      have g0 : Gr v4 v4.drew := (Gr.refl _).drew
      repeat (refine wpE_readB (v := ?_) g0 rfl rfl (fun w' hg => ?_) (fun K hK => ?_); rotate_left; (go_simp; rfl); go_simp; refine hK _ _ ?_; clear hK K)
      refine wpE_fn (args := ?_) rfl rfl rfl rfl rfl rfl (by kernel_rfl) (by kernel_rfl) ?_ (fun K hK => ?_)
      rotate_left
      · go_simp; rfl
      refine (v_Add _ _ _ _ _ _ 10 10 (IA0.out.grow g0) (IA2.out.grow g0) rfl (by decide) (by decide)).mono ?_
      rintro _ v5 ⟨r5, rfl, gn, hr⟩
      refine ⟨_, rfl, gn, ?_⟩
      go_simp
      refine hK _ _ ?_
      clear hK K
      have R1 := Lib.hid hr
      clear hr
      have h5 := g0.trans gn
      clear gn g0
      repeat (refine wpE_readB (v := ?_) h5 rfl rfl (fun w' hg => ?_) (fun K hK => ?_); rotate_left; (go_simp; rfl); go_simp; refine hK _ _ ?_; clear hK K)
      refine wpE_fn (args := ?_) rfl rfl rfl rfl rfl rfl (by kernel_rfl) (by kernel_rfl) ?_ (fun K hK => ?_)
      rotate_left
      · go_simp; rfl
      refine (v_Add _ _ _ _ _ _ 10 10 (IA1.out.grow h5) (IA2.out.grow h5) rfl (by decide) (by decide)).mono ?_
      rintro _ v6 ⟨r6, rfl, gn, hr⟩
      refine ⟨_, rfl, gn, ?_⟩
      go_simp
      refine hK _ _ ?_
      clear hK K
      have R2 := Lib.hid hr
      clear hr
      have R1 := Lib.hid (R1.out.grow gn)
      have h6 := h5.trans gn
      clear gn h5
      repeat (refine wpE_readB (v := ?_) h6 rfl rfl (fun w' hg => ?_) (fun K hK => ?_); rotate_left; (go_simp; rfl); go_simp; refine hK _ _ ?_; clear hK K)
      refine wpE_fn (args := ?_) rfl rfl rfl rfl rfl rfl (by kernel_rfl) (by kernel_rfl) ?_ (fun K hK => ?_)
      rotate_left
      · go_simp; rfl
      refine (v_Cmp _ _ _ _ _ (1) 21 21 R1.out.2 R2.out.2 ((cmpZ_add _ _ _).trans C1.out) (by decide) (by decide)).mono ?_
      rintro _ v7 ⟨_, rfl, gn, rfl⟩
      refine ⟨_, rfl, gn, ?_⟩
      go_simp
      refine hK _ _ ?_
      clear hK K
      clear R1 R2
      have h7 := h6.trans gn
      clear gn h6
      repeat (refine wpE_readB (v := ?_) h7 rfl rfl (fun w' hg => ?_) (fun K hK => ?_); rotate_left; (go_simp; rfl); go_simp; refine hK _ _ ?_; clear hK K)
      refine wpE_fn (args := ?_) rfl rfl rfl rfl rfl rfl (by kernel_rfl) (by kernel_rfl) ?_ (fun K hK => ?_)
      rotate_left
      · go_simp; rfl
      refine (v_Neg _ _ _ _ 10 (IA0.out.grow h7) rfl (by decide)).mono ?_
      rintro _ v8 ⟨r8, rfl, gn, hr⟩
      refine ⟨_, rfl, gn, ?_⟩
      go_simp
      refine hK _ _ ?_
      clear hK K
      have R1 := Lib.hid hr
      clear hr
      have h8 := h7.trans gn
      clear gn h7
      repeat (refine wpE_readB (v := ?_) h8 rfl rfl (fun w' hg => ?_) (fun K hK => ?_); rotate_left; (go_simp; rfl); go_simp; refine hK _ _ ?_; clear hK K)
      refine wpE_fn (args := ?_) rfl rfl rfl rfl rfl rfl (by kernel_rfl) (by kernel_rfl) ?_ (fun K hK => ?_)
      rotate_left
      · go_simp; rfl
      refine (v_Neg _ _ _ _ 10 (IA1.out.grow h8) rfl (by decide)).mono ?_
      rintro _ v9 ⟨r9, rfl, gn, hr⟩
      refine ⟨_, rfl, gn, ?_⟩
      go_simp
      refine hK _ _ ?_
      clear hK K
      have R2 := Lib.hid hr
      clear hr
      have R1 := Lib.hid (R1.out.grow gn)
      have h9 := h8.trans gn
      clear gn h8
      repeat (refine wpE_readB (v := ?_) h9 rfl rfl (fun w' hg => ?_) (fun K hK => ?_); rotate_left; (go_simp; rfl); go_simp; refine hK _ _ ?_; clear hK K)
      refine wpE_fn (args := ?_) rfl rfl rfl rfl rfl rfl (by kernel_rfl) (by kernel_rfl) ?_ (fun K hK => ?_)
      rotate_left
      · go_simp; rfl
      refine (v_Cmp _ _ _ _ _ (-(1)) 10 10 R1.out.2 R2.out.2 ((cmpZ_neg _ _).trans (congrArg _ C1.out)) (by decide) (by decide)).mono ?_
      rintro _ v10 ⟨_, rfl, gn, rfl⟩
      refine ⟨_, rfl, gn, ?_⟩
      go_simp
      refine hK _ _ ?_
      clear hK K
      clear R1 R2
      have h10 := h9.trans gn
      clear gn h9
      repeat (refine wpE_readB (v := ?_) h10 rfl rfl (fun w' hg => ?_) (fun K hK => ?_); rotate_left; (go_simp; rfl); go_simp; refine hK _ _ ?_; clear hK K)
      refine wpE_fn (args := ?_) rfl rfl rfl rfl rfl rfl (by kernel_rfl) (by kernel_rfl) ?_ (fun K hK => ?_)
      rotate_left
      · go_simp; rfl
      refine (v_Mul _ _ _ _ _ _ 10 10 (IA0.out.grow h10) (IA1.out.grow h10) rfl (by decide) (by decide)).mono ?_
      rintro _ v11 ⟨r11, rfl, gn, hr⟩
      refine ⟨_, rfl, gn, ?_⟩
      go_simp
      refine hK _ _ ?_
      clear hK K
      have R1 := Lib.hid hr
      clear hr
      have h11 := h10.trans gn
      clear gn h10
      repeat (refine wpE_readB (v := ?_) h11 rfl rfl (fun w' hg => ?_) (fun K hK => ?_); rotate_left; (go_simp; rfl); go_simp; refine hK _ _ ?_; clear hK K)
      refine wpE_fn (args := ?_) rfl rfl rfl rfl rfl rfl (by kernel_rfl) (by kernel_rfl) ?_ (fun K hK => ?_)
      rotate_left
      · go_simp; rfl
      refine (v_Sign _ _ _ (s0 * s1) 21 R1.out.2 ((sgn_mul _ _).trans (by rw [S0.out, S1.out])) (by decide)).mono ?_
      rintro _ v12 ⟨_, rfl, gn, rfl⟩
      refine ⟨_, rfl, gn, ?_⟩
      go_simp
      refine hK _ _ ?_
      clear hK K
      clear R1
      have h12 := h11.trans gn
      clear gn h11
      repeat (refine wpE_readB (v := ?_) h12 rfl rfl (fun w' hg => ?_) (fun K hK => ?_); rotate_left; (go_simp; rfl); go_simp; refine hK _ _ ?_; clear hK K)
      refine wpE_fn (args := ?_) rfl rfl rfl rfl rfl rfl (by kernel_rfl) (by kernel_rfl) ?_ (fun K hK => ?_)
      rotate_left
      · go_simp; rfl
      refine (v_Sign _ _ _ s0 10 (IA0.out.grow h12) S0.out (by decide)).mono ?_
      rintro _ v13 ⟨_, rfl, gn, rfl⟩
      refine ⟨_, rfl, gn, ?_⟩
      go_simp
      refine hK _ _ ?_
      clear hK K
      have h13 := h12.trans gn
      clear gn h12
      repeat (refine wpE_readB (v := ?_) h13 rfl rfl (fun w' hg => ?_) (fun K hK => ?_); rotate_left; (go_simp; rfl); go_simp; refine hK _ _ ?_; clear hK K)
      refine wpE_fn (args := ?_) rfl rfl rfl rfl rfl rfl (by kernel_rfl) (by kernel_rfl) ?_ (fun K hK => ?_)
      rotate_left
      · go_simp; rfl
      refine (v_Sign _ _ _ s1 10 (IA1.out.grow h13) S1.out (by decide)).mono ?_
      rintro _ v14 ⟨_, rfl, gn, rfl⟩
      refine ⟨_, rfl, gn, ?_⟩
      go_simp
      refine hK _ _ ?_
      clear hK K
      have h14 := h13.trans gn
      clear gn h13
      repeat (refine wpE_readB (v := ?_) h14 rfl rfl (fun w' hg => ?_) (fun K hK => ?_); rotate_left; (go_simp; rfl); go_simp; refine hK _ _ ?_; clear hK K)
      refine wpE_nil ?_
      go_wp2_with fail
      go_ret
      exact ⟨_, rfl, HW.out.trans (G3.out.trans h14), by show Value.bool (_ && _) = Value.bool true; rw [E.out, beq_self_eq_true, Bool.and_true]; rfl⟩

end Go.Proofs.Ytpjblmedcipopaa

/-
  IntegerRing: the walk (printed by lawgen.py).
-/
import Derived.Test.YtpjblmedcipopaaLawC
import Derived.Test.YtpjblmedcipopaaFast
namespace Go.Proofs.Ytpjblmedcipopaa
open Go.RowKit
set_option linter.unusedVariables false
set_option linter.unusedSimpArgs false

set_option maxRecDepth 100000 in
set_option maxHeartbeats 6400000 in
theorem law_Ring (w : World) (va : Value) (n0 : Bool) (l0 : List Nat) (i0 : IntL w va n0 l0) (vb : Value) (n1 : Bool) (l1 : List Nat) (i1 : IntL w vb n1 l1) (vc : Value) (n2 : Bool) (l2 : List Nat) (i2 : IntL w vc n2 l2) :
    Calls Try.prog 4 #[va, vb, vc] w (Ret w fun r w' => r = .bool true) := by
  have HA0 := Lib.hid i0
  have HA1 := Lib.hid i1
  have HA2 := Lib.hid i2
  obtain ⟨p0, k0, c0, rfl, i0⟩ := i0
  obtain ⟨p1, k1, c1, rfl, i1⟩ := i1
  obtain ⟨p2, k2, c2, rfl, i2⟩ := i2
  have hl0 := Lib.hid i0.len
  have hl1 := Lib.hid i1.len
  have hl2 := Lib.hid i2.len
  have B := boxed3 w (.bool n0) (.slice p0 k0 c0) (.bool n1) (.slice p1 k1 c1) (.bool n2) (.slice p2 k2 c2) 25 25 25
  clear i0 i1 i2
  go_enter Try.func4, Try.ntmps4
  go_wp2_with fail
  generalize ((w.alloc _).alloc _).alloc _ = W at B ⊢
  obtain ⟨G0, t0, t1, t2⟩ := B
  generalize w.heap.size = b0 at t0 t1 t2 ⊢
  have HW := Lib.hid G0
  have T0 := Lib.hid t0
  have T1 := Lib.hid t1
  have T2 := Lib.hid t2
  clear G0 t0 t1 t2
  refine (law_awake W).mono ?_
  rintro _ w1 ⟨_, rfl, g1, rfl⟩
  have a0 := T0.out.c0 w1 g1
  have d0 := T0.out.c1 w1 g1
  have a1 := T1.out.c0 w1 g1
  have d1 := T1.out.c1 w1 g1
  have a2 := T2.out.c0 w1 g1
  have d2 := T2.out.c1 w1 g1
  have G1 := Lib.hid g1
  clear g1
  go_wp2_with fail
  obtain ⟨t, ht⟩ : ∃ t, decide (∀ i, i < 3 → (if i = 0 then k0 else if i = 1 then k1 else k2) ≤ 10) = t := ⟨_, rfl⟩
  have HT := Lib.hid ht
  refine (law_few _ _ 3 3 (fun i => if i = 0 then n0 else if i = 1 then n1 else n2) (fun i => if i = 0 then p0 else if i = 1 then p1 else p2) (fun i => if i = 0 then k0 else if i = 1 then k1 else k2) (fun i => if i = 0 then c0 else if i = 1 then c1 else c2) (by decide) (by decide) t ht (fun i hi => ?_)).mono ?_
  · match i, hi with
    | 0, _ => exact ⟨cell_new _ _ _ _, cell_new _ _ _ _⟩
    | 1, _ => exact ⟨cell_new _ _ _ _, cell_new _ _ _ _⟩
    | 2, _ => exact ⟨cell_new _ _ _ _, cell_new _ _ _ _⟩
  rintro _ w3 ⟨_, rfl, g3, rfl⟩
  have G3 := Lib.hid (G1.out.trans (((Gr.refl w1).alloc _).trans g3))
  clear a0 d0 a1 d1 a2 d2 g3 G1
  cases t
  · clear ht
    go_wp2_with fail
    refine (law_awake w3).mono ?_
    rintro _ w4 ⟨_, rfl, g4, rfl⟩
    have G4 := Lib.hid g4
    clear g4
    go_wp2_with fail
    go_ret
    exact ⟨_, rfl, HW.out.trans (G3.out.trans G4.out), rfl⟩
  · have hh := of_decide_eq_true ht
    have m0 : k0 ≤ 10 := hh 0 (by decide)
    have IA0 := Lib.hid (show IntV w3 _ _ 10 from ⟨n0, l0, HA0.out.grow (HW.out.trans G3.out), rfl, by rw [hl0.out]; exact m0⟩)
    have a0 := (T0.out.grow G3.out).c0
    have d0 := (T0.out.grow G3.out).c1
    have m1 : k1 ≤ 10 := hh 1 (by decide)
    have IA1 := Lib.hid (show IntV w3 _ _ 10 from ⟨n1, l1, HA1.out.grow (HW.out.trans G3.out), rfl, by rw [hl1.out]; exact m1⟩)
    have a1 := (T1.out.grow G3.out).c0
    have d1 := (T1.out.grow G3.out).c1
    have m2 : k2 ≤ 10 := hh 2 (by decide)
    have IA2 := Lib.hid (show IntV w3 _ _ 10 from ⟨n2, l2, HA2.out.grow (HW.out.trans G3.out), rfl, by rw [hl2.out]; exact m2⟩)
    have a2 := (T2.out.grow G3.out).c0
    have d2 := (T2.out.grow G3.out).c1
    generalize zval n0 l0 = x0 at IA0
    generalize zval n1 l1 = x1 at IA1
    generalize zval n2 l2 = x2 at IA2
    clear hh ht m0 m1 m2
    go_wp2_with fail
    refine wp_region_fast [(0, true), (1, true), (2, true), (4, true), (5, true), (3, false), (6, false), (7, false), (8, true), (9, true), (10, true), (11, true), (13, true), (14, true), (12, false), (15, false), (16, false), (17, true), (18, true), (19, true), (20, true), (21, true), (23, true), (25, true), (26, true), (27, true), (22, false), (24, false), (28, false), (29, false), (30, false), (31, true), (32, true), (33, true), (34, true), (35, true), (37, true), (39, true), (40, true), (41, true), (36, false), (38, false), (42, false), (43, false), (44, false), (45, true), (46, true), (47, true), (48, true), (49, true), (50, true), (53, true), (54, true), (56, true), (57, true), (51, false), (52, false), (55, false), (58, false), (59, false), (60, false), (61, true), (62, true), (63, true), (64, true), (65, false), (66, false), (67, false), (68, true), (69, true), (70, true), (71, true), (72, true), (73, true), (75, true), (77, true), (78, true), (74, false), (76, false), (79, false), (80, false), (81, true), (82, true)] (by kernel_rfl) (by kernel_rfl) rfl (by kernel_rfl) (fun _ _ d _ _ h => by cases d <;> exact h) ?_
    have g0 : Gr w3 w3.drew := (Gr.refl w3).drew
    repeat (refine wpE_readB (v := ?_) g0 rfl rfl (fun w' hg => ?_) (fun K hK => ?_); rotate_left; (go_simp; rfl); go_simp; refine hK _ _ ?_; clear hK K)
    refine wpE_fn (args := ?_) rfl rfl rfl rfl rfl rfl (by kernel_rfl) (by kernel_rfl) ?_ (fun K hK => ?_)
    rotate_left
    · go_simp; rfl
    refine (v_Add _ _ _ _ _ _ 10 10 (IA0.out.grow g0) (IA1.out.grow g0) rfl (by decide) (by decide)).mono ?_
    rintro _ v1 ⟨r1, rfl, gn, hr⟩
    refine ⟨_, rfl, gn, ?_⟩
    go_simp
    refine hK _ _ ?_
    clear hK K
    have HR1 := Lib.hid hr
    clear hr
    have h1 := g0.trans gn
    clear gn g0
    repeat (refine wpE_readB (v := ?_) h1 rfl rfl (fun w' hg => ?_) (fun K hK => ?_); rotate_left; (go_simp; rfl); go_simp; refine hK _ _ ?_; clear hK K)
    refine wpE_fn (args := ?_) rfl rfl rfl rfl rfl rfl (by kernel_rfl) (by kernel_rfl) ?_ (fun K hK => ?_)
    rotate_left
    · go_simp; rfl
    refine (v_Add _ _ _ _ _ _ 10 10 (IA1.out.grow h1) (IA0.out.grow h1) rfl (by decide) (by decide)).mono ?_
    rintro _ v2 ⟨r2, rfl, gn, hr⟩
    refine ⟨_, rfl, gn, ?_⟩
    go_simp
    refine hK _ _ ?_
    clear hK K
    have HR2 := Lib.hid hr
    clear hr
    have HR1 := Lib.hid (HR1.out.grow gn)
    have h2 := h1.trans gn
    clear gn h1
    repeat (refine wpE_readB (v := ?_) h2 rfl rfl (fun w' hg => ?_) (fun K hK => ?_); rotate_left; (go_simp; rfl); go_simp; refine hK _ _ ?_; clear hK K)
    refine wpE_fn (args := ?_) rfl rfl rfl rfl rfl rfl (by kernel_rfl) (by kernel_rfl) ?_ (fun K hK => ?_)
    rotate_left
    · go_simp; rfl
    refine (v_Same2 _ _ _ _ _ 21 21 HR1.out HR2.out (by first | rfl | exact Int.add_comm _ _ | exact Int.mul_comm _ _ | exact Int.add_assoc _ _ _ | exact Int.mul_assoc _ _ _ | exact Int.mul_add _ _ _ | omega)).mono ?_
    rintro _ v3 ⟨_, rfl, gn, rfl⟩
    refine ⟨_, rfl, gn, ?_⟩
    go_simp
    refine hK _ _ ?_
    clear hK K
    clear HR1
    clear HR2
    have h3 := h2.trans gn
    clear gn h2
    repeat (refine wpE_readB (v := ?_) h3 rfl rfl (fun w' hg => ?_) (fun K hK => ?_); rotate_left; (go_simp; rfl); go_simp; refine hK _ _ ?_; clear hK K)
    as_aux_lemma =>
    refine wpE_fn (args := ?_) rfl rfl rfl rfl rfl rfl (by kernel_rfl) (by kernel_rfl) ?_ (fun K hK => ?_)
    rotate_left
    · go_simp; rfl
    refine (v_Mul _ _ _ _ _ _ 10 10 (IA0.out.grow h3) (IA1.out.grow h3) rfl (by decide) (by decide)).mono ?_
    rintro _ v4 ⟨r4, rfl, gn, hr⟩
    refine ⟨_, rfl, gn, ?_⟩
    go_simp
    refine hK _ _ ?_
    clear hK K
    have HR4 := Lib.hid hr
    clear hr
    have h4 := h3.trans gn
    clear gn h3
    repeat (refine wpE_readB (v := ?_) h4 rfl rfl (fun w' hg => ?_) (fun K hK => ?_); rotate_left; (go_simp; rfl); go_simp; refine hK _ _ ?_; clear hK K)
    refine wpE_fn (args := ?_) rfl rfl rfl rfl rfl rfl (by kernel_rfl) (by kernel_rfl) ?_ (fun K hK => ?_)
    rotate_left
    · go_simp; rfl
    refine (v_Mul _ _ _ _ _ _ 10 10 (IA1.out.grow h4) (IA0.out.grow h4) rfl (by decide) (by decide)).mono ?_
    rintro _ v5 ⟨r5, rfl, gn, hr⟩
    refine ⟨_, rfl, gn, ?_⟩
    go_simp
    refine hK _ _ ?_
    clear hK K
    have HR5 := Lib.hid hr
    clear hr
    have HR4 := Lib.hid (HR4.out.grow gn)
    have h5 := h4.trans gn
    clear gn h4
    repeat (refine wpE_readB (v := ?_) h5 rfl rfl (fun w' hg => ?_) (fun K hK => ?_); rotate_left; (go_simp; rfl); go_simp; refine hK _ _ ?_; clear hK K)
    refine wpE_fn (args := ?_) rfl rfl rfl rfl rfl rfl (by kernel_rfl) (by kernel_rfl) ?_ (fun K hK => ?_)
    rotate_left
    · go_simp; rfl
    refine (v_Same2 _ _ _ _ _ 21 21 HR4.out HR5.out (by first | rfl | exact Int.add_comm _ _ | exact Int.mul_comm _ _ | exact Int.add_assoc _ _ _ | exact Int.mul_assoc _ _ _ | exact Int.mul_add _ _ _ | omega)).mono ?_
    rintro _ v6 ⟨_, rfl, gn, rfl⟩
    refine ⟨_, rfl, gn, ?_⟩
    go_simp
    refine hK _ _ ?_
    clear hK K
    clear HR4
    clear HR5
    have h6 := h5.trans gn
    clear gn h5
    repeat (refine wpE_readB (v := ?_) h6 rfl rfl (fun w' hg => ?_) (fun K hK => ?_); rotate_left; (go_simp; rfl); go_simp; refine hK _ _ ?_; clear hK K)
    as_aux_lemma =>
    refine wpE_fn (args := ?_) rfl rfl rfl rfl rfl rfl (by kernel_rfl) (by kernel_rfl) ?_ (fun K hK => ?_)
    rotate_left
    · go_simp; rfl
    refine (v_Add _ _ _ _ _ _ 10 10 (IA0.out.grow h6) (IA1.out.grow h6) rfl (by decide) (by decide)).mono ?_
    rintro _ v7 ⟨r7, rfl, gn, hr⟩
    refine ⟨_, rfl, gn, ?_⟩
    go_simp
    refine hK _ _ ?_
    clear hK K
    have HR7 := Lib.hid hr
    clear hr
    have h7 := h6.trans gn
    clear gn h6
    repeat (refine wpE_readB (v := ?_) h7 rfl rfl (fun w' hg => ?_) (fun K hK => ?_); rotate_left; (go_simp; rfl); go_simp; refine hK _ _ ?_; clear hK K)
    refine wpE_fn (args := ?_) rfl rfl rfl rfl rfl rfl (by kernel_rfl) (by kernel_rfl) ?_ (fun K hK => ?_)
    rotate_left
    · go_simp; rfl
    refine (v_Add _ _ _ _ _ _ 21 10 HR7.out.2 (IA2.out.grow h7) rfl (by decide) (by decide)).mono ?_
    rintro _ v8 ⟨r8, rfl, gn, hr⟩
    refine ⟨_, rfl, gn, ?_⟩
    go_simp
    refine hK _ _ ?_
    clear hK K
    have HR8 := Lib.hid hr
    clear hr
    clear HR7
    have h8 := h7.trans gn
    clear gn h7
    repeat (refine wpE_readB (v := ?_) h8 rfl rfl (fun w' hg => ?_) (fun K hK => ?_); rotate_left; (go_simp; rfl); go_simp; refine hK _ _ ?_; clear hK K)
    refine wpE_fn (args := ?_) rfl rfl rfl rfl rfl rfl (by kernel_rfl) (by kernel_rfl) ?_ (fun K hK => ?_)
    rotate_left
    · go_simp; rfl
    refine (v_Add _ _ _ _ _ _ 10 10 (IA1.out.grow h8) (IA2.out.grow h8) rfl (by decide) (by decide)).mono ?_
    rintro _ v9 ⟨r9, rfl, gn, hr⟩
    refine ⟨_, rfl, gn, ?_⟩
    go_simp
    refine hK _ _ ?_
    clear hK K
    have HR9 := Lib.hid hr
    clear hr
    have HR8 := Lib.hid (HR8.out.grow gn)
    have h9 := h8.trans gn
    clear gn h8
    repeat (refine wpE_readB (v := ?_) h9 rfl rfl (fun w' hg => ?_) (fun K hK => ?_); rotate_left; (go_simp; rfl); go_simp; refine hK _ _ ?_; clear hK K)
    refine wpE_fn (args := ?_) rfl rfl rfl rfl rfl rfl (by kernel_rfl) (by kernel_rfl) ?_ (fun K hK => ?_)
    rotate_left
    · go_simp; rfl
    refine (v_Add _ _ _ _ _ _ 10 21 (IA0.out.grow h9) HR9.out.2 rfl (by decide) (by decide)).mono ?_
    rintro _ v10 ⟨r10, rfl, gn, hr⟩
    refine ⟨_, rfl, gn, ?_⟩
    go_simp
    refine hK _ _ ?_
    clear hK K
    have HR10 := Lib.hid hr
    clear hr
    have HR8 := Lib.hid (HR8.out.grow gn)
    clear HR9
    have h10 := h9.trans gn
    clear gn h9
    repeat (refine wpE_readB (v := ?_) h10 rfl rfl (fun w' hg => ?_) (fun K hK => ?_); rotate_left; (go_simp; rfl); go_simp; refine hK _ _ ?_; clear hK K)
    refine wpE_fn (args := ?_) rfl rfl rfl rfl rfl rfl (by kernel_rfl) (by kernel_rfl) ?_ (fun K hK => ?_)
    rotate_left
    · go_simp; rfl
    refine (v_Same2 _ _ _ _ _ 32 32 HR8.out HR10.out (by first | rfl | exact Int.add_comm _ _ | exact Int.mul_comm _ _ | exact Int.add_assoc _ _ _ | exact Int.mul_assoc _ _ _ | exact Int.mul_add _ _ _ | omega)).mono ?_
    rintro _ v11 ⟨_, rfl, gn, rfl⟩
    refine ⟨_, rfl, gn, ?_⟩
    go_simp
    refine hK _ _ ?_
    clear hK K
    clear HR8
    clear HR10
    have h11 := h10.trans gn
    clear gn h10
    repeat (refine wpE_readB (v := ?_) h11 rfl rfl (fun w' hg => ?_) (fun K hK => ?_); rotate_left; (go_simp; rfl); go_simp; refine hK _ _ ?_; clear hK K)
    as_aux_lemma =>
    refine wpE_fn (args := ?_) rfl rfl rfl rfl rfl rfl (by kernel_rfl) (by kernel_rfl) ?_ (fun K hK => ?_)
    rotate_left
    · go_simp; rfl
    refine (v_Mul _ _ _ _ _ _ 10 10 (IA0.out.grow h11) (IA1.out.grow h11) rfl (by decide) (by decide)).mono ?_
    rintro _ v12 ⟨r12, rfl, gn, hr⟩
    refine ⟨_, rfl, gn, ?_⟩
    go_simp
    refine hK _ _ ?_
    clear hK K
    have HR12 := Lib.hid hr
    clear hr
    have h12 := h11.trans gn
    clear gn h11
    repeat (refine wpE_readB (v := ?_) h12 rfl rfl (fun w' hg => ?_) (fun K hK => ?_); rotate_left; (go_simp; rfl); go_simp; refine hK _ _ ?_; clear hK K)
    refine wpE_fn (args := ?_) rfl rfl rfl rfl rfl rfl (by kernel_rfl) (by kernel_rfl) ?_ (fun K hK => ?_)
    rotate_left
    · go_simp; rfl
    refine (v_Mul _ _ _ _ _ _ 21 10 HR12.out.2 (IA2.out.grow h12) rfl (by decide) (by decide)).mono ?_
    rintro _ v13 ⟨r13, rfl, gn, hr⟩
    refine ⟨_, rfl, gn, ?_⟩
    go_simp
    refine hK _ _ ?_
    clear hK K
    have HR13 := Lib.hid hr
    clear hr
    clear HR12
    have h13 := h12.trans gn
    clear gn h12
    repeat (refine wpE_readB (v := ?_) h13 rfl rfl (fun w' hg => ?_) (fun K hK => ?_); rotate_left; (go_simp; rfl); go_simp; refine hK _ _ ?_; clear hK K)
    refine wpE_fn (args := ?_) rfl rfl rfl rfl rfl rfl (by kernel_rfl) (by kernel_rfl) ?_ (fun K hK => ?_)
    rotate_left
    · go_simp; rfl
    refine (v_Mul _ _ _ _ _ _ 10 10 (IA1.out.grow h13) (IA2.out.grow h13) rfl (by decide) (by decide)).mono ?_
    rintro _ v14 ⟨r14, rfl, gn, hr⟩
    refine ⟨_, rfl, gn, ?_⟩
    go_simp
    refine hK _ _ ?_
    clear hK K
    have HR14 := Lib.hid hr
    clear hr
    have HR13 := Lib.hid (HR13.out.grow gn)
    have h14 := h13.trans gn
    clear gn h13
    repeat (refine wpE_readB (v := ?_) h14 rfl rfl (fun w' hg => ?_) (fun K hK => ?_); rotate_left; (go_simp; rfl); go_simp; refine hK _ _ ?_; clear hK K)
    refine wpE_fn (args := ?_) rfl rfl rfl rfl rfl rfl (by kernel_rfl) (by kernel_rfl) ?_ (fun K hK => ?_)
    rotate_left
    · go_simp; rfl
    refine (v_Mul _ _ _ _ _ _ 10 21 (IA0.out.grow h14) HR14.out.2 rfl (by decide) (by decide)).mono ?_
    rintro _ v15 ⟨r15, rfl, gn, hr⟩
    refine ⟨_, rfl, gn, ?_⟩
    go_simp
    refine hK _ _ ?_
    clear hK K
    have HR15 := Lib.hid hr
    clear hr
    have HR13 := Lib.hid (HR13.out.grow gn)
    clear HR14
    have h15 := h14.trans gn
    clear gn h14
    repeat (refine wpE_readB (v := ?_) h15 rfl rfl (fun w' hg => ?_) (fun K hK => ?_); rotate_left; (go_simp; rfl); go_simp; refine hK _ _ ?_; clear hK K)
    refine wpE_fn (args := ?_) rfl rfl rfl rfl rfl rfl (by kernel_rfl) (by kernel_rfl) ?_ (fun K hK => ?_)
    rotate_left
    · go_simp; rfl
    refine (v_Same2 _ _ _ _ _ 32 32 HR13.out HR15.out (by first | rfl | exact Int.add_comm _ _ | exact Int.mul_comm _ _ | exact Int.add_assoc _ _ _ | exact Int.mul_assoc _ _ _ | exact Int.mul_add _ _ _ | omega)).mono ?_
    rintro _ v16 ⟨_, rfl, gn, rfl⟩
    refine ⟨_, rfl, gn, ?_⟩
    go_simp
    refine hK _ _ ?_
    clear hK K
    clear HR13
    clear HR15
    have h16 := h15.trans gn
    clear gn h15
    repeat (refine wpE_readB (v := ?_) h16 rfl rfl (fun w' hg => ?_) (fun K hK => ?_); rotate_left; (go_simp; rfl); go_simp; refine hK _ _ ?_; clear hK K)
    as_aux_lemma =>
    refine wpE_fn (args := ?_) rfl rfl rfl rfl rfl rfl (by kernel_rfl) (by kernel_rfl) ?_ (fun K hK => ?_)
    rotate_left
    · go_simp; rfl
    refine (v_Add _ _ _ _ _ _ 10 10 (IA1.out.grow h16) (IA2.out.grow h16) rfl (by decide) (by decide)).mono ?_
    rintro _ v17 ⟨r17, rfl, gn, hr⟩
    refine ⟨_, rfl, gn, ?_⟩
    go_simp
    refine hK _ _ ?_
    clear hK K
    have HR17 := Lib.hid hr
    clear hr
    have h17 := h16.trans gn
    clear gn h16
    repeat (refine wpE_readB (v := ?_) h17 rfl rfl (fun w' hg => ?_) (fun K hK => ?_); rotate_left; (go_simp; rfl); go_simp; refine hK _ _ ?_; clear hK K)
    refine wpE_fn (args := ?_) rfl rfl rfl rfl rfl rfl (by kernel_rfl) (by kernel_rfl) ?_ (fun K hK => ?_)
    rotate_left
    · go_simp; rfl
    refine (v_Mul _ _ _ _ _ _ 10 21 (IA0.out.grow h17) HR17.out.2 rfl (by decide) (by decide)).mono ?_
    rintro _ v18 ⟨r18, rfl, gn, hr⟩
    refine ⟨_, rfl, gn, ?_⟩
    go_simp
    refine hK _ _ ?_
    clear hK K
    have HR18 := Lib.hid hr
    clear hr
    clear HR17
    have h18 := h17.trans gn
    clear gn h17
    repeat (refine wpE_readB (v := ?_) h18 rfl rfl (fun w' hg => ?_) (fun K hK => ?_); rotate_left; (go_simp; rfl); go_simp; refine hK _ _ ?_; clear hK K)
    refine wpE_fn (args := ?_) rfl rfl rfl rfl rfl rfl (by kernel_rfl) (by kernel_rfl) ?_ (fun K hK => ?_)
    rotate_left
    · go_simp; rfl
    refine (v_Mul _ _ _ _ _ _ 10 10 (IA0.out.grow h18) (IA1.out.grow h18) rfl (by decide) (by decide)).mono ?_
    rintro _ v19 ⟨r19, rfl, gn, hr⟩
    refine ⟨_, rfl, gn, ?_⟩
    go_simp
    refine hK _ _ ?_
    clear hK K
    have HR19 := Lib.hid hr
    clear hr
    have HR18 := Lib.hid (HR18.out.grow gn)
    have h19 := h18.trans gn
    clear gn h18
    repeat (refine wpE_readB (v := ?_) h19 rfl rfl (fun w' hg => ?_) (fun K hK => ?_); rotate_left; (go_simp; rfl); go_simp; refine hK _ _ ?_; clear hK K)
    refine wpE_fn (args := ?_) rfl rfl rfl rfl rfl rfl (by kernel_rfl) (by kernel_rfl) ?_ (fun K hK => ?_)
    rotate_left
    · go_simp; rfl
    refine (v_Mul _ _ _ _ _ _ 10 10 (IA0.out.grow h19) (IA2.out.grow h19) rfl (by decide) (by decide)).mono ?_
    rintro _ v20 ⟨r20, rfl, gn, hr⟩
    refine ⟨_, rfl, gn, ?_⟩
    go_simp
    refine hK _ _ ?_
    clear hK K
    have HR20 := Lib.hid hr
    clear hr
    have HR18 := Lib.hid (HR18.out.grow gn)
    have HR19 := Lib.hid (HR19.out.grow gn)
    have h20 := h19.trans gn
    clear gn h19
    repeat (refine wpE_readB (v := ?_) h20 rfl rfl (fun w' hg => ?_) (fun K hK => ?_); rotate_left; (go_simp; rfl); go_simp; refine hK _ _ ?_; clear hK K)
    refine wpE_fn (args := ?_) rfl rfl rfl rfl rfl rfl (by kernel_rfl) (by kernel_rfl) ?_ (fun K hK => ?_)
    rotate_left
    · go_simp; rfl
    refine (v_Add _ _ _ _ _ _ 21 21 HR19.out.2 HR20.out.2 rfl (by decide) (by decide)).mono ?_
    rintro _ v21 ⟨r21, rfl, gn, hr⟩
    refine ⟨_, rfl, gn, ?_⟩
    go_simp
    refine hK _ _ ?_
    clear hK K
    have HR21 := Lib.hid hr
    clear hr
    have HR18 := Lib.hid (HR18.out.grow gn)
    clear HR19
    clear HR20
    have h21 := h20.trans gn
    clear gn h20
    repeat (refine wpE_readB (v := ?_) h21 rfl rfl (fun w' hg => ?_) (fun K hK => ?_); rotate_left; (go_simp; rfl); go_simp; refine hK _ _ ?_; clear hK K)
    refine wpE_fn (args := ?_) rfl rfl rfl rfl rfl rfl (by kernel_rfl) (by kernel_rfl) ?_ (fun K hK => ?_)
    rotate_left
    · go_simp; rfl
    refine (v_Same2 _ _ _ _ _ 32 43 HR18.out HR21.out (by first | rfl | exact Int.add_comm _ _ | exact Int.mul_comm _ _ | exact Int.add_assoc _ _ _ | exact Int.mul_assoc _ _ _ | exact Int.mul_add _ _ _ | omega)).mono ?_
    rintro _ v22 ⟨_, rfl, gn, rfl⟩
    refine ⟨_, rfl, gn, ?_⟩
    go_simp
    refine hK _ _ ?_
    clear hK K
    clear HR18
    clear HR21
    have h22 := h21.trans gn
    clear gn h21
    repeat (refine wpE_readB (v := ?_) h22 rfl rfl (fun w' hg => ?_) (fun K hK => ?_); rotate_left; (go_simp; rfl); go_simp; refine hK _ _ ?_; clear hK K)
    as_aux_lemma =>
    refine wpE_fn (args := ?_) rfl rfl rfl rfl rfl rfl (by kernel_rfl) (by kernel_rfl) ?_ (fun K hK => ?_)
    rotate_left
    · go_simp; rfl
    refine (v_Neg _ _ _ _ 10 (IA0.out.grow h22) rfl (by decide)).mono ?_
    rintro _ v23 ⟨r23, rfl, gn, hr⟩
    refine ⟨_, rfl, gn, ?_⟩
    go_simp
    refine hK _ _ ?_
    clear hK K
    have HR23 := Lib.hid hr
    clear hr
    have h23 := h22.trans gn
    clear gn h22
    repeat (refine wpE_readB (v := ?_) h23 rfl rfl (fun w' hg => ?_) (fun K hK => ?_); rotate_left; (go_simp; rfl); go_simp; refine hK _ _ ?_; clear hK K)
    refine wpE_fn (args := ?_) rfl rfl rfl rfl rfl rfl (by kernel_rfl) (by kernel_rfl) ?_ (fun K hK => ?_)
    rotate_left
    · go_simp; rfl
    refine (v_Add _ _ _ _ _ _ 10 10 (IA0.out.grow h23) HR23.out.2 rfl (by decide) (by decide)).mono ?_
    rintro _ v24 ⟨r24, rfl, gn, hr⟩
    refine ⟨_, rfl, gn, ?_⟩
    go_simp
    refine hK _ _ ?_
    clear hK K
    have HR24 := Lib.hid hr
    clear hr
    clear HR23
    have h24 := h23.trans gn
    clear gn h23
    repeat (refine wpE_readB (v := ?_) h24 rfl rfl (fun w' hg => ?_) (fun K hK => ?_); rotate_left; (go_simp; rfl); go_simp; refine hK _ _ ?_; clear hK K)
    refine wpE_fn (args := ?_) rfl rfl rfl rfl rfl rfl (by kernel_rfl) (by kernel_rfl) ?_ (fun K hK => ?_)
    rotate_left
    · go_simp; rfl
    refine (v_Sign _ _ _ 0 21 HR24.out.2 (by rw [Int.add_right_neg]; rfl) (by decide)).mono ?_
    rintro _ v25 ⟨_, rfl, gn, rfl⟩
    refine ⟨_, rfl, gn, ?_⟩
    go_simp
    refine hK _ _ ?_
    clear hK K
    clear HR24
    have h25 := h24.trans gn
    clear gn h24
    repeat (refine wpE_readB (v := ?_) h25 rfl rfl (fun w' hg => ?_) (fun K hK => ?_); rotate_left; (go_simp; rfl); go_simp; refine hK _ _ ?_; clear hK K)
    as_aux_lemma =>
    refine wpE_fn (args := ?_) rfl rfl rfl rfl rfl rfl (by kernel_rfl) (by kernel_rfl) ?_ (fun K hK => ?_)
    rotate_left
    · go_simp; rfl
    refine (v_Add _ _ _ _ _ _ 10 10 (IA0.out.grow h25) (IA1.out.grow h25) rfl (by decide) (by decide)).mono ?_
    rintro _ v26 ⟨r26, rfl, gn, hr⟩
    refine ⟨_, rfl, gn, ?_⟩
    go_simp
    refine hK _ _ ?_
    clear hK K
    have HR26 := Lib.hid hr
    clear hr
    have h26 := h25.trans gn
    clear gn h25
    repeat (refine wpE_readB (v := ?_) h26 rfl rfl (fun w' hg => ?_) (fun K hK => ?_); rotate_left; (go_simp; rfl); go_simp; refine hK _ _ ?_; clear hK K)
    refine wpE_fn (args := ?_) rfl rfl rfl rfl rfl rfl (by kernel_rfl) (by kernel_rfl) ?_ (fun K hK => ?_)
    rotate_left
    · go_simp; rfl
    refine (v_Sub _ _ _ _ _ _ 21 10 HR26.out.2 (IA1.out.grow h26) rfl (by decide) (by decide)).mono ?_
    rintro _ v27 ⟨r27, rfl, gn, hr⟩
    refine ⟨_, rfl, gn, ?_⟩
    go_simp
    refine hK _ _ ?_
    clear hK K
    have HR27 := Lib.hid hr
    clear hr
    clear HR26
    have h27 := h26.trans gn
    clear gn h26
    repeat (refine wpE_readB (v := ?_) h27 rfl rfl (fun w' hg => ?_) (fun K hK => ?_); rotate_left; (go_simp; rfl); go_simp; refine hK _ _ ?_; clear hK K)
    refine wpE_fn (args := ?_) rfl rfl rfl rfl rfl rfl (by kernel_rfl) (by kernel_rfl) ?_ (fun K hK => ?_)
    rotate_left
    · go_simp; rfl
    refine (v_Add _ _ _ _ _ _ 10 0 (IA0.out.grow h27) (zeroV _) rfl (by decide) (by decide)).mono ?_
    rintro _ v28 ⟨r28, rfl, gn, hr⟩
    refine ⟨_, rfl, gn, ?_⟩
    go_simp
    refine hK _ _ ?_
    clear hK K
    have HR28 := Lib.hid hr
    clear hr
    have HR27 := Lib.hid (HR27.out.grow gn)
    have h28 := h27.trans gn
    clear gn h27
    repeat (refine wpE_readB (v := ?_) h28 rfl rfl (fun w' hg => ?_) (fun K hK => ?_); rotate_left; (go_simp; rfl); go_simp; refine hK _ _ ?_; clear hK K)
    refine wpE_fn (args := ?_) rfl rfl rfl rfl rfl rfl (by kernel_rfl) (by kernel_rfl) ?_ (fun K hK => ?_)
    rotate_left
    · go_simp; rfl
    refine (v_Same2 _ _ _ _ _ 32 11 HR27.out HR28.out (by first | rfl | exact Int.add_comm _ _ | exact Int.mul_comm _ _ | exact Int.add_assoc _ _ _ | exact Int.mul_assoc _ _ _ | exact Int.mul_add _ _ _ | omega)).mono ?_
    rintro _ v29 ⟨_, rfl, gn, rfl⟩
    refine ⟨_, rfl, gn, ?_⟩
    go_simp
    refine hK _ _ ?_
    clear hK K
    clear HR27
    clear HR28
    have h29 := h28.trans gn
    clear gn h28
    repeat (refine wpE_readB (v := ?_) h29 rfl rfl (fun w' hg => ?_) (fun K hK => ?_); rotate_left; (go_simp; rfl); go_simp; refine hK _ _ ?_; clear hK K)
    as_aux_lemma =>
    refine wpE_nil ?_
    go_wp2_with fail
    go_ret
    exact ⟨_, rfl, HW.out.trans (G3.out.trans h29), rfl⟩
end Go.Proofs.Ytpjblmedcipopaa

/-
  RationalSums: the walk.
-/
import Derived.Test.YtmcgkglmlfbijaaGreatDoorRatM
namespace Go.Proofs.YtmcgkglmlfbijaaGreatDoor
open Go.RowKit Go.Lib
set_option linter.unusedVariables false
set_option linter.unusedSimpArgs false

theorem cell_new3 (w : World) (a : Array Value) (t : TypeId) (i : Nat) : (w.alloc (.cells a t)).cell? ⟨w.heap.size, i, none⟩ = a[i]? := by
  unfold World.cell?
  simp only [heap_alloc_new w _]
  rfl

set_option maxRecDepth 100000 in
set_option maxHeartbeats 12800000 in
theorem law_RationalSums (w : World) (htab : Tab w) (v0 v1 : Value) (s0 s1 : Bool) (l0 d0 l1 d1 : List Nat) (i0 : RatL w v0 s0 l0 d0) (i1 : RatL w v1 s1 l1 d1) :
    Calls Tryz.prog 7 #[v0, v1] w (Ret w fun r w' => r = .bool true) := by
  have HTab := Lib.hid htab
  clear htab
  have HA0 := Lib.hid i0
  obtain ⟨p0, k0, c0, e0, m0, n0, rfl, j0, j0'⟩ := i0
  have Hl0 := Lib.hid j0.len
  have Hm0 := Lib.hid j0'.len
  clear j0 j0'
  have HA1 := Lib.hid i1
  obtain ⟨p1, k1, c1, e1, m1, n1, rfl, j1, j1'⟩ := i1
  have Hl1 := Lib.hid j1.len
  have Hm1 := Lib.hid j1'.len
  clear j1 j1'
  have B := box33 w (.bool s0) (.slice p0 k0 c0) (.slice e0 m0 n0) (.bool s1) (.slice p1 k1 c1) (.slice e1 m1 n1) 27 27
  have Hb1 := Lib.hid (show ¬ w.heap.size + 1 < w.heap.size by omega)
  have Hd01 := Lib.hid (show w.heap.size ≠ w.heap.size + 1 by omega)
  go_enter Tryz.func7, Tryz.ntmps7
  go_wp2_with fail
  generalize (w.alloc _).alloc _ = W at B ⊢
  obtain ⟨G0, t0, t1⟩ := B
  generalize w.heap.size + 1 = b1 at t1 Hb1 Hd01 ⊢
  generalize hb0 : w.heap.size = b0 at t0 Hd01 ⊢
  have Hb0 := Lib.hid (show ¬ b0 < w.heap.size by omega)
  have G := Lib.hid G0
  have T0 := Lib.hid t0
  have T1 := Lib.hid t1
  clear hb0 G0 t0 t1
  have HA0 := Lib.hid (HA0.out.grow G.out)
  have HA1 := Lib.hid (HA1.out.grow G.out)
  refine (law_awake3 W (HTab.out.grow G.out)).mono ?_
  rintro _ w1 ⟨_, rfl, g1, rfl⟩
  have G := Lib.hid (G.out.trans g1)
  have T0 := Lib.hid (T0.out.grow g1)
  have T1 := Lib.hid (T1.out.grow g1)
  have HA0 := Lib.hid (HA0.out.grow g1)
  have HA1 := Lib.hid (HA1.out.grow g1)
  clear g1
  have T0_0 := T0.out.load.1
  have T0_1 := T0.out.load.2.1
  have T0_2 := T0.out.load.2.2
  have T1_0 := T1.out.load.1
  have T1_1 := T1.out.load.2.1
  have T1_2 := T1.out.load.2.2
  go_wp2_with fail
  clear T0_0 T0_1 T0_2 T1_0 T1_1 T1_2
  obtain ⟨t, ht⟩ : ∃ t, decide (∀ i, i < 2 → (if i = 0 then k0 else k1) ≤ 6 ∧ (if i = 0 then m0 else m1) ≤ 6) = t := ⟨_, rfl⟩
  refine (ref_Few _ _ 2 2 6 (fun i => if i = 0 then s0 else s1) (fun i => if i = 0 then p0 else p1) (fun i => if i = 0 then e0 else e1) (fun i => if i = 0 then k0 else k1) (fun i => if i = 0 then c0 else c1) (fun i => if i = 0 then m0 else m1) (fun i => if i = 0 then n0 else n1) (by decide) (by decide) (by decide) t ht (fun i hi => ?_)).mono ?_
  · match i, hi with
    | 0, _ => exact ⟨cell_new3 _ _ _ _, cell_new3 _ _ _ _, cell_new3 _ _ _ _⟩
    | 1, _ => exact ⟨cell_new3 _ _ _ _, cell_new3 _ _ _ _, cell_new3 _ _ _ _⟩
  rintro _ w3 ⟨_, rfl, g3, rfl⟩
  have g4 : Gr w1 w3 := ((Gr.refl w1).alloc _).trans g3
  clear g3
  have G := Lib.hid (G.out.trans g4)
  have T0 := Lib.hid (T0.out.grow g4)
  have T1 := Lib.hid (T1.out.grow g4)
  have HA0 := Lib.hid (HA0.out.grow g4)
  have HA1 := Lib.hid (HA1.out.grow g4)
  clear g4
  cases t
  · clear ht
    go_wp2_with fail
    refine (law_awake3 w3 (HTab.out.grow G.out)).mono ?_
    rintro _ w5 ⟨_, rfl, g5, rfl⟩
    have G := Lib.hid (G.out.trans g5)
    have T0 := Lib.hid (T0.out.grow g5)
    have T1 := Lib.hid (T1.out.grow g5)
    have HA0 := Lib.hid (HA0.out.grow g5)
    have HA1 := Lib.hid (HA1.out.grow g5)
    clear g5
    go_wp2_with fail
    go_ret
    exact ⟨_, rfl, G.out, rfl⟩
  · have hh := of_decide_eq_true ht
    have hk0 := hh 0 (by decide)
    have hk1 := hh 1 (by decide)
    obtain ⟨x0, hx0⟩ : ∃ x, ratv s0 l0 d0 = x := ⟨_, rfl⟩
    have HR0 := Lib.hid (show RatV w3 _ x0 6 from ⟨s0, l0, d0, HA0.out, hx0, by rw [Hl0.out]; exact hk0.1, by rw [Hm0.out]; exact hk0.2⟩)
    have SR0 := Lib.hid (HR0.out.sz (by decide))
    obtain ⟨x1, hx1⟩ : ∃ x, ratv s1 l1 d1 = x := ⟨_, rfl⟩
    have HR1 := Lib.hid (show RatV w3 _ x1 6 from ⟨s1, l1, d1, HA1.out, hx1, by rw [Hl1.out]; exact hk1.1, by rw [Hm1.out]; exact hk1.2⟩)
    have SR1 := Lib.hid (HR1.out.sz (by decide))
    clear ht hh hk0 hk1
    by_cases hb0 : x1 = 0
    · subst hb0
      have T0_0 := T0.out.load.1
      have T0_1 := T0.out.load.2.1
      have T0_2 := T0.out.load.2.2
      have T1_0 := T1.out.load.1
      have T1_1 := T1.out.load.2.1
      have T1_2 := T1.out.load.2.2
      go_wp2_with fail
      refine (q_DivNo w3 _ _ x0 6 6 HR0.out HR1.out (by decide)).mono ?_
      rintro _ w90 ⟨_, rfl, g90, rfl⟩
      clear T0_0 T0_1 T0_2 T1_0 T1_1 T1_2
      have G := Lib.hid (G.out.trans g90)
      have T0 := Lib.hid (T0.out.grow g90)
      have T1 := Lib.hid (T1.out.grow g90)
      have HR0 := Lib.hid (HR0.out.grow g90)
      have HR1 := Lib.hid (HR1.out.grow g90)
      clear g90
      have B := box3 w90 (.bool false) (.slice none 0 0) (.slice none 0 0) 27
      have GB := Lib.hid B.1
      have T0_0 := (T0.out.grow B.1).load.1
      have T0_1 := (T0.out.grow B.1).load.2.1
      have T0_2 := (T0.out.grow B.1).load.2.2
      have T1_0 := (T1.out.grow B.1).load.1
      have T1_1 := (T1.out.grow B.1).load.2.1
      have T1_2 := (T1.out.grow B.1).load.2.2
      have T5 := Lib.hid B.2
      have T5_0 := B.2.load.1
      have T5_1 := B.2.load.2.1
      have T5_2 := B.2.load.2.2
      clear B
      go_wp2_with fail
      clear T0_0 T0_1 T0_2 T1_0 T1_1 T1_2 T5_0 T5_1 T5_2
      generalize w90.heap.size = b_T5 at T5 ⊢
      generalize w90.alloc _ = W4 at GB T5 ⊢
      have G := Lib.hid (G.out.trans GB.out)
      have T0 := Lib.hid (T0.out.grow GB.out)
      have T1 := Lib.hid (T1.out.grow GB.out)
      have HR0 := Lib.hid (HR0.out.grow GB.out)
      have HR1 := Lib.hid (HR1.out.grow GB.out)
      refine (s_DivNo W4 _ _ x0 6 6 HR0.out HR1.out (by decide) (by decide)).mono ?_
      rintro _ w91 ⟨_, rfl, g91, rfl⟩
      have G := Lib.hid (G.out.trans g91)
      have T0 := Lib.hid (T0.out.grow g91)
      have T1 := Lib.hid (T1.out.grow g91)
      have T5 := Lib.hid (T5.out.grow g91)
      have HR0 := Lib.hid (HR0.out.grow g91)
      have HR1 := Lib.hid (HR1.out.grow g91)
      clear g91
      have B := box3 w91 (.bool false) (.slice none 0 0) (.slice none 0 0) 27
      have GB := Lib.hid B.1
      have T0_0 := (T0.out.grow B.1).load.1
      have T0_1 := (T0.out.grow B.1).load.2.1
      have T0_2 := (T0.out.grow B.1).load.2.2
      have T1_0 := (T1.out.grow B.1).load.1
      have T1_1 := (T1.out.grow B.1).load.2.1
      have T1_2 := (T1.out.grow B.1).load.2.2
      have T5_0 := (T5.out.grow B.1).load.1
      have T5_1 := (T5.out.grow B.1).load.2.1
      have T5_2 := (T5.out.grow B.1).load.2.2
      have T7 := Lib.hid B.2
      have T7_0 := B.2.load.1
      have T7_1 := B.2.load.2.1
      have T7_2 := B.2.load.2.2
      clear B
      go_wp2_with fail
      clear T0_0 T0_1 T0_2 T1_0 T1_1 T1_2 T5_0 T5_1 T5_2 T7_0 T7_1 T7_2
      generalize w91.heap.size = b_T7 at T7 ⊢
      generalize w91.alloc _ = W5 at GB T7 ⊢
      have G := Lib.hid (G.out.trans GB.out)
      have T0 := Lib.hid (T0.out.grow GB.out)
      have T1 := Lib.hid (T1.out.grow GB.out)
      have T5 := Lib.hid (T5.out.grow GB.out)
      have HR0 := Lib.hid (HR0.out.grow GB.out)
      have HR1 := Lib.hid (HR1.out.grow GB.out)
      have HD := Lib.hid (ratZero W5)
      have HE := Lib.hid (ratZero W5)
      refine wp_region_fast [(0, true), (1, true), (3, true), (4, true), (2, false), (5, false), (6, true), (7, true), (8, true), (10, true), (9, false), (11, false), (12, false), (13, true), (14, true), (15, true), (16, true), (18, true), (19, true), (17, false), (20, false), (21, false), (22, true), (23, true), (24, true), (25, true), (27, true), (28, true), (26, false), (29, false), (30, false), (31, true), (32, true), (33, true), (34, true), (36, true), (37, true), (35, false), (38, false), (39, false), (40, true), (41, true), (42, true), (43, true), (44, false), (45, true), (46, true), (47, true), (48, true), (49, true), (50, true), (51, true)] (by kernel_rfl) (by kernel_rfl) rfl (by kernel_rfl) (fun _ _ d _ _ h => by cases d <;> exact h) ?_
      have T0_0 := T0.out.c0
      have T0_1 := T0.out.c1
      have T0_2 := T0.out.c2
      have T1_0 := T1.out.c0
      have T1_1 := T1.out.c1
      have T1_2 := T1.out.c2
      have T5_0 := T5.out.c0
      have T5_1 := T5.out.c1
      have T5_2 := T5.out.c2
      have T7_0 := T7.out.c0
      have T7_1 := T7.out.c1
      have T7_2 := T7.out.c2
      have g0 : Gr W5 W5.drew := (Gr.refl _).drew
      have G := Lib.hid (G.out.trans g0)
      have T0 := Lib.hid (T0.out.grow g0)
      have T1 := Lib.hid (T1.out.grow g0)
      have T5 := Lib.hid (T5.out.grow g0)
      have T7 := Lib.hid (T7.out.grow g0)
      have HR0 := Lib.hid (HR0.out.grow g0)
      have HR1 := Lib.hid (HR1.out.grow g0)
      have HD := Lib.hid (HD.out.grow g0)
      have HE := Lib.hid (HE.out.grow g0)
      obtain ⟨cc, hcc⟩ : ∃ c, cmpQ x0 0 = c := ⟨_, rfl⟩
      repeat (refine wpE_readB (v := ?_) g0 rfl rfl (fun w' hg => ?_) (fun K hK => ?_); rotate_left; (go_simp; rfl); go_simp; refine hK _ _ ?_; clear hK K)
      refine wpE_fn (args := ?_) rfl rfl rfl rfl rfl rfl (by kernel_rfl) (by kernel_rfl) ?_ (fun K hK => ?_)
      rotate_left
      · go_simp; rfl
      refine (q_Cmp _ _ _ x0 0 (cc) 6 6 HR0.out HR1.out (hcc) (by decide) (by decide)).mono ?_
      rintro _ w1 ⟨_, rfl, g1, rfl⟩
      refine ⟨_, rfl, g1, ?_⟩
      go_simp
      refine hK _ _ ?_
      clear hK K
      have G := Lib.hid (G.out.trans g1)
      have T0 := Lib.hid (T0.out.grow g1)
      have T1 := Lib.hid (T1.out.grow g1)
      have T5 := Lib.hid (T5.out.grow g1)
      have T7 := Lib.hid (T7.out.grow g1)
      have HR0 := Lib.hid (HR0.out.grow g1)
      have HR1 := Lib.hid (HR1.out.grow g1)
      have HD := Lib.hid (HD.out.grow g1)
      have HE := Lib.hid (HE.out.grow g1)
      replace g0 := g0.trans g1
      clear g1
      repeat (refine wpE_readB (v := ?_) g0 rfl rfl (fun w' hg => ?_) (fun K hK => ?_); rotate_left; (go_simp; rfl); go_simp; refine hK _ _ ?_; clear hK K)
      refine wpE_fn (args := ?_) rfl rfl rfl rfl rfl rfl (by kernel_rfl) (by kernel_rfl) ?_ (fun K hK => ?_)
      rotate_left
      · go_simp; rfl
      refine (s_Cmp _ _ _ x0 0 (cc) 6 6 HR0.out HR1.out (hcc) (by decide) (by decide) (by decide) (by decide)).mono ?_
      rintro _ w2 ⟨_, rfl, g2, rfl⟩
      refine ⟨_, rfl, g2, ?_⟩
      go_simp
      refine hK _ _ ?_
      clear hK K
      have G := Lib.hid (G.out.trans g2)
      have T0 := Lib.hid (T0.out.grow g2)
      have T1 := Lib.hid (T1.out.grow g2)
      have T5 := Lib.hid (T5.out.grow g2)
      have T7 := Lib.hid (T7.out.grow g2)
      have HR0 := Lib.hid (HR0.out.grow g2)
      have HR1 := Lib.hid (HR1.out.grow g2)
      have HD := Lib.hid (HD.out.grow g2)
      have HE := Lib.hid (HE.out.grow g2)
      replace g0 := g0.trans g2
      clear g2
      repeat (refine wpE_readB (v := ?_) g0 rfl rfl (fun w' hg => ?_) (fun K hK => ?_); rotate_left; (go_simp; rfl); go_simp; refine hK _ _ ?_; clear hK K)
      refine wpE_fn (args := ?_) rfl rfl rfl rfl rfl rfl (by kernel_rfl) (by kernel_rfl) ?_ (fun K hK => ?_)
      rotate_left
      · go_simp; rfl
      refine (q_Neg _ _ x0 _ 6 HR0.out rfl (by decide)).mono ?_
      rintro _ w3 ⟨r3, rfl, g3, h3⟩
      refine ⟨_, rfl, g3, ?_⟩
      go_simp
      refine hK _ _ ?_
      clear hK K
      have G := Lib.hid (G.out.trans g3)
      have T0 := Lib.hid (T0.out.grow g3)
      have T1 := Lib.hid (T1.out.grow g3)
      have T5 := Lib.hid (T5.out.grow g3)
      have T7 := Lib.hid (T7.out.grow g3)
      have HR0 := Lib.hid (HR0.out.grow g3)
      have HR1 := Lib.hid (HR1.out.grow g3)
      have HD := Lib.hid (HD.out.grow g3)
      have HE := Lib.hid (HE.out.grow g3)
      replace g0 := g0.trans g3
      clear g3
      have H3 := Lib.hid h3
      clear h3
      have S3 := Lib.hid (show Sz 6 ((- x0)) from sz_neg SR0.out)
      repeat (refine wpE_readB (v := ?_) g0 rfl rfl (fun w' hg => ?_) (fun K hK => ?_); rotate_left; (go_simp; rfl); go_simp; refine hK _ _ ?_; clear hK K)
      refine wpE_fn (args := ?_) rfl rfl rfl rfl rfl rfl (by kernel_rfl) (by kernel_rfl) ?_ (fun K hK => ?_)
      rotate_left
      · go_simp; rfl
      refine (s_Neg _ _ x0 _ 6 HR0.out rfl (by decide)).mono ?_
      rintro _ w4 ⟨r4, rfl, g4, h4⟩
      refine ⟨_, rfl, g4, ?_⟩
      go_simp
      refine hK _ _ ?_
      clear hK K
      have G := Lib.hid (G.out.trans g4)
      have T0 := Lib.hid (T0.out.grow g4)
      have T1 := Lib.hid (T1.out.grow g4)
      have T5 := Lib.hid (T5.out.grow g4)
      have T7 := Lib.hid (T7.out.grow g4)
      have HR0 := Lib.hid (HR0.out.grow g4)
      have HR1 := Lib.hid (HR1.out.grow g4)
      have HD := Lib.hid (HD.out.grow g4)
      have HE := Lib.hid (HE.out.grow g4)
      have H3 := Lib.hid (H3.out.grow g4)
      replace g0 := g0.trans g4
      clear g4
      have H4 := Lib.hid h4
      clear h4
      have S4 := Lib.hid (show Sz 6 ((- x0)) from sz_neg SR0.out)
      repeat (refine wpE_readB (v := ?_) g0 rfl rfl (fun w' hg => ?_) (fun K hK => ?_); rotate_left; (go_simp; rfl); go_simp; refine hK _ _ ?_; clear hK K)
      refine wpE_fn (args := ?_) rfl rfl rfl rfl rfl rfl (by kernel_rfl) (by kernel_rfl) ?_ (fun K hK => ?_)
      rotate_left
      · go_simp; rfl
      refine (d_SameC _ _ _ (- x0) (- x0) true H3.out H4.out (decide_eq_true (rfl))).mono ?_
      rintro _ w5 ⟨_, rfl, g5, rfl⟩
      refine ⟨_, rfl, g5, ?_⟩
      go_simp
      refine hK _ _ ?_
      clear hK K
      have G := Lib.hid (G.out.trans g5)
      have T0 := Lib.hid (T0.out.grow g5)
      have T1 := Lib.hid (T1.out.grow g5)
      have T5 := Lib.hid (T5.out.grow g5)
      have T7 := Lib.hid (T7.out.grow g5)
      have HR0 := Lib.hid (HR0.out.grow g5)
      have HR1 := Lib.hid (HR1.out.grow g5)
      have HD := Lib.hid (HD.out.grow g5)
      have HE := Lib.hid (HE.out.grow g5)
      have H3 := Lib.hid (H3.out.grow g5)
      have H4 := Lib.hid (H4.out.grow g5)
      replace g0 := g0.trans g5
      clear g5
      repeat (refine wpE_readB (v := ?_) g0 rfl rfl (fun w' hg => ?_) (fun K hK => ?_); rotate_left; (go_simp; rfl); go_simp; refine hK _ _ ?_; clear hK K)
      refine wpE_fn (args := ?_) rfl rfl rfl rfl rfl rfl (by kernel_rfl) (by kernel_rfl) ?_ (fun K hK => ?_)
      rotate_left
      · go_simp; rfl
      refine (q_Add _ _ _ x0 0 _ 6 6 HR0.out HR1.out rfl (by decide) (by decide)).mono ?_
      rintro _ w6 ⟨r6, rfl, g6, h6⟩
      refine ⟨_, rfl, g6, ?_⟩
      go_simp
      refine hK _ _ ?_
      clear hK K
      have G := Lib.hid (G.out.trans g6)
      have T0 := Lib.hid (T0.out.grow g6)
      have T1 := Lib.hid (T1.out.grow g6)
      have T5 := Lib.hid (T5.out.grow g6)
      have T7 := Lib.hid (T7.out.grow g6)
      have HR0 := Lib.hid (HR0.out.grow g6)
      have HR1 := Lib.hid (HR1.out.grow g6)
      have HD := Lib.hid (HD.out.grow g6)
      have HE := Lib.hid (HE.out.grow g6)
      have H3 := Lib.hid (H3.out.grow g6)
      have H4 := Lib.hid (H4.out.grow g6)
      replace g0 := g0.trans g6
      clear g6
      have H6 := Lib.hid h6
      clear h6
      have S6 := Lib.hid (show Sz 13 ((x0 + 0)) from sz_add SR0.out SR1.out)
      repeat (refine wpE_readB (v := ?_) g0 rfl rfl (fun w' hg => ?_) (fun K hK => ?_); rotate_left; (go_simp; rfl); go_simp; refine hK _ _ ?_; clear hK K)
      refine wpE_fn (args := ?_) rfl rfl rfl rfl rfl rfl (by kernel_rfl) (by kernel_rfl) ?_ (fun K hK => ?_)
      rotate_left
      · go_simp; rfl
      refine (s_Add _ _ _ x0 0 _ 6 6 HR0.out HR1.out rfl (by decide) (by decide)).mono ?_
      rintro _ w7 ⟨r7, rfl, g7, h7⟩
      refine ⟨_, rfl, g7, ?_⟩
      go_simp
      refine hK _ _ ?_
      clear hK K
      have G := Lib.hid (G.out.trans g7)
      have T0 := Lib.hid (T0.out.grow g7)
      have T1 := Lib.hid (T1.out.grow g7)
      have T5 := Lib.hid (T5.out.grow g7)
      have T7 := Lib.hid (T7.out.grow g7)
      have HR0 := Lib.hid (HR0.out.grow g7)
      have HR1 := Lib.hid (HR1.out.grow g7)
      have HD := Lib.hid (HD.out.grow g7)
      have HE := Lib.hid (HE.out.grow g7)
      have H3 := Lib.hid (H3.out.grow g7)
      have H4 := Lib.hid (H4.out.grow g7)
      have H6 := Lib.hid (H6.out.grow g7)
      replace g0 := g0.trans g7
      clear g7
      have H7 := Lib.hid h7
      clear h7
      have S7 := Lib.hid (show Sz 13 ((x0 + 0)) from sz_add SR0.out SR1.out)
      repeat (refine wpE_readB (v := ?_) g0 rfl rfl (fun w' hg => ?_) (fun K hK => ?_); rotate_left; (go_simp; rfl); go_simp; refine hK _ _ ?_; clear hK K)
      refine wpE_fn (args := ?_) rfl rfl rfl rfl rfl rfl (by kernel_rfl) (by kernel_rfl) ?_ (fun K hK => ?_)
      rotate_left
      · go_simp; rfl
      refine (d_SameC _ _ _ (x0 + 0) (x0 + 0) true H6.out H7.out (decide_eq_true (rfl))).mono ?_
      rintro _ w8 ⟨_, rfl, g8, rfl⟩
      refine ⟨_, rfl, g8, ?_⟩
      go_simp
      refine hK _ _ ?_
      clear hK K
      have G := Lib.hid (G.out.trans g8)
      have T0 := Lib.hid (T0.out.grow g8)
      have T1 := Lib.hid (T1.out.grow g8)
      have T5 := Lib.hid (T5.out.grow g8)
      have T7 := Lib.hid (T7.out.grow g8)
      have HR0 := Lib.hid (HR0.out.grow g8)
      have HR1 := Lib.hid (HR1.out.grow g8)
      have HD := Lib.hid (HD.out.grow g8)
      have HE := Lib.hid (HE.out.grow g8)
      have H3 := Lib.hid (H3.out.grow g8)
      have H4 := Lib.hid (H4.out.grow g8)
      have H6 := Lib.hid (H6.out.grow g8)
      have H7 := Lib.hid (H7.out.grow g8)
      replace g0 := g0.trans g8
      clear g8
      repeat (refine wpE_readB (v := ?_) g0 rfl rfl (fun w' hg => ?_) (fun K hK => ?_); rotate_left; (go_simp; rfl); go_simp; refine hK _ _ ?_; clear hK K)
      have SN9 := Lib.hid (sz_neg SR1.out)
      refine wpE_fn (args := ?_) rfl rfl rfl rfl rfl rfl (by kernel_rfl) (by kernel_rfl) ?_ (fun K hK => ?_)
      rotate_left
      · go_simp; rfl
      refine (q_Sub _ _ _ x0 0 _ 6 6 HR0.out HR1.out SN9.out rfl (by decide) (by decide)).mono ?_
      rintro _ w9 ⟨r9, rfl, g9, h9⟩
      refine ⟨_, rfl, g9, ?_⟩
      go_simp
      refine hK _ _ ?_
      clear hK K
      have G := Lib.hid (G.out.trans g9)
      have T0 := Lib.hid (T0.out.grow g9)
      have T1 := Lib.hid (T1.out.grow g9)
      have T5 := Lib.hid (T5.out.grow g9)
      have T7 := Lib.hid (T7.out.grow g9)
      have HR0 := Lib.hid (HR0.out.grow g9)
      have HR1 := Lib.hid (HR1.out.grow g9)
      have HD := Lib.hid (HD.out.grow g9)
      have HE := Lib.hid (HE.out.grow g9)
      have H3 := Lib.hid (H3.out.grow g9)
      have H4 := Lib.hid (H4.out.grow g9)
      have H6 := Lib.hid (H6.out.grow g9)
      have H7 := Lib.hid (H7.out.grow g9)
      replace g0 := g0.trans g9
      clear g9
      have H9 := Lib.hid h9
      clear h9
      have S9 := Lib.hid (show Sz 13 ((x0 - 0)) from sz_sub SR0.out SR1.out)
      repeat (refine wpE_readB (v := ?_) g0 rfl rfl (fun w' hg => ?_) (fun K hK => ?_); rotate_left; (go_simp; rfl); go_simp; refine hK _ _ ?_; clear hK K)
      refine wpE_fn (args := ?_) rfl rfl rfl rfl rfl rfl (by kernel_rfl) (by kernel_rfl) ?_ (fun K hK => ?_)
      rotate_left
      · go_simp; rfl
      refine (s_Sub _ _ _ x0 0 _ 6 6 HR0.out HR1.out rfl (by decide) (by decide) (by decide)).mono ?_
      rintro _ w10 ⟨r10, rfl, g10, h10⟩
      refine ⟨_, rfl, g10, ?_⟩
      go_simp
      refine hK _ _ ?_
      clear hK K
      have G := Lib.hid (G.out.trans g10)
      have T0 := Lib.hid (T0.out.grow g10)
      have T1 := Lib.hid (T1.out.grow g10)
      have T5 := Lib.hid (T5.out.grow g10)
      have T7 := Lib.hid (T7.out.grow g10)
      have HR0 := Lib.hid (HR0.out.grow g10)
      have HR1 := Lib.hid (HR1.out.grow g10)
      have HD := Lib.hid (HD.out.grow g10)
      have HE := Lib.hid (HE.out.grow g10)
      have H3 := Lib.hid (H3.out.grow g10)
      have H4 := Lib.hid (H4.out.grow g10)
      have H6 := Lib.hid (H6.out.grow g10)
      have H7 := Lib.hid (H7.out.grow g10)
      have H9 := Lib.hid (H9.out.grow g10)
      replace g0 := g0.trans g10
      clear g10
      have H10 := Lib.hid h10
      clear h10
      have S10 := Lib.hid (show Sz 13 ((x0 - 0)) from sz_sub SR0.out SR1.out)
      repeat (refine wpE_readB (v := ?_) g0 rfl rfl (fun w' hg => ?_) (fun K hK => ?_); rotate_left; (go_simp; rfl); go_simp; refine hK _ _ ?_; clear hK K)
      refine wpE_fn (args := ?_) rfl rfl rfl rfl rfl rfl (by kernel_rfl) (by kernel_rfl) ?_ (fun K hK => ?_)
      rotate_left
      · go_simp; rfl
      refine (d_SameC _ _ _ (x0 - 0) (x0 - 0) true H9.out H10.out (decide_eq_true (rfl))).mono ?_
      rintro _ w11 ⟨_, rfl, g11, rfl⟩
      refine ⟨_, rfl, g11, ?_⟩
      go_simp
      refine hK _ _ ?_
      clear hK K
      have G := Lib.hid (G.out.trans g11)
      have T0 := Lib.hid (T0.out.grow g11)
      have T1 := Lib.hid (T1.out.grow g11)
      have T5 := Lib.hid (T5.out.grow g11)
      have T7 := Lib.hid (T7.out.grow g11)
      have HR0 := Lib.hid (HR0.out.grow g11)
      have HR1 := Lib.hid (HR1.out.grow g11)
      have HD := Lib.hid (HD.out.grow g11)
      have HE := Lib.hid (HE.out.grow g11)
      have H3 := Lib.hid (H3.out.grow g11)
      have H4 := Lib.hid (H4.out.grow g11)
      have H6 := Lib.hid (H6.out.grow g11)
      have H7 := Lib.hid (H7.out.grow g11)
      have H9 := Lib.hid (H9.out.grow g11)
      have H10 := Lib.hid (H10.out.grow g11)
      replace g0 := g0.trans g11
      clear g11
      repeat (refine wpE_readB (v := ?_) g0 rfl rfl (fun w' hg => ?_) (fun K hK => ?_); rotate_left; (go_simp; rfl); go_simp; refine hK _ _ ?_; clear hK K)
      refine wpE_fn (args := ?_) rfl rfl rfl rfl rfl rfl (by kernel_rfl) (by kernel_rfl) ?_ (fun K hK => ?_)
      rotate_left
      · go_simp; rfl
      refine (q_Mul _ _ _ x0 0 _ 6 6 HR0.out HR1.out rfl (by decide) (by decide)).mono ?_
      rintro _ w12 ⟨r12, rfl, g12, h12⟩
      refine ⟨_, rfl, g12, ?_⟩
      go_simp
      refine hK _ _ ?_
      clear hK K
      have G := Lib.hid (G.out.trans g12)
      have T0 := Lib.hid (T0.out.grow g12)
      have T1 := Lib.hid (T1.out.grow g12)
      have T5 := Lib.hid (T5.out.grow g12)
      have T7 := Lib.hid (T7.out.grow g12)
      have HR0 := Lib.hid (HR0.out.grow g12)
      have HR1 := Lib.hid (HR1.out.grow g12)
      have HD := Lib.hid (HD.out.grow g12)
      have HE := Lib.hid (HE.out.grow g12)
      have H3 := Lib.hid (H3.out.grow g12)
      have H4 := Lib.hid (H4.out.grow g12)
      have H6 := Lib.hid (H6.out.grow g12)
      have H7 := Lib.hid (H7.out.grow g12)
      have H9 := Lib.hid (H9.out.grow g12)
      have H10 := Lib.hid (H10.out.grow g12)
      replace g0 := g0.trans g12
      clear g12
      have H12 := Lib.hid h12
      clear h12
      have S12 := Lib.hid (show Sz 13 ((x0 * 0)) from sz_mul SR0.out SR1.out)
      repeat (refine wpE_readB (v := ?_) g0 rfl rfl (fun w' hg => ?_) (fun K hK => ?_); rotate_left; (go_simp; rfl); go_simp; refine hK _ _ ?_; clear hK K)
      refine wpE_fn (args := ?_) rfl rfl rfl rfl rfl rfl (by kernel_rfl) (by kernel_rfl) ?_ (fun K hK => ?_)
      rotate_left
      · go_simp; rfl
      refine (s_Mul _ _ _ x0 0 _ 6 6 HR0.out HR1.out rfl (by decide) (by decide)).mono ?_
      rintro _ w13 ⟨r13, rfl, g13, h13⟩
      refine ⟨_, rfl, g13, ?_⟩
      go_simp
      refine hK _ _ ?_
      clear hK K
      have G := Lib.hid (G.out.trans g13)
      have T0 := Lib.hid (T0.out.grow g13)
      have T1 := Lib.hid (T1.out.grow g13)
      have T5 := Lib.hid (T5.out.grow g13)
      have T7 := Lib.hid (T7.out.grow g13)
      have HR0 := Lib.hid (HR0.out.grow g13)
      have HR1 := Lib.hid (HR1.out.grow g13)
      have HD := Lib.hid (HD.out.grow g13)
      have HE := Lib.hid (HE.out.grow g13)
      have H3 := Lib.hid (H3.out.grow g13)
      have H4 := Lib.hid (H4.out.grow g13)
      have H6 := Lib.hid (H6.out.grow g13)
      have H7 := Lib.hid (H7.out.grow g13)
      have H9 := Lib.hid (H9.out.grow g13)
      have H10 := Lib.hid (H10.out.grow g13)
      have H12 := Lib.hid (H12.out.grow g13)
      replace g0 := g0.trans g13
      clear g13
      have H13 := Lib.hid h13
      clear h13
      have S13 := Lib.hid (show Sz 13 ((x0 * 0)) from sz_mul SR0.out SR1.out)
      repeat (refine wpE_readB (v := ?_) g0 rfl rfl (fun w' hg => ?_) (fun K hK => ?_); rotate_left; (go_simp; rfl); go_simp; refine hK _ _ ?_; clear hK K)
      refine wpE_fn (args := ?_) rfl rfl rfl rfl rfl rfl (by kernel_rfl) (by kernel_rfl) ?_ (fun K hK => ?_)
      rotate_left
      · go_simp; rfl
      refine (d_SameC _ _ _ (x0 * 0) (x0 * 0) true H12.out H13.out (decide_eq_true (rfl))).mono ?_
      rintro _ w14 ⟨_, rfl, g14, rfl⟩
      refine ⟨_, rfl, g14, ?_⟩
      go_simp
      refine hK _ _ ?_
      clear hK K
      have G := Lib.hid (G.out.trans g14)
      have T0 := Lib.hid (T0.out.grow g14)
      have T1 := Lib.hid (T1.out.grow g14)
      have T5 := Lib.hid (T5.out.grow g14)
      have T7 := Lib.hid (T7.out.grow g14)
      have HR0 := Lib.hid (HR0.out.grow g14)
      have HR1 := Lib.hid (HR1.out.grow g14)
      have HD := Lib.hid (HD.out.grow g14)
      have HE := Lib.hid (HE.out.grow g14)
      have H3 := Lib.hid (H3.out.grow g14)
      have H4 := Lib.hid (H4.out.grow g14)
      have H6 := Lib.hid (H6.out.grow g14)
      have H7 := Lib.hid (H7.out.grow g14)
      have H9 := Lib.hid (H9.out.grow g14)
      have H10 := Lib.hid (H10.out.grow g14)
      have H12 := Lib.hid (H12.out.grow g14)
      have H13 := Lib.hid (H13.out.grow g14)
      replace g0 := g0.trans g14
      clear g14
      repeat (refine wpE_readB (v := ?_) g0 rfl rfl (fun w' hg => ?_) (fun K hK => ?_); rotate_left; (go_simp; rfl); go_simp; refine hK _ _ ?_; clear hK K)
      refine wpE_fn (args := ?_) rfl rfl rfl rfl rfl rfl (by kernel_rfl) (by kernel_rfl) ?_ (fun K hK => ?_)
      rotate_left
      · go_simp; rfl
      refine (d_SameC _ _ _ 0 0 true HD.out HE.out (decide_eq_true (rfl))).mono ?_
      rintro _ w15 ⟨_, rfl, g15, rfl⟩
      refine ⟨_, rfl, g15, ?_⟩
      go_simp
      refine hK _ _ ?_
      clear hK K
      have G := Lib.hid (G.out.trans g15)
      have T0 := Lib.hid (T0.out.grow g15)
      have T1 := Lib.hid (T1.out.grow g15)
      have T5 := Lib.hid (T5.out.grow g15)
      have T7 := Lib.hid (T7.out.grow g15)
      have HR0 := Lib.hid (HR0.out.grow g15)
      have HR1 := Lib.hid (HR1.out.grow g15)
      have HD := Lib.hid (HD.out.grow g15)
      have HE := Lib.hid (HE.out.grow g15)
      have H3 := Lib.hid (H3.out.grow g15)
      have H4 := Lib.hid (H4.out.grow g15)
      have H6 := Lib.hid (H6.out.grow g15)
      have H7 := Lib.hid (H7.out.grow g15)
      have H9 := Lib.hid (H9.out.grow g15)
      have H10 := Lib.hid (H10.out.grow g15)
      have H12 := Lib.hid (H12.out.grow g15)
      have H13 := Lib.hid (H13.out.grow g15)
      replace g0 := g0.trans g15
      clear g15
      repeat (refine wpE_readB (v := ?_) g0 rfl rfl (fun w' hg => ?_) (fun K hK => ?_); rotate_left; (go_simp; rfl); go_simp; refine hK _ _ ?_; clear hK K)
      refine wpE_nil ?_
      clear g0
      clear T0_0 T0_1 T0_2 T1_0 T1_1 T1_2 T5_0 T5_1 T5_2 T7_0 T7_1 T7_2
      go_wp2_with fail
      go_ret
      exact ⟨_, rfl, G.out, rfl⟩
    · have T0_0 := T0.out.load.1
      have T0_1 := T0.out.load.2.1
      have T0_2 := T0.out.load.2.2
      have T1_0 := T1.out.load.1
      have T1_1 := T1.out.load.2.1
      have T1_2 := T1.out.load.2.2
      go_wp2_with fail
      refine (q_DivOk w3 _ _ x0 x1 _ 6 6 HR0.out HR1.out rfl hb0 (by decide) (by decide)).mono ?_
      rintro _ w90 ⟨_, rfl, g90, u, rfl, hu⟩
      clear T0_0 T0_1 T0_2 T1_0 T1_1 T1_2
      have G := Lib.hid (G.out.trans g90)
      have T0 := Lib.hid (T0.out.grow g90)
      have T1 := Lib.hid (T1.out.grow g90)
      have HR0 := Lib.hid (HR0.out.grow g90)
      have HR1 := Lib.hid (HR1.out.grow g90)
      clear g90
      have HD := Lib.hid hu
      clear hu
      obtain ⟨sa, pa, ka, ca, ea, ma, na, rfl⟩ := HD.out.agg
      have B := box3 w90 (.bool sa) (.slice pa ka ca) (.slice ea ma na) 27
      have GB := Lib.hid B.1
      have T0_0 := (T0.out.grow B.1).load.1
      have T0_1 := (T0.out.grow B.1).load.2.1
      have T0_2 := (T0.out.grow B.1).load.2.2
      have T1_0 := (T1.out.grow B.1).load.1
      have T1_1 := (T1.out.grow B.1).load.2.1
      have T1_2 := (T1.out.grow B.1).load.2.2
      have T5 := Lib.hid B.2
      have T5_0 := B.2.load.1
      have T5_1 := B.2.load.2.1
      have T5_2 := B.2.load.2.2
      clear B
      go_wp2_with fail
      clear T0_0 T0_1 T0_2 T1_0 T1_1 T1_2 T5_0 T5_1 T5_2
      generalize w90.heap.size = b_T5 at T5 ⊢
      generalize w90.alloc _ = W4 at GB T5 ⊢
      have G := Lib.hid (G.out.trans GB.out)
      have T0 := Lib.hid (T0.out.grow GB.out)
      have T1 := Lib.hid (T1.out.grow GB.out)
      have HR0 := Lib.hid (HR0.out.grow GB.out)
      have HR1 := Lib.hid (HR1.out.grow GB.out)
      have HD := Lib.hid (HD.out.grow GB.out)
      refine (s_DivOk W4 _ _ x0 x1 _ 6 6 HR0.out HR1.out rfl hb0 (by decide) (by decide)).mono ?_
      rintro _ w91 ⟨_, rfl, g91, u, rfl, hu⟩
      have G := Lib.hid (G.out.trans g91)
      have T0 := Lib.hid (T0.out.grow g91)
      have T1 := Lib.hid (T1.out.grow g91)
      have T5 := Lib.hid (T5.out.grow g91)
      have HR0 := Lib.hid (HR0.out.grow g91)
      have HR1 := Lib.hid (HR1.out.grow g91)
      have HD := Lib.hid (HD.out.grow g91)
      clear g91
      have HE := Lib.hid hu
      clear hu
      obtain ⟨sb, pb, kb, cb, eb, mb, nb, rfl⟩ := HE.out.agg
      have B := box3 w91 (.bool sb) (.slice pb kb cb) (.slice eb mb nb) 27
      have GB := Lib.hid B.1
      have T0_0 := (T0.out.grow B.1).load.1
      have T0_1 := (T0.out.grow B.1).load.2.1
      have T0_2 := (T0.out.grow B.1).load.2.2
      have T1_0 := (T1.out.grow B.1).load.1
      have T1_1 := (T1.out.grow B.1).load.2.1
      have T1_2 := (T1.out.grow B.1).load.2.2
      have T5_0 := (T5.out.grow B.1).load.1
      have T5_1 := (T5.out.grow B.1).load.2.1
      have T5_2 := (T5.out.grow B.1).load.2.2
      have T7 := Lib.hid B.2
      have T7_0 := B.2.load.1
      have T7_1 := B.2.load.2.1
      have T7_2 := B.2.load.2.2
      clear B
      go_wp2_with fail
      clear T0_0 T0_1 T0_2 T1_0 T1_1 T1_2 T5_0 T5_1 T5_2 T7_0 T7_1 T7_2
      generalize w91.heap.size = b_T7 at T7 ⊢
      generalize w91.alloc _ = W5 at GB T7 ⊢
      have G := Lib.hid (G.out.trans GB.out)
      have T0 := Lib.hid (T0.out.grow GB.out)
      have T1 := Lib.hid (T1.out.grow GB.out)
      have T5 := Lib.hid (T5.out.grow GB.out)
      have HR0 := Lib.hid (HR0.out.grow GB.out)
      have HR1 := Lib.hid (HR1.out.grow GB.out)
      have HD := Lib.hid (HD.out.grow GB.out)
      have HE := Lib.hid (HE.out.grow GB.out)
      refine wp_region_fast [(0, true), (1, true), (3, true), (4, true), (2, false), (5, false), (6, true), (7, true), (8, true), (10, true), (9, false), (11, false), (12, false), (13, true), (14, true), (15, true), (16, true), (18, true), (19, true), (17, false), (20, false), (21, false), (22, true), (23, true), (24, true), (25, true), (27, true), (28, true), (26, false), (29, false), (30, false), (31, true), (32, true), (33, true), (34, true), (36, true), (37, true), (35, false), (38, false), (39, false), (40, true), (41, true), (42, true), (43, true), (44, false), (45, true), (46, true), (47, true), (48, true), (49, true), (50, true), (51, true)] (by kernel_rfl) (by kernel_rfl) rfl (by kernel_rfl) (fun _ _ d _ _ h => by cases d <;> exact h) ?_
      have T0_0 := T0.out.c0
      have T0_1 := T0.out.c1
      have T0_2 := T0.out.c2
      have T1_0 := T1.out.c0
      have T1_1 := T1.out.c1
      have T1_2 := T1.out.c2
      have T5_0 := T5.out.c0
      have T5_1 := T5.out.c1
      have T5_2 := T5.out.c2
      have T7_0 := T7.out.c0
      have T7_1 := T7.out.c1
      have T7_2 := T7.out.c2
      have g0 : Gr W5 W5.drew := (Gr.refl _).drew
      have G := Lib.hid (G.out.trans g0)
      have T0 := Lib.hid (T0.out.grow g0)
      have T1 := Lib.hid (T1.out.grow g0)
      have T5 := Lib.hid (T5.out.grow g0)
      have T7 := Lib.hid (T7.out.grow g0)
      have HR0 := Lib.hid (HR0.out.grow g0)
      have HR1 := Lib.hid (HR1.out.grow g0)
      have HD := Lib.hid (HD.out.grow g0)
      have HE := Lib.hid (HE.out.grow g0)
      obtain ⟨cc, hcc⟩ : ∃ c, cmpQ x0 x1 = c := ⟨_, rfl⟩
      repeat (refine wpE_readB (v := ?_) g0 rfl rfl (fun w' hg => ?_) (fun K hK => ?_); rotate_left; (go_simp; rfl); go_simp; refine hK _ _ ?_; clear hK K)
      refine wpE_fn (args := ?_) rfl rfl rfl rfl rfl rfl (by kernel_rfl) (by kernel_rfl) ?_ (fun K hK => ?_)
      rotate_left
      · go_simp; rfl
      refine (q_Cmp _ _ _ x0 x1 (cc) 6 6 HR0.out HR1.out (hcc) (by decide) (by decide)).mono ?_
      rintro _ w1 ⟨_, rfl, g1, rfl⟩
      refine ⟨_, rfl, g1, ?_⟩
      go_simp
      refine hK _ _ ?_
      clear hK K
      have G := Lib.hid (G.out.trans g1)
      have T0 := Lib.hid (T0.out.grow g1)
      have T1 := Lib.hid (T1.out.grow g1)
      have T5 := Lib.hid (T5.out.grow g1)
      have T7 := Lib.hid (T7.out.grow g1)
      have HR0 := Lib.hid (HR0.out.grow g1)
      have HR1 := Lib.hid (HR1.out.grow g1)
      have HD := Lib.hid (HD.out.grow g1)
      have HE := Lib.hid (HE.out.grow g1)
      replace g0 := g0.trans g1
      clear g1
      repeat (refine wpE_readB (v := ?_) g0 rfl rfl (fun w' hg => ?_) (fun K hK => ?_); rotate_left; (go_simp; rfl); go_simp; refine hK _ _ ?_; clear hK K)
      refine wpE_fn (args := ?_) rfl rfl rfl rfl rfl rfl (by kernel_rfl) (by kernel_rfl) ?_ (fun K hK => ?_)
      rotate_left
      · go_simp; rfl
      refine (s_Cmp _ _ _ x0 x1 (cc) 6 6 HR0.out HR1.out (hcc) (by decide) (by decide) (by decide) (by decide)).mono ?_
      rintro _ w2 ⟨_, rfl, g2, rfl⟩
      refine ⟨_, rfl, g2, ?_⟩
      go_simp
      refine hK _ _ ?_
      clear hK K
      have G := Lib.hid (G.out.trans g2)
      have T0 := Lib.hid (T0.out.grow g2)
      have T1 := Lib.hid (T1.out.grow g2)
      have T5 := Lib.hid (T5.out.grow g2)
      have T7 := Lib.hid (T7.out.grow g2)
      have HR0 := Lib.hid (HR0.out.grow g2)
      have HR1 := Lib.hid (HR1.out.grow g2)
      have HD := Lib.hid (HD.out.grow g2)
      have HE := Lib.hid (HE.out.grow g2)
      replace g0 := g0.trans g2
      clear g2
      repeat (refine wpE_readB (v := ?_) g0 rfl rfl (fun w' hg => ?_) (fun K hK => ?_); rotate_left; (go_simp; rfl); go_simp; refine hK _ _ ?_; clear hK K)
      refine wpE_fn (args := ?_) rfl rfl rfl rfl rfl rfl (by kernel_rfl) (by kernel_rfl) ?_ (fun K hK => ?_)
      rotate_left
      · go_simp; rfl
      refine (q_Neg _ _ x0 _ 6 HR0.out rfl (by decide)).mono ?_
      rintro _ w3 ⟨r3, rfl, g3, h3⟩
      refine ⟨_, rfl, g3, ?_⟩
      go_simp
      refine hK _ _ ?_
      clear hK K
      have G := Lib.hid (G.out.trans g3)
      have T0 := Lib.hid (T0.out.grow g3)
      have T1 := Lib.hid (T1.out.grow g3)
      have T5 := Lib.hid (T5.out.grow g3)
      have T7 := Lib.hid (T7.out.grow g3)
      have HR0 := Lib.hid (HR0.out.grow g3)
      have HR1 := Lib.hid (HR1.out.grow g3)
      have HD := Lib.hid (HD.out.grow g3)
      have HE := Lib.hid (HE.out.grow g3)
      replace g0 := g0.trans g3
      clear g3
      have H3 := Lib.hid h3
      clear h3
      have S3 := Lib.hid (show Sz 6 ((- x0)) from sz_neg SR0.out)
      repeat (refine wpE_readB (v := ?_) g0 rfl rfl (fun w' hg => ?_) (fun K hK => ?_); rotate_left; (go_simp; rfl); go_simp; refine hK _ _ ?_; clear hK K)
      refine wpE_fn (args := ?_) rfl rfl rfl rfl rfl rfl (by kernel_rfl) (by kernel_rfl) ?_ (fun K hK => ?_)
      rotate_left
      · go_simp; rfl
      refine (s_Neg _ _ x0 _ 6 HR0.out rfl (by decide)).mono ?_
      rintro _ w4 ⟨r4, rfl, g4, h4⟩
      refine ⟨_, rfl, g4, ?_⟩
      go_simp
      refine hK _ _ ?_
      clear hK K
      have G := Lib.hid (G.out.trans g4)
      have T0 := Lib.hid (T0.out.grow g4)
      have T1 := Lib.hid (T1.out.grow g4)
      have T5 := Lib.hid (T5.out.grow g4)
      have T7 := Lib.hid (T7.out.grow g4)
      have HR0 := Lib.hid (HR0.out.grow g4)
      have HR1 := Lib.hid (HR1.out.grow g4)
      have HD := Lib.hid (HD.out.grow g4)
      have HE := Lib.hid (HE.out.grow g4)
      have H3 := Lib.hid (H3.out.grow g4)
      replace g0 := g0.trans g4
      clear g4
      have H4 := Lib.hid h4
      clear h4
      have S4 := Lib.hid (show Sz 6 ((- x0)) from sz_neg SR0.out)
      repeat (refine wpE_readB (v := ?_) g0 rfl rfl (fun w' hg => ?_) (fun K hK => ?_); rotate_left; (go_simp; rfl); go_simp; refine hK _ _ ?_; clear hK K)
      refine wpE_fn (args := ?_) rfl rfl rfl rfl rfl rfl (by kernel_rfl) (by kernel_rfl) ?_ (fun K hK => ?_)
      rotate_left
      · go_simp; rfl
      refine (d_SameC _ _ _ (- x0) (- x0) true H3.out H4.out (decide_eq_true (rfl))).mono ?_
      rintro _ w5 ⟨_, rfl, g5, rfl⟩
      refine ⟨_, rfl, g5, ?_⟩
      go_simp
      refine hK _ _ ?_
      clear hK K
      have G := Lib.hid (G.out.trans g5)
      have T0 := Lib.hid (T0.out.grow g5)
      have T1 := Lib.hid (T1.out.grow g5)
      have T5 := Lib.hid (T5.out.grow g5)
      have T7 := Lib.hid (T7.out.grow g5)
      have HR0 := Lib.hid (HR0.out.grow g5)
      have HR1 := Lib.hid (HR1.out.grow g5)
      have HD := Lib.hid (HD.out.grow g5)
      have HE := Lib.hid (HE.out.grow g5)
      have H3 := Lib.hid (H3.out.grow g5)
      have H4 := Lib.hid (H4.out.grow g5)
      replace g0 := g0.trans g5
      clear g5
      repeat (refine wpE_readB (v := ?_) g0 rfl rfl (fun w' hg => ?_) (fun K hK => ?_); rotate_left; (go_simp; rfl); go_simp; refine hK _ _ ?_; clear hK K)
      refine wpE_fn (args := ?_) rfl rfl rfl rfl rfl rfl (by kernel_rfl) (by kernel_rfl) ?_ (fun K hK => ?_)
      rotate_left
      · go_simp; rfl
      refine (q_Add _ _ _ x0 x1 _ 6 6 HR0.out HR1.out rfl (by decide) (by decide)).mono ?_
      rintro _ w6 ⟨r6, rfl, g6, h6⟩
      refine ⟨_, rfl, g6, ?_⟩
      go_simp
      refine hK _ _ ?_
      clear hK K
      have G := Lib.hid (G.out.trans g6)
      have T0 := Lib.hid (T0.out.grow g6)
      have T1 := Lib.hid (T1.out.grow g6)
      have T5 := Lib.hid (T5.out.grow g6)
      have T7 := Lib.hid (T7.out.grow g6)
      have HR0 := Lib.hid (HR0.out.grow g6)
      have HR1 := Lib.hid (HR1.out.grow g6)
      have HD := Lib.hid (HD.out.grow g6)
      have HE := Lib.hid (HE.out.grow g6)
      have H3 := Lib.hid (H3.out.grow g6)
      have H4 := Lib.hid (H4.out.grow g6)
      replace g0 := g0.trans g6
      clear g6
      have H6 := Lib.hid h6
      clear h6
      have S6 := Lib.hid (show Sz 13 ((x0 + x1)) from sz_add SR0.out SR1.out)
      repeat (refine wpE_readB (v := ?_) g0 rfl rfl (fun w' hg => ?_) (fun K hK => ?_); rotate_left; (go_simp; rfl); go_simp; refine hK _ _ ?_; clear hK K)
      refine wpE_fn (args := ?_) rfl rfl rfl rfl rfl rfl (by kernel_rfl) (by kernel_rfl) ?_ (fun K hK => ?_)
      rotate_left
      · go_simp; rfl
      refine (s_Add _ _ _ x0 x1 _ 6 6 HR0.out HR1.out rfl (by decide) (by decide)).mono ?_
      rintro _ w7 ⟨r7, rfl, g7, h7⟩
      refine ⟨_, rfl, g7, ?_⟩
      go_simp
      refine hK _ _ ?_
      clear hK K
      have G := Lib.hid (G.out.trans g7)
      have T0 := Lib.hid (T0.out.grow g7)
      have T1 := Lib.hid (T1.out.grow g7)
      have T5 := Lib.hid (T5.out.grow g7)
      have T7 := Lib.hid (T7.out.grow g7)
      have HR0 := Lib.hid (HR0.out.grow g7)
      have HR1 := Lib.hid (HR1.out.grow g7)
      have HD := Lib.hid (HD.out.grow g7)
      have HE := Lib.hid (HE.out.grow g7)
      have H3 := Lib.hid (H3.out.grow g7)
      have H4 := Lib.hid (H4.out.grow g7)
      have H6 := Lib.hid (H6.out.grow g7)
      replace g0 := g0.trans g7
      clear g7
      have H7 := Lib.hid h7
      clear h7
      have S7 := Lib.hid (show Sz 13 ((x0 + x1)) from sz_add SR0.out SR1.out)
      repeat (refine wpE_readB (v := ?_) g0 rfl rfl (fun w' hg => ?_) (fun K hK => ?_); rotate_left; (go_simp; rfl); go_simp; refine hK _ _ ?_; clear hK K)
      refine wpE_fn (args := ?_) rfl rfl rfl rfl rfl rfl (by kernel_rfl) (by kernel_rfl) ?_ (fun K hK => ?_)
      rotate_left
      · go_simp; rfl
      refine (d_SameC _ _ _ (x0 + x1) (x0 + x1) true H6.out H7.out (decide_eq_true (rfl))).mono ?_
      rintro _ w8 ⟨_, rfl, g8, rfl⟩
      refine ⟨_, rfl, g8, ?_⟩
      go_simp
      refine hK _ _ ?_
      clear hK K
      have G := Lib.hid (G.out.trans g8)
      have T0 := Lib.hid (T0.out.grow g8)
      have T1 := Lib.hid (T1.out.grow g8)
      have T5 := Lib.hid (T5.out.grow g8)
      have T7 := Lib.hid (T7.out.grow g8)
      have HR0 := Lib.hid (HR0.out.grow g8)
      have HR1 := Lib.hid (HR1.out.grow g8)
      have HD := Lib.hid (HD.out.grow g8)
      have HE := Lib.hid (HE.out.grow g8)
      have H3 := Lib.hid (H3.out.grow g8)
      have H4 := Lib.hid (H4.out.grow g8)
      have H6 := Lib.hid (H6.out.grow g8)
      have H7 := Lib.hid (H7.out.grow g8)
      replace g0 := g0.trans g8
      clear g8
      repeat (refine wpE_readB (v := ?_) g0 rfl rfl (fun w' hg => ?_) (fun K hK => ?_); rotate_left; (go_simp; rfl); go_simp; refine hK _ _ ?_; clear hK K)
      have SN9 := Lib.hid (sz_neg SR1.out)
      refine wpE_fn (args := ?_) rfl rfl rfl rfl rfl rfl (by kernel_rfl) (by kernel_rfl) ?_ (fun K hK => ?_)
      rotate_left
      · go_simp; rfl
      refine (q_Sub _ _ _ x0 x1 _ 6 6 HR0.out HR1.out SN9.out rfl (by decide) (by decide)).mono ?_
      rintro _ w9 ⟨r9, rfl, g9, h9⟩
      refine ⟨_, rfl, g9, ?_⟩
      go_simp
      refine hK _ _ ?_
      clear hK K
      have G := Lib.hid (G.out.trans g9)
      have T0 := Lib.hid (T0.out.grow g9)
      have T1 := Lib.hid (T1.out.grow g9)
      have T5 := Lib.hid (T5.out.grow g9)
      have T7 := Lib.hid (T7.out.grow g9)
      have HR0 := Lib.hid (HR0.out.grow g9)
      have HR1 := Lib.hid (HR1.out.grow g9)
      have HD := Lib.hid (HD.out.grow g9)
      have HE := Lib.hid (HE.out.grow g9)
      have H3 := Lib.hid (H3.out.grow g9)
      have H4 := Lib.hid (H4.out.grow g9)
      have H6 := Lib.hid (H6.out.grow g9)
      have H7 := Lib.hid (H7.out.grow g9)
      replace g0 := g0.trans g9
      clear g9
      have H9 := Lib.hid h9
      clear h9
      have S9 := Lib.hid (show Sz 13 ((x0 - x1)) from sz_sub SR0.out SR1.out)
      repeat (refine wpE_readB (v := ?_) g0 rfl rfl (fun w' hg => ?_) (fun K hK => ?_); rotate_left; (go_simp; rfl); go_simp; refine hK _ _ ?_; clear hK K)
      refine wpE_fn (args := ?_) rfl rfl rfl rfl rfl rfl (by kernel_rfl) (by kernel_rfl) ?_ (fun K hK => ?_)
      rotate_left
      · go_simp; rfl
      refine (s_Sub _ _ _ x0 x1 _ 6 6 HR0.out HR1.out rfl (by decide) (by decide) (by decide)).mono ?_
      rintro _ w10 ⟨r10, rfl, g10, h10⟩
      refine ⟨_, rfl, g10, ?_⟩
      go_simp
      refine hK _ _ ?_
      clear hK K
      have G := Lib.hid (G.out.trans g10)
      have T0 := Lib.hid (T0.out.grow g10)
      have T1 := Lib.hid (T1.out.grow g10)
      have T5 := Lib.hid (T5.out.grow g10)
      have T7 := Lib.hid (T7.out.grow g10)
      have HR0 := Lib.hid (HR0.out.grow g10)
      have HR1 := Lib.hid (HR1.out.grow g10)
      have HD := Lib.hid (HD.out.grow g10)
      have HE := Lib.hid (HE.out.grow g10)
      have H3 := Lib.hid (H3.out.grow g10)
      have H4 := Lib.hid (H4.out.grow g10)
      have H6 := Lib.hid (H6.out.grow g10)
      have H7 := Lib.hid (H7.out.grow g10)
      have H9 := Lib.hid (H9.out.grow g10)
      replace g0 := g0.trans g10
      clear g10
      have H10 := Lib.hid h10
      clear h10
      have S10 := Lib.hid (show Sz 13 ((x0 - x1)) from sz_sub SR0.out SR1.out)
      repeat (refine wpE_readB (v := ?_) g0 rfl rfl (fun w' hg => ?_) (fun K hK => ?_); rotate_left; (go_simp; rfl); go_simp; refine hK _ _ ?_; clear hK K)
      refine wpE_fn (args := ?_) rfl rfl rfl rfl rfl rfl (by kernel_rfl) (by kernel_rfl) ?_ (fun K hK => ?_)
      rotate_left
      · go_simp; rfl
      refine (d_SameC _ _ _ (x0 - x1) (x0 - x1) true H9.out H10.out (decide_eq_true (rfl))).mono ?_
      rintro _ w11 ⟨_, rfl, g11, rfl⟩
      refine ⟨_, rfl, g11, ?_⟩
      go_simp
      refine hK _ _ ?_
      clear hK K
      have G := Lib.hid (G.out.trans g11)
      have T0 := Lib.hid (T0.out.grow g11)
      have T1 := Lib.hid (T1.out.grow g11)
      have T5 := Lib.hid (T5.out.grow g11)
      have T7 := Lib.hid (T7.out.grow g11)
      have HR0 := Lib.hid (HR0.out.grow g11)
      have HR1 := Lib.hid (HR1.out.grow g11)
      have HD := Lib.hid (HD.out.grow g11)
      have HE := Lib.hid (HE.out.grow g11)
      have H3 := Lib.hid (H3.out.grow g11)
      have H4 := Lib.hid (H4.out.grow g11)
      have H6 := Lib.hid (H6.out.grow g11)
      have H7 := Lib.hid (H7.out.grow g11)
      have H9 := Lib.hid (H9.out.grow g11)
      have H10 := Lib.hid (H10.out.grow g11)
      replace g0 := g0.trans g11
      clear g11
      repeat (refine wpE_readB (v := ?_) g0 rfl rfl (fun w' hg => ?_) (fun K hK => ?_); rotate_left; (go_simp; rfl); go_simp; refine hK _ _ ?_; clear hK K)
      refine wpE_fn (args := ?_) rfl rfl rfl rfl rfl rfl (by kernel_rfl) (by kernel_rfl) ?_ (fun K hK => ?_)
      rotate_left
      · go_simp; rfl
      refine (q_Mul _ _ _ x0 x1 _ 6 6 HR0.out HR1.out rfl (by decide) (by decide)).mono ?_
      rintro _ w12 ⟨r12, rfl, g12, h12⟩
      refine ⟨_, rfl, g12, ?_⟩
      go_simp
      refine hK _ _ ?_
      clear hK K
      have G := Lib.hid (G.out.trans g12)
      have T0 := Lib.hid (T0.out.grow g12)
      have T1 := Lib.hid (T1.out.grow g12)
      have T5 := Lib.hid (T5.out.grow g12)
      have T7 := Lib.hid (T7.out.grow g12)
      have HR0 := Lib.hid (HR0.out.grow g12)
      have HR1 := Lib.hid (HR1.out.grow g12)
      have HD := Lib.hid (HD.out.grow g12)
      have HE := Lib.hid (HE.out.grow g12)
      have H3 := Lib.hid (H3.out.grow g12)
      have H4 := Lib.hid (H4.out.grow g12)
      have H6 := Lib.hid (H6.out.grow g12)
      have H7 := Lib.hid (H7.out.grow g12)
      have H9 := Lib.hid (H9.out.grow g12)
      have H10 := Lib.hid (H10.out.grow g12)
      replace g0 := g0.trans g12
      clear g12
      have H12 := Lib.hid h12
      clear h12
      have S12 := Lib.hid (show Sz 13 ((x0 * x1)) from sz_mul SR0.out SR1.out)
      repeat (refine wpE_readB (v := ?_) g0 rfl rfl (fun w' hg => ?_) (fun K hK => ?_); rotate_left; (go_simp; rfl); go_simp; refine hK _ _ ?_; clear hK K)
      refine wpE_fn (args := ?_) rfl rfl rfl rfl rfl rfl (by kernel_rfl) (by kernel_rfl) ?_ (fun K hK => ?_)
      rotate_left
      · go_simp; rfl
      refine (s_Mul _ _ _ x0 x1 _ 6 6 HR0.out HR1.out rfl (by decide) (by decide)).mono ?_
      rintro _ w13 ⟨r13, rfl, g13, h13⟩
      refine ⟨_, rfl, g13, ?_⟩
      go_simp
      refine hK _ _ ?_
      clear hK K
      have G := Lib.hid (G.out.trans g13)
      have T0 := Lib.hid (T0.out.grow g13)
      have T1 := Lib.hid (T1.out.grow g13)
      have T5 := Lib.hid (T5.out.grow g13)
      have T7 := Lib.hid (T7.out.grow g13)
      have HR0 := Lib.hid (HR0.out.grow g13)
      have HR1 := Lib.hid (HR1.out.grow g13)
      have HD := Lib.hid (HD.out.grow g13)
      have HE := Lib.hid (HE.out.grow g13)
      have H3 := Lib.hid (H3.out.grow g13)
      have H4 := Lib.hid (H4.out.grow g13)
      have H6 := Lib.hid (H6.out.grow g13)
      have H7 := Lib.hid (H7.out.grow g13)
      have H9 := Lib.hid (H9.out.grow g13)
      have H10 := Lib.hid (H10.out.grow g13)
      have H12 := Lib.hid (H12.out.grow g13)
      replace g0 := g0.trans g13
      clear g13
      have H13 := Lib.hid h13
      clear h13
      have S13 := Lib.hid (show Sz 13 ((x0 * x1)) from sz_mul SR0.out SR1.out)
      repeat (refine wpE_readB (v := ?_) g0 rfl rfl (fun w' hg => ?_) (fun K hK => ?_); rotate_left; (go_simp; rfl); go_simp; refine hK _ _ ?_; clear hK K)
      refine wpE_fn (args := ?_) rfl rfl rfl rfl rfl rfl (by kernel_rfl) (by kernel_rfl) ?_ (fun K hK => ?_)
      rotate_left
      · go_simp; rfl
      refine (d_SameC _ _ _ (x0 * x1) (x0 * x1) true H12.out H13.out (decide_eq_true (rfl))).mono ?_
      rintro _ w14 ⟨_, rfl, g14, rfl⟩
      refine ⟨_, rfl, g14, ?_⟩
      go_simp
      refine hK _ _ ?_
      clear hK K
      have G := Lib.hid (G.out.trans g14)
      have T0 := Lib.hid (T0.out.grow g14)
      have T1 := Lib.hid (T1.out.grow g14)
      have T5 := Lib.hid (T5.out.grow g14)
      have T7 := Lib.hid (T7.out.grow g14)
      have HR0 := Lib.hid (HR0.out.grow g14)
      have HR1 := Lib.hid (HR1.out.grow g14)
      have HD := Lib.hid (HD.out.grow g14)
      have HE := Lib.hid (HE.out.grow g14)
      have H3 := Lib.hid (H3.out.grow g14)
      have H4 := Lib.hid (H4.out.grow g14)
      have H6 := Lib.hid (H6.out.grow g14)
      have H7 := Lib.hid (H7.out.grow g14)
      have H9 := Lib.hid (H9.out.grow g14)
      have H10 := Lib.hid (H10.out.grow g14)
      have H12 := Lib.hid (H12.out.grow g14)
      have H13 := Lib.hid (H13.out.grow g14)
      replace g0 := g0.trans g14
      clear g14
      repeat (refine wpE_readB (v := ?_) g0 rfl rfl (fun w' hg => ?_) (fun K hK => ?_); rotate_left; (go_simp; rfl); go_simp; refine hK _ _ ?_; clear hK K)
      refine wpE_fn (args := ?_) rfl rfl rfl rfl rfl rfl (by kernel_rfl) (by kernel_rfl) ?_ (fun K hK => ?_)
      rotate_left
      · go_simp; rfl
      refine (d_SameC _ _ _ (x0 / x1) (x0 / x1) true HD.out HE.out (decide_eq_true (rfl))).mono ?_
      rintro _ w15 ⟨_, rfl, g15, rfl⟩
      refine ⟨_, rfl, g15, ?_⟩
      go_simp
      refine hK _ _ ?_
      clear hK K
      have G := Lib.hid (G.out.trans g15)
      have T0 := Lib.hid (T0.out.grow g15)
      have T1 := Lib.hid (T1.out.grow g15)
      have T5 := Lib.hid (T5.out.grow g15)
      have T7 := Lib.hid (T7.out.grow g15)
      have HR0 := Lib.hid (HR0.out.grow g15)
      have HR1 := Lib.hid (HR1.out.grow g15)
      have HD := Lib.hid (HD.out.grow g15)
      have HE := Lib.hid (HE.out.grow g15)
      have H3 := Lib.hid (H3.out.grow g15)
      have H4 := Lib.hid (H4.out.grow g15)
      have H6 := Lib.hid (H6.out.grow g15)
      have H7 := Lib.hid (H7.out.grow g15)
      have H9 := Lib.hid (H9.out.grow g15)
      have H10 := Lib.hid (H10.out.grow g15)
      have H12 := Lib.hid (H12.out.grow g15)
      have H13 := Lib.hid (H13.out.grow g15)
      replace g0 := g0.trans g15
      clear g15
      repeat (refine wpE_readB (v := ?_) g0 rfl rfl (fun w' hg => ?_) (fun K hK => ?_); rotate_left; (go_simp; rfl); go_simp; refine hK _ _ ?_; clear hK K)
      refine wpE_nil ?_
      clear g0
      clear T0_0 T0_1 T0_2 T1_0 T1_1 T1_2 T5_0 T5_1 T5_2 T7_0 T7_1 T7_2
      go_wp2_with fail
      go_ret
      exact ⟨_, rfl, G.out, rfl⟩
end Go.Proofs.YtmcgkglmlfbijaaGreatDoor

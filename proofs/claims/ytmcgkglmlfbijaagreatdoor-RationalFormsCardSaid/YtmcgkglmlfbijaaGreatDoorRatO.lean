/-
  RationalField: the walk.
-/
import Derived.Test.YtmcgkglmlfbijaaGreatDoorRatN
namespace Go.Proofs.YtmcgkglmlfbijaaGreatDoor
open Go.RowKit Go.Lib
set_option linter.unusedVariables false
set_option linter.unusedSimpArgs false

def zcR : TypeId → Array Value := fun _ => #[.bool false, .slice none 0 0, .slice none 0 0]
theorem Fresh.three {T : TypeId} {b : Nat} {w : World} (h : Fresh (zcR T) T b w) : Three w b (.bool false) (.slice none 0 0) (.slice none 0 0) := ⟨T, h⟩
theorem allocR : AllocIs Tryz.prog 27 (zcR 27) := fun w => by
  simp [go_sem]
  rfl
theorem RatC.keepR {w : World} {v : Value} {x : Rat} {b : Nat} {s : Bool} {p q : Option Addr} {k c m e : Nat} (h : RatC w v x) (t : Three w b (.bool s) (.slice p k c) (.slice q m e)) (x1 x2 x3 : Value) : RatC (((w.setCell ⟨b, 0, none⟩ x1).setCell ⟨b, 1, none⟩ x2).setCell ⟨b, 2, none⟩ x3) v x :=
  h.upd t.noInt (upd3 _ _ _ _ _)

set_option maxRecDepth 100000 in
set_option maxHeartbeats 12800000 in
theorem law_RationalField (w : World) (htab : Tab w) (v0 v1 v2 : Value) (s0 s1 s2 : Bool) (l0 d0 l1 d1 l2 d2 : List Nat) (i0 : RatL w v0 s0 l0 d0) (i1 : RatL w v1 s1 l1 d1) (i2 : RatL w v2 s2 l2 d2) :
    Calls Tryz.prog 6 #[v0, v1, v2] w (Ret w fun r w' => r = .bool true) := by
  have HTab := Lib.hid htab
  clear htab
  have HA0 := Lib.hid i0
  obtain ⟨p0, k0, c0, e0, m0, n0, rfl, j0, j0'⟩ := i0
  have Hl0 := Lib.hid j0.len
  have Hm0 := Lib.hid j0'.len
  clear j0 j0'
  have HA1 := Lib.hid i1
  obtain ⟨p1, k1, c1, e1, m1, n1, rfl, j1, j1'⟩ := i1
  have Hl1 := Lib.hid j1.len
  have Hm1 := Lib.hid j1'.len
  clear j1 j1'
  have HA2 := Lib.hid i2
  obtain ⟨p2, k2, c2, e2, m2, n2, rfl, j2, j2'⟩ := i2
  have Hl2 := Lib.hid j2.len
  have Hm2 := Lib.hid j2'.len
  clear j2 j2'
  have B := box333 w (.bool s0) (.slice p0 k0 c0) (.slice e0 m0 n0) (.bool s1) (.slice p1 k1 c1) (.slice e1 m1 n1) (.bool s2) (.slice p2 k2 c2) (.slice e2 m2 n2) 27 27 27
  have Hb1 := Lib.hid (show ¬ w.heap.size + 1 < w.heap.size by omega)
  have Hb2 := Lib.hid (show ¬ w.heap.size + 1 + 1 < w.heap.size by omega)
  have Hd01 := Lib.hid (show w.heap.size ≠ w.heap.size + 1 by omega)
  have Hd02 := Lib.hid (show w.heap.size ≠ w.heap.size + 1 + 1 by omega)
  have Hd12 := Lib.hid (show w.heap.size + 1 ≠ w.heap.size + 1 + 1 by omega)
  go_enter Tryz.func6, Tryz.ntmps6
  go_wp2_with fail
  generalize ((w.alloc _).alloc _).alloc _ = W at B ⊢
  obtain ⟨G0, t0, t1, t2⟩ := B
  generalize w.heap.size + 1 + 1 = b2 at t2 Hb2 Hd02 Hd12 ⊢
  generalize w.heap.size + 1 = b1 at t1 Hb1 Hd01 Hd12 ⊢
  generalize hb0 : w.heap.size = b0 at t0 Hd01 Hd02 ⊢
  have Hb0 := Lib.hid (show ¬ b0 < w.heap.size by omega)
  have G := Lib.hid G0
  have T0 := Lib.hid t0
  have T1 := Lib.hid t1
  have T2 := Lib.hid t2
  clear hb0 G0 t0 t1 t2
  have HA0 := Lib.hid (HA0.out.grow G.out)
  have HA1 := Lib.hid (HA1.out.grow G.out)
  have HA2 := Lib.hid (HA2.out.grow G.out)
  refine (law_awake3 W (HTab.out.grow G.out)).mono ?_
  rintro _ w1 ⟨_, rfl, g1, rfl⟩
  have G := Lib.hid (G.out.trans g1)
  have T0 := Lib.hid (T0.out.grow g1)
  have T1 := Lib.hid (T1.out.grow g1)
  have T2 := Lib.hid (T2.out.grow g1)
  have HA0 := Lib.hid (HA0.out.grow g1)
  have HA1 := Lib.hid (HA1.out.grow g1)
  have HA2 := Lib.hid (HA2.out.grow g1)
  clear g1
  have T0_0 := T0.out.load.1
  have T0_1 := T0.out.load.2.1
  have T0_2 := T0.out.load.2.2
  have T1_0 := T1.out.load.1
  have T1_1 := T1.out.load.2.1
  have T1_2 := T1.out.load.2.2
  have T2_0 := T2.out.load.1
  have T2_1 := T2.out.load.2.1
  have T2_2 := T2.out.load.2.2
  go_wp2_with fail
  clear T0_0 T0_1 T0_2 T1_0 T1_1 T1_2 T2_0 T2_1 T2_2
  obtain ⟨t, ht⟩ : ∃ t, decide (∀ i, i < 3 → (if i = 0 then k0 else if i = 1 then k1 else k2) ≤ 4 ∧ (if i = 0 then m0 else if i = 1 then m1 else m2) ≤ 4) = t := ⟨_, rfl⟩
  refine (ref_Few _ _ 3 3 4 (fun i => if i = 0 then s0 else if i = 1 then s1 else s2) (fun i => if i = 0 then p0 else if i = 1 then p1 else p2) (fun i => if i = 0 then e0 else if i = 1 then e1 else e2) (fun i => if i = 0 then k0 else if i = 1 then k1 else k2) (fun i => if i = 0 then c0 else if i = 1 then c1 else c2) (fun i => if i = 0 then m0 else if i = 1 then m1 else m2) (fun i => if i = 0 then n0 else if i = 1 then n1 else n2) (by decide) (by decide) (by decide) t ht (fun i hi => ?_)).mono ?_
  · match i, hi with
    | 0, _ => exact ⟨cell_new3 _ _ _ _, cell_new3 _ _ _ _, cell_new3 _ _ _ _⟩
    | 1, _ => exact ⟨cell_new3 _ _ _ _, cell_new3 _ _ _ _, cell_new3 _ _ _ _⟩
    | 2, _ => exact ⟨cell_new3 _ _ _ _, cell_new3 _ _ _ _, cell_new3 _ _ _ _⟩
  rintro _ w3 ⟨_, rfl, g3, rfl⟩
  have g4 : Gr w1 w3 := ((Gr.refl w1).alloc _).trans g3
  clear g3
  have G := Lib.hid (G.out.trans g4)
  have T0 := Lib.hid (T0.out.grow g4)
  have T1 := Lib.hid (T1.out.grow g4)
  have T2 := Lib.hid (T2.out.grow g4)
  have HA0 := Lib.hid (HA0.out.grow g4)
  have HA1 := Lib.hid (HA1.out.grow g4)
  have HA2 := Lib.hid (HA2.out.grow g4)
  clear g4
  cases t
  · clear ht
    go_wp2_with fail
    refine (law_awake3 w3 (HTab.out.grow G.out)).mono ?_
    rintro _ w5 ⟨_, rfl, g5, rfl⟩
    have G := Lib.hid (G.out.trans g5)
    have T0 := Lib.hid (T0.out.grow g5)
    have T1 := Lib.hid (T1.out.grow g5)
    have T2 := Lib.hid (T2.out.grow g5)
    have HA0 := Lib.hid (HA0.out.grow g5)
    have HA1 := Lib.hid (HA1.out.grow g5)
    have HA2 := Lib.hid (HA2.out.grow g5)
    clear g5
    go_wp2_with fail
    go_ret
    exact ⟨_, rfl, G.out, rfl⟩
  · have hh := of_decide_eq_true ht
    have hk0 := hh 0 (by decide)
    have hk1 := hh 1 (by decide)
    have hk2 := hh 2 (by decide)
    obtain ⟨x0, hx0⟩ : ∃ x, ratv s0 l0 d0 = x := ⟨_, rfl⟩
    have HR0 := Lib.hid (show RatV w3 _ x0 4 from ⟨s0, l0, d0, HA0.out, hx0, by rw [Hl0.out]; exact hk0.1, by rw [Hm0.out]; exact hk0.2⟩)
    have SR0 := Lib.hid (HR0.out.sz (by decide))
    obtain ⟨x1, hx1⟩ : ∃ x, ratv s1 l1 d1 = x := ⟨_, rfl⟩
    have HR1 := Lib.hid (show RatV w3 _ x1 4 from ⟨s1, l1, d1, HA1.out, hx1, by rw [Hl1.out]; exact hk1.1, by rw [Hm1.out]; exact hk1.2⟩)
    have SR1 := Lib.hid (HR1.out.sz (by decide))
    obtain ⟨x2, hx2⟩ : ∃ x, ratv s2 l2 d2 = x := ⟨_, rfl⟩
    have HR2 := Lib.hid (show RatV w3 _ x2 4 from ⟨s2, l2, d2, HA2.out, hx2, by rw [Hl2.out]; exact hk2.1, by rw [Hm2.out]; exact hk2.2⟩)
    have SR2 := Lib.hid (HR2.out.sz (by decide))
    clear ht hh hk0 hk1 hk2
    go_wp2_with fail
    refine wp_region_fast [(0, true), (1, true), (2, true), (4, true), (5, true), (3, false), (6, false), (7, false), (8, true), (9, true), (10, true), (11, true), (12, true), (14, true), (15, true), (13, false), (16, false), (17, false), (18, true), (19, true), (20, true), (21, true), (22, true), (23, true), (25, true), (27, true), (28, true), (29, true), (24, false), (26, false), (30, false), (31, false), (32, false), (33, true), (34, true), (35, true), (36, true), (37, true), (38, true), (40, true), (42, true), (43, true), (44, true), (39, false), (41, false), (45, false), (46, false), (47, false), (48, true), (49, true), (50, true), (51, true), (52, true), (53, true), (54, true), (57, true), (58, true), (60, true), (61, true), (55, false), (56, false), (59, false), (62, false), (63, false), (64, false), (65, true), (66, true)] (by kernel_rfl) (by kernel_rfl) rfl (by kernel_rfl) (fun _ _ d _ _ h => by cases d <;> exact h) ?_
    have T0_0 := T0.out.c0
    have T0_1 := T0.out.c1
    have T0_2 := T0.out.c2
    have T1_0 := T1.out.c0
    have T1_1 := T1.out.c1
    have T1_2 := T1.out.c2
    have T2_0 := T2.out.c0
    have T2_1 := T2.out.c1
    have T2_2 := T2.out.c2
    have g0 : Gr w3 w3.drew := (Gr.refl _).drew
    have G := Lib.hid (G.out.trans g0)
    have T0 := Lib.hid (T0.out.grow g0)
    have T1 := Lib.hid (T1.out.grow g0)
    have T2 := Lib.hid (T2.out.grow g0)
    have HR0 := Lib.hid (HR0.out.grow g0)
    have HR1 := Lib.hid (HR1.out.grow g0)
    have HR2 := Lib.hid (HR2.out.grow g0)
    repeat (refine wpE_readB (v := ?_) g0 rfl rfl (fun w' hg => ?_) (fun K hK => ?_); rotate_left; (go_simp; rfl); go_simp; refine hK _ _ ?_; clear hK K)
    refine wpE_fn (args := ?_) rfl rfl rfl rfl rfl rfl (by kernel_rfl) (by kernel_rfl) ?_ (fun K hK => ?_)
    rotate_left
    · go_simp; rfl
    refine (q_Add _ _ _ x0 x1 _ 4 4 HR0.out HR1.out rfl (by decide) (by decide)).mono ?_
    rintro _ w1 ⟨r1, rfl, g1, h1⟩
    refine ⟨_, rfl, g1, ?_⟩
    go_simp
    refine hK _ _ ?_
    clear hK K
    have G := Lib.hid (G.out.trans g1)
    have T0 := Lib.hid (T0.out.grow g1)
    have T1 := Lib.hid (T1.out.grow g1)
    have T2 := Lib.hid (T2.out.grow g1)
    have HR0 := Lib.hid (HR0.out.grow g1)
    have HR1 := Lib.hid (HR1.out.grow g1)
    have HR2 := Lib.hid (HR2.out.grow g1)
    replace g0 := g0.trans g1
    clear g1
    have H1 := Lib.hid h1
    clear h1
    have S1 := Lib.hid (show Sz 9 ((x0 + x1)) from sz_add SR0.out SR1.out)
    repeat (refine wpE_readB (v := ?_) g0 rfl rfl (fun w' hg => ?_) (fun K hK => ?_); rotate_left; (go_simp; rfl); go_simp; refine hK _ _ ?_; clear hK K)
    refine wpE_fn (args := ?_) rfl rfl rfl rfl rfl rfl (by kernel_rfl) (by kernel_rfl) ?_ (fun K hK => ?_)
    rotate_left
    · go_simp; rfl
    refine (q_Add _ _ _ x1 x0 _ 4 4 HR1.out HR0.out rfl (by decide) (by decide)).mono ?_
    rintro _ w2 ⟨r2, rfl, g2, h2⟩
    refine ⟨_, rfl, g2, ?_⟩
    go_simp
    refine hK _ _ ?_
    clear hK K
    have G := Lib.hid (G.out.trans g2)
    have T0 := Lib.hid (T0.out.grow g2)
    have T1 := Lib.hid (T1.out.grow g2)
    have T2 := Lib.hid (T2.out.grow g2)
    have HR0 := Lib.hid (HR0.out.grow g2)
    have HR1 := Lib.hid (HR1.out.grow g2)
    have HR2 := Lib.hid (HR2.out.grow g2)
    have H1 := Lib.hid (H1.out.grow g2)
    replace g0 := g0.trans g2
    clear g2
    have H2 := Lib.hid h2
    clear h2
    have S2 := Lib.hid (show Sz 9 ((x1 + x0)) from sz_add SR1.out SR0.out)
    repeat (refine wpE_readB (v := ?_) g0 rfl rfl (fun w' hg => ?_) (fun K hK => ?_); rotate_left; (go_simp; rfl); go_simp; refine hK _ _ ?_; clear hK K)
    refine wpE_fn (args := ?_) rfl rfl rfl rfl rfl rfl (by kernel_rfl) (by kernel_rfl) ?_ (fun K hK => ?_)
    rotate_left
    · go_simp; rfl
    refine (d_SameC _ _ _ (x0 + x1) (x1 + x0) true H1.out H2.out (decide_eq_true (Rat.add_comm _ _))).mono ?_
    rintro _ w3 ⟨_, rfl, g3, rfl⟩
    refine ⟨_, rfl, g3, ?_⟩
    go_simp
    refine hK _ _ ?_
    clear hK K
    have G := Lib.hid (G.out.trans g3)
    have T0 := Lib.hid (T0.out.grow g3)
    have T1 := Lib.hid (T1.out.grow g3)
    have T2 := Lib.hid (T2.out.grow g3)
    have HR0 := Lib.hid (HR0.out.grow g3)
    have HR1 := Lib.hid (HR1.out.grow g3)
    have HR2 := Lib.hid (HR2.out.grow g3)
    have H1 := Lib.hid (H1.out.grow g3)
    have H2 := Lib.hid (H2.out.grow g3)
    replace g0 := g0.trans g3
    clear g3
    repeat (refine wpE_readB (v := ?_) g0 rfl rfl (fun w' hg => ?_) (fun K hK => ?_); rotate_left; (go_simp; rfl); go_simp; refine hK _ _ ?_; clear hK K)
    refine wpE_fn (args := ?_) rfl rfl rfl rfl rfl rfl (by kernel_rfl) (by kernel_rfl) ?_ (fun K hK => ?_)
    rotate_left
    · go_simp; rfl
    refine (q_Mul _ _ _ x0 x1 _ 4 4 HR0.out HR1.out rfl (by decide) (by decide)).mono ?_
    rintro _ w4 ⟨r4, rfl, g4, h4⟩
    refine ⟨_, rfl, g4, ?_⟩
    go_simp
    refine hK _ _ ?_
    clear hK K
    have G := Lib.hid (G.out.trans g4)
    have T0 := Lib.hid (T0.out.grow g4)
    have T1 := Lib.hid (T1.out.grow g4)
    have T2 := Lib.hid (T2.out.grow g4)
    have HR0 := Lib.hid (HR0.out.grow g4)
    have HR1 := Lib.hid (HR1.out.grow g4)
    have HR2 := Lib.hid (HR2.out.grow g4)
    have H1 := Lib.hid (H1.out.grow g4)
    have H2 := Lib.hid (H2.out.grow g4)
    replace g0 := g0.trans g4
    clear g4
    have H4 := Lib.hid h4
    clear h4
    have S4 := Lib.hid (show Sz 9 ((x0 * x1)) from sz_mul SR0.out SR1.out)
    repeat (refine wpE_readB (v := ?_) g0 rfl rfl (fun w' hg => ?_) (fun K hK => ?_); rotate_left; (go_simp; rfl); go_simp; refine hK _ _ ?_; clear hK K)
    refine wpE_fn (args := ?_) rfl rfl rfl rfl rfl rfl (by kernel_rfl) (by kernel_rfl) ?_ (fun K hK => ?_)
    rotate_left
    · go_simp; rfl
    refine (q_Mul _ _ _ x1 x0 _ 4 4 HR1.out HR0.out rfl (by decide) (by decide)).mono ?_
    rintro _ w5 ⟨r5, rfl, g5, h5⟩
    refine ⟨_, rfl, g5, ?_⟩
    go_simp
    refine hK _ _ ?_
    clear hK K
    have G := Lib.hid (G.out.trans g5)
    have T0 := Lib.hid (T0.out.grow g5)
    have T1 := Lib.hid (T1.out.grow g5)
    have T2 := Lib.hid (T2.out.grow g5)
    have HR0 := Lib.hid (HR0.out.grow g5)
    have HR1 := Lib.hid (HR1.out.grow g5)
    have HR2 := Lib.hid (HR2.out.grow g5)
    have H1 := Lib.hid (H1.out.grow g5)
    have H2 := Lib.hid (H2.out.grow g5)
    have H4 := Lib.hid (H4.out.grow g5)
    replace g0 := g0.trans g5
    clear g5
    have H5 := Lib.hid h5
    clear h5
    have S5 := Lib.hid (show Sz 9 ((x1 * x0)) from sz_mul SR1.out SR0.out)
    repeat (refine wpE_readB (v := ?_) g0 rfl rfl (fun w' hg => ?_) (fun K hK => ?_); rotate_left; (go_simp; rfl); go_simp; refine hK _ _ ?_; clear hK K)
    refine wpE_fn (args := ?_) rfl rfl rfl rfl rfl rfl (by kernel_rfl) (by kernel_rfl) ?_ (fun K hK => ?_)
    rotate_left
    · go_simp; rfl
    refine (d_SameC _ _ _ (x0 * x1) (x1 * x0) true H4.out H5.out (decide_eq_true (Rat.mul_comm _ _))).mono ?_
    rintro _ w6 ⟨_, rfl, g6, rfl⟩
    refine ⟨_, rfl, g6, ?_⟩
    go_simp
    refine hK _ _ ?_
    clear hK K
    have G := Lib.hid (G.out.trans g6)
    have T0 := Lib.hid (T0.out.grow g6)
    have T1 := Lib.hid (T1.out.grow g6)
    have T2 := Lib.hid (T2.out.grow g6)
    have HR0 := Lib.hid (HR0.out.grow g6)
    have HR1 := Lib.hid (HR1.out.grow g6)
    have HR2 := Lib.hid (HR2.out.grow g6)
    have H1 := Lib.hid (H1.out.grow g6)
    have H2 := Lib.hid (H2.out.grow g6)
    have H4 := Lib.hid (H4.out.grow g6)
    have H5 := Lib.hid (H5.out.grow g6)
    replace g0 := g0.trans g6
    clear g6
    repeat (refine wpE_readB (v := ?_) g0 rfl rfl (fun w' hg => ?_) (fun K hK => ?_); rotate_left; (go_simp; rfl); go_simp; refine hK _ _ ?_; clear hK K)
    refine wpE_fn (args := ?_) rfl rfl rfl rfl rfl rfl (by kernel_rfl) (by kernel_rfl) ?_ (fun K hK => ?_)
    rotate_left
    · go_simp; rfl
    refine (q_Add _ _ _ x0 x1 _ 4 4 HR0.out HR1.out rfl (by decide) (by decide)).mono ?_
    rintro _ w7 ⟨r7, rfl, g7, h7⟩
    refine ⟨_, rfl, g7, ?_⟩
    go_simp
    refine hK _ _ ?_
    clear hK K
    have G := Lib.hid (G.out.trans g7)
    have T0 := Lib.hid (T0.out.grow g7)
    have T1 := Lib.hid (T1.out.grow g7)
    have T2 := Lib.hid (T2.out.grow g7)
    have HR0 := Lib.hid (HR0.out.grow g7)
    have HR1 := Lib.hid (HR1.out.grow g7)
    have HR2 := Lib.hid (HR2.out.grow g7)
    have H1 := Lib.hid (H1.out.grow g7)
    have H2 := Lib.hid (H2.out.grow g7)
    have H4 := Lib.hid (H4.out.grow g7)
    have H5 := Lib.hid (H5.out.grow g7)
    replace g0 := g0.trans g7
    clear g7
    have H7 := Lib.hid h7
    clear h7
    have S7 := Lib.hid (show Sz 9 ((x0 + x1)) from sz_add SR0.out SR1.out)
    repeat (refine wpE_readB (v := ?_) g0 rfl rfl (fun w' hg => ?_) (fun K hK => ?_); rotate_left; (go_simp; rfl); go_simp; refine hK _ _ ?_; clear hK K)
    refine wpE_fn (args := ?_) rfl rfl rfl rfl rfl rfl (by kernel_rfl) (by kernel_rfl) ?_ (fun K hK => ?_)
    rotate_left
    · go_simp; rfl
    refine (q_Add _ _ _ (x0 + x1) x2 _ 9 4 (H7.out.v S7.out) HR2.out rfl (by decide) (by decide)).mono ?_
    rintro _ w8 ⟨r8, rfl, g8, h8⟩
    refine ⟨_, rfl, g8, ?_⟩
    go_simp
    refine hK _ _ ?_
    clear hK K
    have G := Lib.hid (G.out.trans g8)
    have T0 := Lib.hid (T0.out.grow g8)
    have T1 := Lib.hid (T1.out.grow g8)
    have T2 := Lib.hid (T2.out.grow g8)
    have HR0 := Lib.hid (HR0.out.grow g8)
    have HR1 := Lib.hid (HR1.out.grow g8)
    have HR2 := Lib.hid (HR2.out.grow g8)
    have H1 := Lib.hid (H1.out.grow g8)
    have H2 := Lib.hid (H2.out.grow g8)
    have H4 := Lib.hid (H4.out.grow g8)
    have H5 := Lib.hid (H5.out.grow g8)
    have H7 := Lib.hid (H7.out.grow g8)
    replace g0 := g0.trans g8
    clear g8
    have H8 := Lib.hid h8
    clear h8
    have S8 := Lib.hid (show Sz 14 (((x0 + x1) + x2)) from sz_add S7.out SR2.out)
    repeat (refine wpE_readB (v := ?_) g0 rfl rfl (fun w' hg => ?_) (fun K hK => ?_); rotate_left; (go_simp; rfl); go_simp; refine hK _ _ ?_; clear hK K)
    refine wpE_fn (args := ?_) rfl rfl rfl rfl rfl rfl (by kernel_rfl) (by kernel_rfl) ?_ (fun K hK => ?_)
    rotate_left
    · go_simp; rfl
    refine (q_Add _ _ _ x1 x2 _ 4 4 HR1.out HR2.out rfl (by decide) (by decide)).mono ?_
    rintro _ w9 ⟨r9, rfl, g9, h9⟩
    refine ⟨_, rfl, g9, ?_⟩
    go_simp
    refine hK _ _ ?_
    clear hK K
    have G := Lib.hid (G.out.trans g9)
    have T0 := Lib.hid (T0.out.grow g9)
    have T1 := Lib.hid (T1.out.grow g9)
    have T2 := Lib.hid (T2.out.grow g9)
    have HR0 := Lib.hid (HR0.out.grow g9)
    have HR1 := Lib.hid (HR1.out.grow g9)
    have HR2 := Lib.hid (HR2.out.grow g9)
    have H1 := Lib.hid (H1.out.grow g9)
    have H2 := Lib.hid (H2.out.grow g9)
    have H4 := Lib.hid (H4.out.grow g9)
    have H5 := Lib.hid (H5.out.grow g9)
    have H7 := Lib.hid (H7.out.grow g9)
    have H8 := Lib.hid (H8.out.grow g9)
    replace g0 := g0.trans g9
    clear g9
    have H9 := Lib.hid h9
    clear h9
    have S9 := Lib.hid (show Sz 9 ((x1 + x2)) from sz_add SR1.out SR2.out)
    repeat (refine wpE_readB (v := ?_) g0 rfl rfl (fun w' hg => ?_) (fun K hK => ?_); rotate_left; (go_simp; rfl); go_simp; refine hK _ _ ?_; clear hK K)
    refine wpE_fn (args := ?_) rfl rfl rfl rfl rfl rfl (by kernel_rfl) (by kernel_rfl) ?_ (fun K hK => ?_)
    rotate_left
    · go_simp; rfl
    refine (q_Add _ _ _ x0 (x1 + x2) _ 4 9 HR0.out (H9.out.v S9.out) rfl (by decide) (by decide)).mono ?_
    rintro _ w10 ⟨r10, rfl, g10, h10⟩
    refine ⟨_, rfl, g10, ?_⟩
    go_simp
    refine hK _ _ ?_
    clear hK K
    have G := Lib.hid (G.out.trans g10)
    have T0 := Lib.hid (T0.out.grow g10)
    have T1 := Lib.hid (T1.out.grow g10)
    have T2 := Lib.hid (T2.out.grow g10)
    have HR0 := Lib.hid (HR0.out.grow g10)
    have HR1 := Lib.hid (HR1.out.grow g10)
    have HR2 := Lib.hid (HR2.out.grow g10)
    have H1 := Lib.hid (H1.out.grow g10)
    have H2 := Lib.hid (H2.out.grow g10)
    have H4 := Lib.hid (H4.out.grow g10)
    have H5 := Lib.hid (H5.out.grow g10)
    have H7 := Lib.hid (H7.out.grow g10)
    have H8 := Lib.hid (H8.out.grow g10)
    have H9 := Lib.hid (H9.out.grow g10)
    replace g0 := g0.trans g10
    clear g10
    have H10 := Lib.hid h10
    clear h10
    have S10 := Lib.hid (show Sz 14 ((x0 + (x1 + x2))) from sz_add SR0.out S9.out)
    repeat (refine wpE_readB (v := ?_) g0 rfl rfl (fun w' hg => ?_) (fun K hK => ?_); rotate_left; (go_simp; rfl); go_simp; refine hK _ _ ?_; clear hK K)
    refine wpE_fn (args := ?_) rfl rfl rfl rfl rfl rfl (by kernel_rfl) (by kernel_rfl) ?_ (fun K hK => ?_)
    rotate_left
    · go_simp; rfl
    refine (d_SameC _ _ _ ((x0 + x1) + x2) (x0 + (x1 + x2)) true H8.out H10.out (decide_eq_true (Rat.add_assoc _ _ _))).mono ?_
    rintro _ w11 ⟨_, rfl, g11, rfl⟩
    refine ⟨_, rfl, g11, ?_⟩
    go_simp
    refine hK _ _ ?_
    clear hK K
    have G := Lib.hid (G.out.trans g11)
    have T0 := Lib.hid (T0.out.grow g11)
    have T1 := Lib.hid (T1.out.grow g11)
    have T2 := Lib.hid (T2.out.grow g11)
    have HR0 := Lib.hid (HR0.out.grow g11)
    have HR1 := Lib.hid (HR1.out.grow g11)
    have HR2 := Lib.hid (HR2.out.grow g11)
    have H1 := Lib.hid (H1.out.grow g11)
    have H2 := Lib.hid (H2.out.grow g11)
    have H4 := Lib.hid (H4.out.grow g11)
    have H5 := Lib.hid (H5.out.grow g11)
    have H7 := Lib.hid (H7.out.grow g11)
    have H8 := Lib.hid (H8.out.grow g11)
    have H9 := Lib.hid (H9.out.grow g11)
    have H10 := Lib.hid (H10.out.grow g11)
    replace g0 := g0.trans g11
    clear g11
    repeat (refine wpE_readB (v := ?_) g0 rfl rfl (fun w' hg => ?_) (fun K hK => ?_); rotate_left; (go_simp; rfl); go_simp; refine hK _ _ ?_; clear hK K)
    refine wpE_fn (args := ?_) rfl rfl rfl rfl rfl rfl (by kernel_rfl) (by kernel_rfl) ?_ (fun K hK => ?_)
    rotate_left
    · go_simp; rfl
    refine (q_Mul _ _ _ x0 x1 _ 4 4 HR0.out HR1.out rfl (by decide) (by decide)).mono ?_
    rintro _ w12 ⟨r12, rfl, g12, h12⟩
    refine ⟨_, rfl, g12, ?_⟩
    go_simp
    refine hK _ _ ?_
    clear hK K
    have G := Lib.hid (G.out.trans g12)
    have T0 := Lib.hid (T0.out.grow g12)
    have T1 := Lib.hid (T1.out.grow g12)
    have T2 := Lib.hid (T2.out.grow g12)
    have HR0 := Lib.hid (HR0.out.grow g12)
    have HR1 := Lib.hid (HR1.out.grow g12)
    have HR2 := Lib.hid (HR2.out.grow g12)
    have H1 := Lib.hid (H1.out.grow g12)
    have H2 := Lib.hid (H2.out.grow g12)
    have H4 := Lib.hid (H4.out.grow g12)
    have H5 := Lib.hid (H5.out.grow g12)
    have H7 := Lib.hid (H7.out.grow g12)
    have H8 := Lib.hid (H8.out.grow g12)
    have H9 := Lib.hid (H9.out.grow g12)
    have H10 := Lib.hid (H10.out.grow g12)
    replace g0 := g0.trans g12
    clear g12
    have H12 := Lib.hid h12
    clear h12
    have S12 := Lib.hid (show Sz 9 ((x0 * x1)) from sz_mul SR0.out SR1.out)
    repeat (refine wpE_readB (v := ?_) g0 rfl rfl (fun w' hg => ?_) (fun K hK => ?_); rotate_left; (go_simp; rfl); go_simp; refine hK _ _ ?_; clear hK K)
    refine wpE_fn (args := ?_) rfl rfl rfl rfl rfl rfl (by kernel_rfl) (by kernel_rfl) ?_ (fun K hK => ?_)
    rotate_left
    · go_simp; rfl
    refine (q_Mul _ _ _ (x0 * x1) x2 _ 9 4 (H12.out.v S12.out) HR2.out rfl (by decide) (by decide)).mono ?_
    rintro _ w13 ⟨r13, rfl, g13, h13⟩
    refine ⟨_, rfl, g13, ?_⟩
    go_simp
    refine hK _ _ ?_
    clear hK K
    have G := Lib.hid (G.out.trans g13)
    have T0 := Lib.hid (T0.out.grow g13)
    have T1 := Lib.hid (T1.out.grow g13)
    have T2 := Lib.hid (T2.out.grow g13)
    have HR0 := Lib.hid (HR0.out.grow g13)
    have HR1 := Lib.hid (HR1.out.grow g13)
    have HR2 := Lib.hid (HR2.out.grow g13)
    have H1 := Lib.hid (H1.out.grow g13)
    have H2 := Lib.hid (H2.out.grow g13)
    have H4 := Lib.hid (H4.out.grow g13)
    have H5 := Lib.hid (H5.out.grow g13)
    have H7 := Lib.hid (H7.out.grow g13)
    have H8 := Lib.hid (H8.out.grow g13)
    have H9 := Lib.hid (H9.out.grow g13)
    have H10 := Lib.hid (H10.out.grow g13)
    have H12 := Lib.hid (H12.out.grow g13)
    replace g0 := g0.trans g13
    clear g13
    have H13 := Lib.hid h13
    clear h13
    have S13 := Lib.hid (show Sz 14 (((x0 * x1) * x2)) from sz_mul S12.out SR2.out)
    repeat (refine wpE_readB (v := ?_) g0 rfl rfl (fun w' hg => ?_) (fun K hK => ?_); rotate_left; (go_simp; rfl); go_simp; refine hK _ _ ?_; clear hK K)
    refine wpE_fn (args := ?_) rfl rfl rfl rfl rfl rfl (by kernel_rfl) (by kernel_rfl) ?_ (fun K hK => ?_)
    rotate_left
    · go_simp; rfl
    refine (q_Mul _ _ _ x1 x2 _ 4 4 HR1.out HR2.out rfl (by decide) (by decide)).mono ?_
    rintro _ w14 ⟨r14, rfl, g14, h14⟩
    refine ⟨_, rfl, g14, ?_⟩
    go_simp
    refine hK _ _ ?_
    clear hK K
    have G := Lib.hid (G.out.trans g14)
    have T0 := Lib.hid (T0.out.grow g14)
    have T1 := Lib.hid (T1.out.grow g14)
    have T2 := Lib.hid (T2.out.grow g14)
    have HR0 := Lib.hid (HR0.out.grow g14)
    have HR1 := Lib.hid (HR1.out.grow g14)
    have HR2 := Lib.hid (HR2.out.grow g14)
    have H1 := Lib.hid (H1.out.grow g14)
    have H2 := Lib.hid (H2.out.grow g14)
    have H4 := Lib.hid (H4.out.grow g14)
    have H5 := Lib.hid (H5.out.grow g14)
    have H7 := Lib.hid (H7.out.grow g14)
    have H8 := Lib.hid (H8.out.grow g14)
    have H9 := Lib.hid (H9.out.grow g14)
    have H10 := Lib.hid (H10.out.grow g14)
    have H12 := Lib.hid (H12.out.grow g14)
    have H13 := Lib.hid (H13.out.grow g14)
    replace g0 := g0.trans g14
    clear g14
    have H14 := Lib.hid h14
    clear h14
    have S14 := Lib.hid (show Sz 9 ((x1 * x2)) from sz_mul SR1.out SR2.out)
    repeat (refine wpE_readB (v := ?_) g0 rfl rfl (fun w' hg => ?_) (fun K hK => ?_); rotate_left; (go_simp; rfl); go_simp; refine hK _ _ ?_; clear hK K)
    refine wpE_fn (args := ?_) rfl rfl rfl rfl rfl rfl (by kernel_rfl) (by kernel_rfl) ?_ (fun K hK => ?_)
    rotate_left
    · go_simp; rfl
    refine (q_Mul _ _ _ x0 (x1 * x2) _ 4 9 HR0.out (H14.out.v S14.out) rfl (by decide) (by decide)).mono ?_
    rintro _ w15 ⟨r15, rfl, g15, h15⟩
    refine ⟨_, rfl, g15, ?_⟩
    go_simp
    refine hK _ _ ?_
    clear hK K
    have G := Lib.hid (G.out.trans g15)
    have T0 := Lib.hid (T0.out.grow g15)
    have T1 := Lib.hid (T1.out.grow g15)
    have T2 := Lib.hid (T2.out.grow g15)
    have HR0 := Lib.hid (HR0.out.grow g15)
    have HR1 := Lib.hid (HR1.out.grow g15)
    have HR2 := Lib.hid (HR2.out.grow g15)
    have H1 := Lib.hid (H1.out.grow g15)
    have H2 := Lib.hid (H2.out.grow g15)
    have H4 := Lib.hid (H4.out.grow g15)
    have H5 := Lib.hid (H5.out.grow g15)
    have H7 := Lib.hid (H7.out.grow g15)
    have H8 := Lib.hid (H8.out.grow g15)
    have H9 := Lib.hid (H9.out.grow g15)
    have H10 := Lib.hid (H10.out.grow g15)
    have H12 := Lib.hid (H12.out.grow g15)
    have H13 := Lib.hid (H13.out.grow g15)
    have H14 := Lib.hid (H14.out.grow g15)
    replace g0 := g0.trans g15
    clear g15
    have H15 := Lib.hid h15
    clear h15
    have S15 := Lib.hid (show Sz 14 ((x0 * (x1 * x2))) from sz_mul SR0.out S14.out)
    repeat (refine wpE_readB (v := ?_) g0 rfl rfl (fun w' hg => ?_) (fun K hK => ?_); rotate_left; (go_simp; rfl); go_simp; refine hK _ _ ?_; clear hK K)
    refine wpE_fn (args := ?_) rfl rfl rfl rfl rfl rfl (by kernel_rfl) (by kernel_rfl) ?_ (fun K hK => ?_)
    rotate_left
    · go_simp; rfl
    refine (d_SameC _ _ _ ((x0 * x1) * x2) (x0 * (x1 * x2)) true H13.out H15.out (decide_eq_true (Rat.mul_assoc _ _ _))).mono ?_
    rintro _ w16 ⟨_, rfl, g16, rfl⟩
    refine ⟨_, rfl, g16, ?_⟩
    go_simp
    refine hK _ _ ?_
    clear hK K
    have G := Lib.hid (G.out.trans g16)
    have T0 := Lib.hid (T0.out.grow g16)
    have T1 := Lib.hid (T1.out.grow g16)
    have T2 := Lib.hid (T2.out.grow g16)
    have HR0 := Lib.hid (HR0.out.grow g16)
    have HR1 := Lib.hid (HR1.out.grow g16)
    have HR2 := Lib.hid (HR2.out.grow g16)
    have H1 := Lib.hid (H1.out.grow g16)
    have H2 := Lib.hid (H2.out.grow g16)
    have H4 := Lib.hid (H4.out.grow g16)
    have H5 := Lib.hid (H5.out.grow g16)
    have H7 := Lib.hid (H7.out.grow g16)
    have H8 := Lib.hid (H8.out.grow g16)
    have H9 := Lib.hid (H9.out.grow g16)
    have H10 := Lib.hid (H10.out.grow g16)
    have H12 := Lib.hid (H12.out.grow g16)
    have H13 := Lib.hid (H13.out.grow g16)
    have H14 := Lib.hid (H14.out.grow g16)
    have H15 := Lib.hid (H15.out.grow g16)
    replace g0 := g0.trans g16
    clear g16
    repeat (refine wpE_readB (v := ?_) g0 rfl rfl (fun w' hg => ?_) (fun K hK => ?_); rotate_left; (go_simp; rfl); go_simp; refine hK _ _ ?_; clear hK K)
    refine wpE_fn (args := ?_) rfl rfl rfl rfl rfl rfl (by kernel_rfl) (by kernel_rfl) ?_ (fun K hK => ?_)
    rotate_left
    · go_simp; rfl
    refine (q_Add _ _ _ x1 x2 _ 4 4 HR1.out HR2.out rfl (by decide) (by decide)).mono ?_
    rintro _ w17 ⟨r17, rfl, g17, h17⟩
    refine ⟨_, rfl, g17, ?_⟩
    go_simp
    refine hK _ _ ?_
    clear hK K
    have G := Lib.hid (G.out.trans g17)
    have T0 := Lib.hid (T0.out.grow g17)
    have T1 := Lib.hid (T1.out.grow g17)
    have T2 := Lib.hid (T2.out.grow g17)
    have HR0 := Lib.hid (HR0.out.grow g17)
    have HR1 := Lib.hid (HR1.out.grow g17)
    have HR2 := Lib.hid (HR2.out.grow g17)
    have H1 := Lib.hid (H1.out.grow g17)
    have H2 := Lib.hid (H2.out.grow g17)
    have H4 := Lib.hid (H4.out.grow g17)
    have H5 := Lib.hid (H5.out.grow g17)
    have H7 := Lib.hid (H7.out.grow g17)
    have H8 := Lib.hid (H8.out.grow g17)
    have H9 := Lib.hid (H9.out.grow g17)
    have H10 := Lib.hid (H10.out.grow g17)
    have H12 := Lib.hid (H12.out.grow g17)
    have H13 := Lib.hid (H13.out.grow g17)
    have H14 := Lib.hid (H14.out.grow g17)
    have H15 := Lib.hid (H15.out.grow g17)
    replace g0 := g0.trans g17
    clear g17
    have H17 := Lib.hid h17
    clear h17
    have S17 := Lib.hid (show Sz 9 ((x1 + x2)) from sz_add SR1.out SR2.out)
    repeat (refine wpE_readB (v := ?_) g0 rfl rfl (fun w' hg => ?_) (fun K hK => ?_); rotate_left; (go_simp; rfl); go_simp; refine hK _ _ ?_; clear hK K)
    refine wpE_fn (args := ?_) rfl rfl rfl rfl rfl rfl (by kernel_rfl) (by kernel_rfl) ?_ (fun K hK => ?_)
    rotate_left
    · go_simp; rfl
    refine (q_Mul _ _ _ x0 (x1 + x2) _ 4 9 HR0.out (H17.out.v S17.out) rfl (by decide) (by decide)).mono ?_
    rintro _ w18 ⟨r18, rfl, g18, h18⟩
    refine ⟨_, rfl, g18, ?_⟩
    go_simp
    refine hK _ _ ?_
    clear hK K
    have G := Lib.hid (G.out.trans g18)
    have T0 := Lib.hid (T0.out.grow g18)
    have T1 := Lib.hid (T1.out.grow g18)
    have T2 := Lib.hid (T2.out.grow g18)
    have HR0 := Lib.hid (HR0.out.grow g18)
    have HR1 := Lib.hid (HR1.out.grow g18)
    have HR2 := Lib.hid (HR2.out.grow g18)
    have H1 := Lib.hid (H1.out.grow g18)
    have H2 := Lib.hid (H2.out.grow g18)
    have H4 := Lib.hid (H4.out.grow g18)
    have H5 := Lib.hid (H5.out.grow g18)
    have H7 := Lib.hid (H7.out.grow g18)
    have H8 := Lib.hid (H8.out.grow g18)
    have H9 := Lib.hid (H9.out.grow g18)
    have H10 := Lib.hid (H10.out.grow g18)
    have H12 := Lib.hid (H12.out.grow g18)
    have H13 := Lib.hid (H13.out.grow g18)
    have H14 := Lib.hid (H14.out.grow g18)
    have H15 := Lib.hid (H15.out.grow g18)
    have H17 := Lib.hid (H17.out.grow g18)
    replace g0 := g0.trans g18
    clear g18
    have H18 := Lib.hid h18
    clear h18
    have S18 := Lib.hid (show Sz 14 ((x0 * (x1 + x2))) from sz_mul SR0.out S17.out)
    repeat (refine wpE_readB (v := ?_) g0 rfl rfl (fun w' hg => ?_) (fun K hK => ?_); rotate_left; (go_simp; rfl); go_simp; refine hK _ _ ?_; clear hK K)
    refine wpE_fn (args := ?_) rfl rfl rfl rfl rfl rfl (by kernel_rfl) (by kernel_rfl) ?_ (fun K hK => ?_)
    rotate_left
    · go_simp; rfl
    refine (q_Mul _ _ _ x0 x1 _ 4 4 HR0.out HR1.out rfl (by decide) (by decide)).mono ?_
    rintro _ w19 ⟨r19, rfl, g19, h19⟩
    refine ⟨_, rfl, g19, ?_⟩
    go_simp
    refine hK _ _ ?_
    clear hK K
    have G := Lib.hid (G.out.trans g19)
    have T0 := Lib.hid (T0.out.grow g19)
    have T1 := Lib.hid (T1.out.grow g19)
    have T2 := Lib.hid (T2.out.grow g19)
    have HR0 := Lib.hid (HR0.out.grow g19)
    have HR1 := Lib.hid (HR1.out.grow g19)
    have HR2 := Lib.hid (HR2.out.grow g19)
    have H1 := Lib.hid (H1.out.grow g19)
    have H2 := Lib.hid (H2.out.grow g19)
    have H4 := Lib.hid (H4.out.grow g19)
    have H5 := Lib.hid (H5.out.grow g19)
    have H7 := Lib.hid (H7.out.grow g19)
    have H8 := Lib.hid (H8.out.grow g19)
    have H9 := Lib.hid (H9.out.grow g19)
    have H10 := Lib.hid (H10.out.grow g19)
    have H12 := Lib.hid (H12.out.grow g19)
    have H13 := Lib.hid (H13.out.grow g19)
    have H14 := Lib.hid (H14.out.grow g19)
    have H15 := Lib.hid (H15.out.grow g19)
    have H17 := Lib.hid (H17.out.grow g19)
    have H18 := Lib.hid (H18.out.grow g19)
    replace g0 := g0.trans g19
    clear g19
    have H19 := Lib.hid h19
    clear h19
    have S19 := Lib.hid (show Sz 9 ((x0 * x1)) from sz_mul SR0.out SR1.out)
    repeat (refine wpE_readB (v := ?_) g0 rfl rfl (fun w' hg => ?_) (fun K hK => ?_); rotate_left; (go_simp; rfl); go_simp; refine hK _ _ ?_; clear hK K)
    refine wpE_fn (args := ?_) rfl rfl rfl rfl rfl rfl (by kernel_rfl) (by kernel_rfl) ?_ (fun K hK => ?_)
    rotate_left
    · go_simp; rfl
    refine (q_Mul _ _ _ x0 x2 _ 4 4 HR0.out HR2.out rfl (by decide) (by decide)).mono ?_
    rintro _ w20 ⟨r20, rfl, g20, h20⟩
    refine ⟨_, rfl, g20, ?_⟩
    go_simp
    refine hK _ _ ?_
    clear hK K
    have G := Lib.hid (G.out.trans g20)
    have T0 := Lib.hid (T0.out.grow g20)
    have T1 := Lib.hid (T1.out.grow g20)
    have T2 := Lib.hid (T2.out.grow g20)
    have HR0 := Lib.hid (HR0.out.grow g20)
    have HR1 := Lib.hid (HR1.out.grow g20)
    have HR2 := Lib.hid (HR2.out.grow g20)
    have H1 := Lib.hid (H1.out.grow g20)
    have H2 := Lib.hid (H2.out.grow g20)
    have H4 := Lib.hid (H4.out.grow g20)
    have H5 := Lib.hid (H5.out.grow g20)
    have H7 := Lib.hid (H7.out.grow g20)
    have H8 := Lib.hid (H8.out.grow g20)
    have H9 := Lib.hid (H9.out.grow g20)
    have H10 := Lib.hid (H10.out.grow g20)
    have H12 := Lib.hid (H12.out.grow g20)
    have H13 := Lib.hid (H13.out.grow g20)
    have H14 := Lib.hid (H14.out.grow g20)
    have H15 := Lib.hid (H15.out.grow g20)
    have H17 := Lib.hid (H17.out.grow g20)
    have H18 := Lib.hid (H18.out.grow g20)
    have H19 := Lib.hid (H19.out.grow g20)
    replace g0 := g0.trans g20
    clear g20
    have H20 := Lib.hid h20
    clear h20
    have S20 := Lib.hid (show Sz 9 ((x0 * x2)) from sz_mul SR0.out SR2.out)
    repeat (refine wpE_readB (v := ?_) g0 rfl rfl (fun w' hg => ?_) (fun K hK => ?_); rotate_left; (go_simp; rfl); go_simp; refine hK _ _ ?_; clear hK K)
    refine wpE_fn (args := ?_) rfl rfl rfl rfl rfl rfl (by kernel_rfl) (by kernel_rfl) ?_ (fun K hK => ?_)
    rotate_left
    · go_simp; rfl
    refine (q_Add _ _ _ (x0 * x1) (x0 * x2) _ 9 9 (H19.out.v S19.out) (H20.out.v S20.out) rfl (by decide) (by decide)).mono ?_
    rintro _ w21 ⟨r21, rfl, g21, h21⟩
    refine ⟨_, rfl, g21, ?_⟩
    go_simp
    refine hK _ _ ?_
    clear hK K
    have G := Lib.hid (G.out.trans g21)
    have T0 := Lib.hid (T0.out.grow g21)
    have T1 := Lib.hid (T1.out.grow g21)
    have T2 := Lib.hid (T2.out.grow g21)
    have HR0 := Lib.hid (HR0.out.grow g21)
    have HR1 := Lib.hid (HR1.out.grow g21)
    have HR2 := Lib.hid (HR2.out.grow g21)
    have H1 := Lib.hid (H1.out.grow g21)
    have H2 := Lib.hid (H2.out.grow g21)
    have H4 := Lib.hid (H4.out.grow g21)
    have H5 := Lib.hid (H5.out.grow g21)
    have H7 := Lib.hid (H7.out.grow g21)
    have H8 := Lib.hid (H8.out.grow g21)
    have H9 := Lib.hid (H9.out.grow g21)
    have H10 := Lib.hid (H10.out.grow g21)
    have H12 := Lib.hid (H12.out.grow g21)
    have H13 := Lib.hid (H13.out.grow g21)
    have H14 := Lib.hid (H14.out.grow g21)
    have H15 := Lib.hid (H15.out.grow g21)
    have H17 := Lib.hid (H17.out.grow g21)
    have H18 := Lib.hid (H18.out.grow g21)
    have H19 := Lib.hid (H19.out.grow g21)
    have H20 := Lib.hid (H20.out.grow g21)
    replace g0 := g0.trans g21
    clear g21
    have H21 := Lib.hid h21
    clear h21
    have S21 := Lib.hid (show Sz 19 (((x0 * x1) + (x0 * x2))) from sz_add S19.out S20.out)
    repeat (refine wpE_readB (v := ?_) g0 rfl rfl (fun w' hg => ?_) (fun K hK => ?_); rotate_left; (go_simp; rfl); go_simp; refine hK _ _ ?_; clear hK K)
    refine wpE_fn (args := ?_) rfl rfl rfl rfl rfl rfl (by kernel_rfl) (by kernel_rfl) ?_ (fun K hK => ?_)
    rotate_left
    · go_simp; rfl
    refine (d_SameC _ _ _ (x0 * (x1 + x2)) ((x0 * x1) + (x0 * x2)) true H18.out H21.out (decide_eq_true (Rat.mul_add _ _ _))).mono ?_
    rintro _ w22 ⟨_, rfl, g22, rfl⟩
    refine ⟨_, rfl, g22, ?_⟩
    go_simp
    refine hK _ _ ?_
    clear hK K
    have G := Lib.hid (G.out.trans g22)
    have T0 := Lib.hid (T0.out.grow g22)
    have T1 := Lib.hid (T1.out.grow g22)
    have T2 := Lib.hid (T2.out.grow g22)
    have HR0 := Lib.hid (HR0.out.grow g22)
    have HR1 := Lib.hid (HR1.out.grow g22)
    have HR2 := Lib.hid (HR2.out.grow g22)
    have H1 := Lib.hid (H1.out.grow g22)
    have H2 := Lib.hid (H2.out.grow g22)
    have H4 := Lib.hid (H4.out.grow g22)
    have H5 := Lib.hid (H5.out.grow g22)
    have H7 := Lib.hid (H7.out.grow g22)
    have H8 := Lib.hid (H8.out.grow g22)
    have H9 := Lib.hid (H9.out.grow g22)
    have H10 := Lib.hid (H10.out.grow g22)
    have H12 := Lib.hid (H12.out.grow g22)
    have H13 := Lib.hid (H13.out.grow g22)
    have H14 := Lib.hid (H14.out.grow g22)
    have H15 := Lib.hid (H15.out.grow g22)
    have H17 := Lib.hid (H17.out.grow g22)
    have H18 := Lib.hid (H18.out.grow g22)
    have H19 := Lib.hid (H19.out.grow g22)
    have H20 := Lib.hid (H20.out.grow g22)
    have H21 := Lib.hid (H21.out.grow g22)
    replace g0 := g0.trans g22
    clear g22
    repeat (refine wpE_readB (v := ?_) g0 rfl rfl (fun w' hg => ?_) (fun K hK => ?_); rotate_left; (go_simp; rfl); go_simp; refine hK _ _ ?_; clear hK K)
    refine wpE_nil ?_
    clear g0
    clear T0_0 T0_1 T0_2 T1_0 T1_1 T1_2 T2_0 T2_1 T2_2
    have HZ0 := Lib.hid (show RatV w22 (.agg #[.bool false, .slice none 0 0, .slice none 0 0]) 0 1 from (ratZero _).v (by unfold Sz; decide +kernel))
    have T0_0 := T0.out.load.1
    have T0_1 := T0.out.load.2.1
    have T0_2 := T0.out.load.2.2
    have T1_0 := T1.out.load.1
    have T1_1 := T1.out.load.2.1
    have T1_2 := T1.out.load.2.2
    have T2_0 := T2.out.load.1
    have T2_1 := T2.out.load.2.1
    have T2_2 := T2.out.load.2.2
    go_wp2_with fail
    refine (q_Add _ _ _ x0 0 x0 4 1 HR0.out HZ0.out (Rat.add_zero _) (by decide) (by decide)).mono ?_
    rintro _ w50 ⟨r50, rfl, g50, h50⟩
    clear T0_0 T0_1 T0_2 T1_0 T1_1 T1_2 T2_0 T2_1 T2_2
    have G := Lib.hid (G.out.trans g50)
    have T0 := Lib.hid (T0.out.grow g50)
    have T1 := Lib.hid (T1.out.grow g50)
    have T2 := Lib.hid (T2.out.grow g50)
    have HR0 := Lib.hid (HR0.out.grow g50)
    have HR1 := Lib.hid (HR1.out.grow g50)
    have HR2 := Lib.hid (HR2.out.grow g50)
    have HZ0 := Lib.hid (HZ0.out.grow g50)
    clear g50
    have H50 := Lib.hid h50
    clear h50
    have S50 := SR0
    obtain ⟨sp, pp, kp, cp, ep, mp, np, rfl⟩ := H50.out.agg
    have B := box3 w50 (.bool sp) (.slice pp kp cp) (.slice ep mp np) 27
    have GB := Lib.hid B.1
    have T0_0 := (T0.out.grow B.1).load.1
    have T0_1 := (T0.out.grow B.1).load.2.1
    have T0_2 := (T0.out.grow B.1).load.2.2
    have T1_0 := (T1.out.grow B.1).load.1
    have T1_1 := (T1.out.grow B.1).load.2.1
    have T1_2 := (T1.out.grow B.1).load.2.2
    have T2_0 := (T2.out.grow B.1).load.1
    have T2_1 := (T2.out.grow B.1).load.2.1
    have T2_2 := (T2.out.grow B.1).load.2.2
    have T8 := Lib.hid B.2
    have T8_0 := B.2.load.1
    have T8_1 := B.2.load.2.1
    have T8_2 := B.2.load.2.2
    clear B
    go_wp2_with fail
    clear T0_0 T0_1 T0_2 T1_0 T1_1 T1_2 T2_0 T2_1 T2_2 T8_0 T8_1 T8_2
    generalize w50.heap.size = b_T8 at T8 ⊢
    generalize w50.alloc _ = W4 at GB T8 ⊢
    have G := Lib.hid (G.out.trans GB.out)
    have T0 := Lib.hid (T0.out.grow GB.out)
    have T1 := Lib.hid (T1.out.grow GB.out)
    have T2 := Lib.hid (T2.out.grow GB.out)
    have HR0 := Lib.hid (HR0.out.grow GB.out)
    have HR1 := Lib.hid (HR1.out.grow GB.out)
    have HR2 := Lib.hid (HR2.out.grow GB.out)
    have HZ0 := Lib.hid (HZ0.out.grow GB.out)
    have H50 := Lib.hid (H50.out.grow GB.out)
    refine wp_region_fast [(0, true), (1, true), (2, true), (4, true), (6, true), (3, false), (5, false), (7, false), (8, true), (9, true), (10, true), (11, true), (12, false), (13, false), (14, false), (15, true), (16, true)] (by kernel_rfl) (by kernel_rfl) rfl (by kernel_rfl) (fun _ _ d _ _ h => by cases d <;> exact h) ?_
    have T0_0 := T0.out.c0
    have T0_1 := T0.out.c1
    have T0_2 := T0.out.c2
    have T1_0 := T1.out.c0
    have T1_1 := T1.out.c1
    have T1_2 := T1.out.c2
    have T2_0 := T2.out.c0
    have T2_1 := T2.out.c1
    have T2_2 := T2.out.c2
    have T8_0 := T8.out.c0
    have T8_1 := T8.out.c1
    have T8_2 := T8.out.c2
    have g0 : Gr W4 W4.drew := (Gr.refl _).drew
    have G := Lib.hid (G.out.trans g0)
    have T0 := Lib.hid (T0.out.grow g0)
    have T1 := Lib.hid (T1.out.grow g0)
    have T2 := Lib.hid (T2.out.grow g0)
    have T8 := Lib.hid (T8.out.grow g0)
    have HR0 := Lib.hid (HR0.out.grow g0)
    have HR1 := Lib.hid (HR1.out.grow g0)
    have HR2 := Lib.hid (HR2.out.grow g0)
    have HZ0 := Lib.hid (HZ0.out.grow g0)
    have H50 := Lib.hid (H50.out.grow g0)
    repeat (refine wpE_readB (v := ?_) g0 rfl rfl (fun w' hg => ?_) (fun K hK => ?_); rotate_left; (go_simp; rfl); go_simp; refine hK _ _ ?_; clear hK K)
    refine wpE_fn (args := ?_) rfl rfl rfl rfl rfl rfl (by kernel_rfl) (by kernel_rfl) ?_ (fun K hK => ?_)
    rotate_left
    · go_simp; rfl
    refine (q_Add _ _ _ x0 x1 _ 4 4 HR0.out HR1.out rfl (by decide) (by decide)).mono ?_
    rintro _ w51 ⟨r51, rfl, g51, h51⟩
    refine ⟨_, rfl, g51, ?_⟩
    go_simp
    refine hK _ _ ?_
    clear hK K
    have G := Lib.hid (G.out.trans g51)
    have T0 := Lib.hid (T0.out.grow g51)
    have T1 := Lib.hid (T1.out.grow g51)
    have T2 := Lib.hid (T2.out.grow g51)
    have T8 := Lib.hid (T8.out.grow g51)
    have HR0 := Lib.hid (HR0.out.grow g51)
    have HR1 := Lib.hid (HR1.out.grow g51)
    have HR2 := Lib.hid (HR2.out.grow g51)
    have HZ0 := Lib.hid (HZ0.out.grow g51)
    have H50 := Lib.hid (H50.out.grow g51)
    replace g0 := g0.trans g51
    clear g51
    have H51 := Lib.hid h51
    clear h51
    have S51 := Lib.hid (show Sz 9 ((x0 + x1)) from sz_add SR0.out SR1.out)
    repeat (refine wpE_readB (v := ?_) g0 rfl rfl (fun w' hg => ?_) (fun K hK => ?_); rotate_left; (go_simp; rfl); go_simp; refine hK _ _ ?_; clear hK K)
    have SN52 := Lib.hid (sz_neg SR1.out)
    refine wpE_fn (args := ?_) rfl rfl rfl rfl rfl rfl (by kernel_rfl) (by kernel_rfl) ?_ (fun K hK => ?_)
    rotate_left
    · go_simp; rfl
    refine (q_Sub _ _ _ (x0 + x1) x1 _ 9 4 (H51.out.v S51.out) HR1.out SN52.out rfl (by decide) (by decide)).mono ?_
    rintro _ w52 ⟨r52, rfl, g52, h52⟩
    refine ⟨_, rfl, g52, ?_⟩
    go_simp
    refine hK _ _ ?_
    clear hK K
    have G := Lib.hid (G.out.trans g52)
    have T0 := Lib.hid (T0.out.grow g52)
    have T1 := Lib.hid (T1.out.grow g52)
    have T2 := Lib.hid (T2.out.grow g52)
    have T8 := Lib.hid (T8.out.grow g52)
    have HR0 := Lib.hid (HR0.out.grow g52)
    have HR1 := Lib.hid (HR1.out.grow g52)
    have HR2 := Lib.hid (HR2.out.grow g52)
    have HZ0 := Lib.hid (HZ0.out.grow g52)
    have H50 := Lib.hid (H50.out.grow g52)
    have H51 := Lib.hid (H51.out.grow g52)
    replace g0 := g0.trans g52
    clear g52
    have H52 := Lib.hid h52
    clear h52
    have S52 := Lib.hid (show Sz 14 (((x0 + x1) - x1)) from sz_sub S51.out SR1.out)
    repeat (refine wpE_readB (v := ?_) g0 rfl rfl (fun w' hg => ?_) (fun K hK => ?_); rotate_left; (go_simp; rfl); go_simp; refine hK _ _ ?_; clear hK K)
    refine wpE_fn (args := ?_) rfl rfl rfl rfl rfl rfl (by kernel_rfl) (by kernel_rfl) ?_ (fun K hK => ?_)
    rotate_left
    · go_simp; rfl
    refine (d_SameC _ _ _ ((x0 + x1) - x1) x0 true H52.out H50.out (decide_eq_true (by grind))).mono ?_
    rintro _ w53 ⟨_, rfl, g53, rfl⟩
    refine ⟨_, rfl, g53, ?_⟩
    go_simp
    refine hK _ _ ?_
    clear hK K
    have G := Lib.hid (G.out.trans g53)
    have T0 := Lib.hid (T0.out.grow g53)
    have T1 := Lib.hid (T1.out.grow g53)
    have T2 := Lib.hid (T2.out.grow g53)
    have T8 := Lib.hid (T8.out.grow g53)
    have HR0 := Lib.hid (HR0.out.grow g53)
    have HR1 := Lib.hid (HR1.out.grow g53)
    have HR2 := Lib.hid (HR2.out.grow g53)
    have HZ0 := Lib.hid (HZ0.out.grow g53)
    have H50 := Lib.hid (H50.out.grow g53)
    have H51 := Lib.hid (H51.out.grow g53)
    have H52 := Lib.hid (H52.out.grow g53)
    replace g0 := g0.trans g53
    clear g53
    repeat (refine wpE_readB (v := ?_) g0 rfl rfl (fun w' hg => ?_) (fun K hK => ?_); rotate_left; (go_simp; rfl); go_simp; refine hK _ _ ?_; clear hK K)
    refine wpE_fn (args := ?_) rfl rfl rfl rfl rfl rfl (by kernel_rfl) (by kernel_rfl) ?_ (fun K hK => ?_)
    rotate_left
    · go_simp; rfl
    refine (q_Neg _ _ x0 _ 4 HR0.out rfl (by decide)).mono ?_
    rintro _ w54 ⟨r54, rfl, g54, h54⟩
    refine ⟨_, rfl, g54, ?_⟩
    go_simp
    refine hK _ _ ?_
    clear hK K
    have G := Lib.hid (G.out.trans g54)
    have T0 := Lib.hid (T0.out.grow g54)
    have T1 := Lib.hid (T1.out.grow g54)
    have T2 := Lib.hid (T2.out.grow g54)
    have T8 := Lib.hid (T8.out.grow g54)
    have HR0 := Lib.hid (HR0.out.grow g54)
    have HR1 := Lib.hid (HR1.out.grow g54)
    have HR2 := Lib.hid (HR2.out.grow g54)
    have HZ0 := Lib.hid (HZ0.out.grow g54)
    have H50 := Lib.hid (H50.out.grow g54)
    have H51 := Lib.hid (H51.out.grow g54)
    have H52 := Lib.hid (H52.out.grow g54)
    replace g0 := g0.trans g54
    clear g54
    have H54 := Lib.hid h54
    clear h54
    have S54 := Lib.hid (show Sz 4 ((- x0)) from sz_neg SR0.out)
    repeat (refine wpE_readB (v := ?_) g0 rfl rfl (fun w' hg => ?_) (fun K hK => ?_); rotate_left; (go_simp; rfl); go_simp; refine hK _ _ ?_; clear hK K)
    refine wpE_fn (args := ?_) rfl rfl rfl rfl rfl rfl (by kernel_rfl) (by kernel_rfl) ?_ (fun K hK => ?_)
    rotate_left
    · go_simp; rfl
    refine (q_Add _ _ _ x0 (- x0) _ 4 4 HR0.out (H54.out.v S54.out) rfl (by decide) (by decide)).mono ?_
    rintro _ w55 ⟨r55, rfl, g55, h55⟩
    refine ⟨_, rfl, g55, ?_⟩
    go_simp
    refine hK _ _ ?_
    clear hK K
    have G := Lib.hid (G.out.trans g55)
    have T0 := Lib.hid (T0.out.grow g55)
    have T1 := Lib.hid (T1.out.grow g55)
    have T2 := Lib.hid (T2.out.grow g55)
    have T8 := Lib.hid (T8.out.grow g55)
    have HR0 := Lib.hid (HR0.out.grow g55)
    have HR1 := Lib.hid (HR1.out.grow g55)
    have HR2 := Lib.hid (HR2.out.grow g55)
    have HZ0 := Lib.hid (HZ0.out.grow g55)
    have H50 := Lib.hid (H50.out.grow g55)
    have H51 := Lib.hid (H51.out.grow g55)
    have H52 := Lib.hid (H52.out.grow g55)
    have H54 := Lib.hid (H54.out.grow g55)
    replace g0 := g0.trans g55
    clear g55
    have H55 := Lib.hid h55
    clear h55
    have S55 := Lib.hid (show Sz 9 ((x0 + (- x0))) from sz_add SR0.out S54.out)
    repeat (refine wpE_readB (v := ?_) g0 rfl rfl (fun w' hg => ?_) (fun K hK => ?_); rotate_left; (go_simp; rfl); go_simp; refine hK _ _ ?_; clear hK K)
    refine wpE_fn (args := ?_) rfl rfl rfl rfl rfl rfl (by kernel_rfl) (by kernel_rfl) ?_ (fun K hK => ?_)
    rotate_left
    · go_simp; rfl
    refine (q_Sign _ _ (x0 + (- x0)) (0) 9 (H55.out.v S55.out) (by rw [show x0 + -x0 = 0 by grind]; rfl) (by decide)).mono ?_
    rintro _ w56 ⟨_, rfl, g56, rfl⟩
    refine ⟨_, rfl, g56, ?_⟩
    go_simp
    refine hK _ _ ?_
    clear hK K
    have G := Lib.hid (G.out.trans g56)
    have T0 := Lib.hid (T0.out.grow g56)
    have T1 := Lib.hid (T1.out.grow g56)
    have T2 := Lib.hid (T2.out.grow g56)
    have T8 := Lib.hid (T8.out.grow g56)
    have HR0 := Lib.hid (HR0.out.grow g56)
    have HR1 := Lib.hid (HR1.out.grow g56)
    have HR2 := Lib.hid (HR2.out.grow g56)
    have HZ0 := Lib.hid (HZ0.out.grow g56)
    have H50 := Lib.hid (H50.out.grow g56)
    have H51 := Lib.hid (H51.out.grow g56)
    have H52 := Lib.hid (H52.out.grow g56)
    have H54 := Lib.hid (H54.out.grow g56)
    have H55 := Lib.hid (H55.out.grow g56)
    replace g0 := g0.trans g56
    clear g56
    repeat (refine wpE_readB (v := ?_) g0 rfl rfl (fun w' hg => ?_) (fun K hK => ?_); rotate_left; (go_simp; rfl); go_simp; refine hK _ _ ?_; clear hK K)
    refine wpE_nil ?_
    clear g0
    clear T0_0 T0_1 T0_2 T1_0 T1_1 T1_2 T2_0 T2_1 T2_2 T8_0 T8_1 T8_2
    go_wp2_with fail
    have g0 : Gr w56 w56.drew := (Gr.refl _).drew
    have T0_0 := T0.out.c0
    have T0_1 := T0.out.c1
    have T0_2 := T0.out.c2
    have T1_0 := T1.out.c0
    have T1_1 := T1.out.c1
    have T1_2 := T1.out.c2
    have T2_0 := T2.out.c0
    have T2_1 := T2.out.c1
    have T2_2 := T2.out.c2
    have T8_0 := T8.out.c0
    have T8_1 := T8.out.c1
    have T8_2 := T8.out.c2
    refine wp_region_late zcR 60 [ (0, 1), (1, 1), (3, 1), (2, 0), (4, 0), (5, 1), (6, 1), (7, 1), (8, 2), (9, 0), (10, 1)] (by kernel_rfl) (by kernel_rfl) rfl (by kernel_rfl) (fun _ _ d _ _ h => by cases d <;> exact h) (fun _ _ d _ _ h => by cases d <;> exact h) (by intro i hi; simp at hi; subst hi; exact ⟨_, _, rfl, rfl, rfl, allocR⟩) ?_
    repeat (refine wpF_readB (v := ?_) g0 rfl rfl (fun w' hg => ?_) (fun K hK => ?_); rotate_left; (go_simp; rfl); go_simp; refine hK _ _ ?_; clear hK K)
    refine wpF_do rfl rfl (fun K hK v1 g1 => ?_)
    go_simp
    refine (q_Mul _ _ _ x0 x1 (x0 * x1) 4 4 (HR0.out.grow (g0.trans g1)) (HR1.out.grow (g0.trans g1)) rfl (by decide) (by decide)).mono ?_
    rintro _ v2 ⟨r2, rfl, g2, h2⟩
    refine ⟨fun _ => g2, hK _ _ ?_⟩
    clear hK K
    have HP := Lib.hid h2
    have SP := Lib.hid (sz_mul SR0.out SR1.out)
    have g2 := (g0.trans g1).trans g2
    clear g1 h2
    refine wpF_do rfl rfl (fun K hK v5 g5 => ?_)
    go_simp
    by_cases hb0 : x1 = 0
    · refine (q_DivNo _ _ _ (x0 * x1) 9 4 ((HP.out.v SP.out).grow g5) (by have := HR1.out.grow (g2.trans g5); rw [hb0] at this; exact this) (by decide)).mono ?_
      rintro _ v6 ⟨_, rfl, g6, rfl⟩
      refine ⟨fun _ => g6, hK _ _ ?_⟩
      clear hK K
      have g7 := g2.trans (g5.trans g6)
      clear g2 g5 g6
      repeat (refine wpF_readB (v := ?_) g7 rfl rfl (fun w' hg => ?_) (fun K hK => ?_); rotate_left; (go_simp; rfl); go_simp; refine hK _ _ ?_; clear hK K)
      have HQ := Lib.hid (ratZero v6)
      refine wpF_new rfl rfl (fun K w8 b12 g8 f2 n2 hK => hK _ _ ?_)
      clear hK K
      have T2' := f2.three
      clear f2
      refine wpF_do rfl rfl (fun K hK w10 g10 => ?_)
      have e2 := T2'.grow g10
      have d0 := e2.c0 w10 (Gr.refl _)
      have d1 := e2.c1 w10 (Gr.refl _)
      have d2 := e2.c2 w10 (Gr.refl _)
      have d3 := e2.f0 0
      have d4 := e2.f0 1
      have d5 := e2.f0 2
      go_simp
      refine ⟨fun h => Bool.noConfusion h, hK _ _ ?_⟩
      clear hK K
      have h13 := (g7.trans (g8.trans g10)).three n2 (.bool false) (.slice none 0 0) (.slice none 0 0)
      have U2 := e2.set (.bool false) (.slice none 0 0) (.slice none 0 0)
      have HQ := Lib.hid ((HQ.out.grow (g8.trans g10)).keepR e2 (.bool false) (.slice none 0 0) (.slice none 0 0))
      clear d0 d1 d2 d3 d4 d5 e2 T2'
      generalize ((w10.setCell _ _).setCell _ _).setCell _ _ = W6 at h13 U2 HQ ⊢
      repeat (refine wpF_readB (v := ?_) h13 rfl rfl (fun w' hg => ?_) (fun K hK => ?_); rotate_left; (go_simp; rfl); go_simp; refine hK _ _ ?_; clear hK K)
      refine wpF_nil ?_
      have T9 := Lib.hid U2
      clear n2 g7 g8 g10 g0 U2
      clear T0_0 T0_1 T0_2 T1_0 T1_1 T1_2 T2_0 T2_1 T2_2 T8_0 T8_1 T8_2
      have G := Lib.hid (G.out.trans h13)
      have T0 := Lib.hid (T0.out.grow h13)
      have T1 := Lib.hid (T1.out.grow h13)
      have T2 := Lib.hid (T2.out.grow h13)
      have T8 := Lib.hid (T8.out.grow h13)
      have HR1 := Lib.hid (HR1.out.grow h13)
      clear h13
      have T0_0 := T0.out.load.1
      have T0_1 := T0.out.load.2.1
      have T0_2 := T0.out.load.2.2
      have T1_0 := T1.out.load.1
      have T1_1 := T1.out.load.2.1
      have T1_2 := T1.out.load.2.2
      have T2_0 := T2.out.load.1
      have T2_1 := T2.out.load.2.1
      have T2_2 := T2.out.load.2.2
      have T8_0 := T8.out.load.1
      have T8_1 := T8.out.load.2.1
      have T8_2 := T8.out.load.2.2
      have T9_0 := T9.out.load.1
      have T9_1 := T9.out.load.2.1
      have T9_2 := T9.out.load.2.2
      go_wp2_with fail
      refine (q_Sign _ _ x1 0 4 HR1.out (by rw [hb0]; rfl) (by decide)).mono ?_
      rintro _ w71 ⟨_, rfl, g71, rfl⟩
      clear T0_0 T0_1 T0_2 T1_0 T1_1 T1_2 T2_0 T2_1 T2_2 T8_0 T8_1 T8_2 T9_0 T9_1 T9_2
      have G := Lib.hid (G.out.trans g71)
      have T0 := Lib.hid (T0.out.grow g71)
      have T1 := Lib.hid (T1.out.grow g71)
      have T2 := Lib.hid (T2.out.grow g71)
      have T8 := Lib.hid (T8.out.grow g71)
      have T9 := Lib.hid (T9.out.grow g71)
      have HR1 := Lib.hid (HR1.out.grow g71)
      clear g71
      go_wp2_with fail
      go_ret
      exact ⟨_, rfl, G.out, rfl⟩
    · refine (q_DivOk _ _ _ (x0 * x1) x1 x0 9 4 ((HP.out.v SP.out).grow g5) (HR1.out.grow (g2.trans g5)) (by grind) hb0 (by decide) (by decide)).mono ?_
      rintro _ v6 ⟨_, rfl, g6, u, rfl, hu⟩
      refine ⟨fun _ => g6, hK _ _ ?_⟩
      clear hK K
      have g7 := g2.trans (g5.trans g6)
      clear g2 g5 g6
      have HQ := Lib.hid hu
      obtain ⟨sq, pq, kq, cq, eq, mq, nq, rfl⟩ := hu.agg
      clear hu
      repeat (refine wpF_readB (v := ?_) g7 rfl rfl (fun w' hg => ?_) (fun K hK => ?_); rotate_left; (go_simp; rfl); go_simp; refine hK _ _ ?_; clear hK K)
      refine wpF_new rfl rfl (fun K w8 b12 g8 f2 n2 hK => hK _ _ ?_)
      clear hK K
      have T2' := f2.three
      clear f2
      refine wpF_do rfl rfl (fun K hK w10 g10 => ?_)
      have e2 := T2'.grow g10
      have d0 := e2.c0 w10 (Gr.refl _)
      have d1 := e2.c1 w10 (Gr.refl _)
      have d2 := e2.c2 w10 (Gr.refl _)
      have d3 := e2.f0 0
      have d4 := e2.f0 1
      have d5 := e2.f0 2
      go_simp
      refine ⟨fun h => Bool.noConfusion h, hK _ _ ?_⟩
      clear hK K
      have h13 := (g7.trans (g8.trans g10)).three n2 (.bool sq) (.slice pq kq cq) (.slice eq mq nq)
      have U2 := e2.set (.bool sq) (.slice pq kq cq) (.slice eq mq nq)
      have HQ := Lib.hid ((HQ.out.grow (g8.trans g10)).keepR e2 (.bool sq) (.slice pq kq cq) (.slice eq mq nq))
      clear d0 d1 d2 d3 d4 d5 e2 T2'
      generalize ((w10.setCell _ _).setCell _ _).setCell _ _ = W6 at h13 U2 HQ ⊢
      repeat (refine wpF_readB (v := ?_) h13 rfl rfl (fun w' hg => ?_) (fun K hK => ?_); rotate_left; (go_simp; rfl); go_simp; refine hK _ _ ?_; clear hK K)
      refine wpF_nil ?_
      have T9 := Lib.hid U2
      clear n2 g7 g8 g10 g0 U2
      clear T0_0 T0_1 T0_2 T1_0 T1_1 T1_2 T2_0 T2_1 T2_2 T8_0 T8_1 T8_2
      have G := Lib.hid (G.out.trans h13)
      have T0 := Lib.hid (T0.out.grow h13)
      have T1 := Lib.hid (T1.out.grow h13)
      have T2 := Lib.hid (T2.out.grow h13)
      have T8 := Lib.hid (T8.out.grow h13)
      have HR1 := Lib.hid (HR1.out.grow h13)
      have H50 := Lib.hid (H50.out.grow h13)
      clear h13
      have T0_0 := T0.out.load.1
      have T0_1 := T0.out.load.2.1
      have T0_2 := T0.out.load.2.2
      have T1_0 := T1.out.load.1
      have T1_1 := T1.out.load.2.1
      have T1_2 := T1.out.load.2.2
      have T2_0 := T2.out.load.1
      have T2_1 := T2.out.load.2.1
      have T2_2 := T2.out.load.2.2
      have T8_0 := T8.out.load.1
      have T8_1 := T8.out.load.2.1
      have T8_2 := T8.out.load.2.2
      have T9_0 := T9.out.load.1
      have T9_1 := T9.out.load.2.1
      have T9_2 := T9.out.load.2.2
      go_wp2_with fail
      obtain ⟨sg, hsg⟩ : ∃ s, sgn x1.num = s := ⟨_, rfl⟩
      have hsg0 : ¬ sg = 0 := by rw [← hsg]; intro h; refine hb0 (Rat.num_eq_zero.1 ?_); unfold sgn at h; split at h <;> (try split at h) <;> omega
      refine (q_Sign _ _ x1 sg 4 HR1.out hsg (by decide)).mono ?_
      rintro _ w71 ⟨_, rfl, g71, rfl⟩
      clear T0_0 T0_1 T0_2 T1_0 T1_1 T1_2 T2_0 T2_1 T2_2 T8_0 T8_1 T8_2 T9_0 T9_1 T9_2
      have G := Lib.hid (G.out.trans g71)
      have T0 := Lib.hid (T0.out.grow g71)
      have T1 := Lib.hid (T1.out.grow g71)
      have T2 := Lib.hid (T2.out.grow g71)
      have T8 := Lib.hid (T8.out.grow g71)
      have T9 := Lib.hid (T9.out.grow g71)
      have HR1 := Lib.hid (HR1.out.grow g71)
      have H50 := Lib.hid (H50.out.grow g71)
      have HQ := Lib.hid (HQ.out.grow g71)
      clear g71
      have T0_0 := T0.out.load.1
      have T0_1 := T0.out.load.2.1
      have T0_2 := T0.out.load.2.2
      have T1_0 := T1.out.load.1
      have T1_1 := T1.out.load.2.1
      have T1_2 := T1.out.load.2.2
      have T2_0 := T2.out.load.1
      have T2_1 := T2.out.load.2.1
      have T2_2 := T2.out.load.2.2
      have T8_0 := T8.out.load.1
      have T8_1 := T8.out.load.2.1
      have T8_2 := T8.out.load.2.2
      have T9_0 := T9.out.load.1
      have T9_1 := T9.out.load.2.1
      have T9_2 := T9.out.load.2.2
      go_wp2_with fail
      refine (d_SameC _ _ _ x0 x0 true HQ.out H50.out (decide_eq_true rfl)).mono ?_
      rintro _ w72 ⟨_, rfl, g72, rfl⟩
      clear T0_0 T0_1 T0_2 T1_0 T1_1 T1_2 T2_0 T2_1 T2_2 T8_0 T8_1 T8_2 T9_0 T9_1 T9_2
      have G := Lib.hid (G.out.trans g72)
      have T0 := Lib.hid (T0.out.grow g72)
      have T1 := Lib.hid (T1.out.grow g72)
      have T2 := Lib.hid (T2.out.grow g72)
      have T8 := Lib.hid (T8.out.grow g72)
      have T9 := Lib.hid (T9.out.grow g72)
      have HR1 := Lib.hid (HR1.out.grow g72)
      have H50 := Lib.hid (H50.out.grow g72)
      have HQ := Lib.hid (HQ.out.grow g72)
      clear g72
      go_wp2_with fail
      go_ret
      exact ⟨_, rfl, G.out, rfl⟩
end Go.Proofs.YtmcgkglmlfbijaaGreatDoor

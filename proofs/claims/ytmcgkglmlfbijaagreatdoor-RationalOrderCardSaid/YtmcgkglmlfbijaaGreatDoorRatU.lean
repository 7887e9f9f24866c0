/-
  RationalOrder: the walk.
-/
import Derived.Test.YtmcgkglmlfbijaaGreatDoorRatT
namespace Go.Proofs.YtmcgkglmlfbijaaGreatDoor
open Go.RowKit Go.Lib
set_option linter.unusedVariables false
set_option linter.unusedSimpArgs false

set_option maxRecDepth 100000 in
set_option maxHeartbeats 12800000 in
theorem law_RationalOrder (w : World) (htab : Tab w) (v0 v1 v2 : Value) (s0 s1 s2 : Bool) (l0 d0 l1 d1 l2 d2 : List Nat) (i0 : RatL w v0 s0 l0 d0) (i1 : RatL w v1 s1 l1 d1) (i2 : RatL w v2 s2 l2 d2) :
    Calls Tryz.prog 5 #[v0, v1, v2] w (Ret w fun r w' => r = .bool true) := by
  have HTab := Lib.hid htab
  clear htab
  have HA0 := Lib.hid i0
  obtain ⟨p0, k0, c0, e0, m0, n0, rfl, j0, j0'⟩ := i0
  have Hl0 := Lib.hid j0.len
  have Hm0 := Lib.hid j0'.len
  clear j0 j0'
  have HA1 := Lib.hid i1
  obtain ⟨p1, k1, c1, e1, m1, n1, rfl, j1, j1'⟩ := i1
  have Hl1 := Lib.hid j1.len
  have Hm1 := Lib.hid j1'.len
  clear j1 j1'
  have HA2 := Lib.hid i2
  obtain ⟨p2, k2, c2, e2, m2, n2, rfl, j2, j2'⟩ := i2
  have Hl2 := Lib.hid j2.len
  have Hm2 := Lib.hid j2'.len
  clear j2 j2'
  have B := box333 w (.bool s0) (.slice p0 k0 c0) (.slice e0 m0 n0) (.bool s1) (.slice p1 k1 c1) (.slice e1 m1 n1) (.bool s2) (.slice p2 k2 c2) (.slice e2 m2 n2) 27 27 27
  have Hb1 := Lib.hid (show ¬ w.heap.size + 1 < w.heap.size by omega)
  have Hb2 := Lib.hid (show ¬ w.heap.size + 1 + 1 < w.heap.size by omega)
  have Hd01 := Lib.hid (show w.heap.size ≠ w.heap.size + 1 by omega)
  have Hd02 := Lib.hid (show w.heap.size ≠ w.heap.size + 1 + 1 by omega)
  have Hd12 := Lib.hid (show w.heap.size + 1 ≠ w.heap.size + 1 + 1 by omega)
  go_enter Tryz.func5, Tryz.ntmps5
  go_wp2_with fail
  generalize ((w.alloc _).alloc _).alloc _ = W at B ⊢
  obtain ⟨G0, t0, t1, t2⟩ := B
  generalize w.heap.size + 1 + 1 = b2 at t2 Hb2 Hd02 Hd12 ⊢
  generalize w.heap.size + 1 = b1 at t1 Hb1 Hd01 Hd12 ⊢
  generalize hb0 : w.heap.size = b0 at t0 Hd01 Hd02 ⊢
  have Hb0 := Lib.hid (show ¬ b0 < w.heap.size by omega)
  have G := Lib.hid G0
  have T0 := Lib.hid t0
  have T1 := Lib.hid t1
  have T2 := Lib.hid t2
  clear hb0 G0 t0 t1 t2
  have HA0 := Lib.hid (HA0.out.grow G.out)
  have HA1 := Lib.hid (HA1.out.grow G.out)
  have HA2 := Lib.hid (HA2.out.grow G.out)
  refine (law_awake3 W (HTab.out.grow G.out)).mono ?_
  rintro _ w1 ⟨_, rfl, g1, rfl⟩
  have G := Lib.hid (G.out.trans g1)
  have T0 := Lib.hid (T0.out.grow g1)
  have T1 := Lib.hid (T1.out.grow g1)
  have T2 := Lib.hid (T2.out.grow g1)
  have HA0 := Lib.hid (HA0.out.grow g1)
  have HA1 := Lib.hid (HA1.out.grow g1)
  have HA2 := Lib.hid (HA2.out.grow g1)
  clear g1
  have T0_0 := T0.out.load.1
  have T0_1 := T0.out.load.2.1
  have T0_2 := T0.out.load.2.2
  have T1_0 := T1.out.load.1
  have T1_1 := T1.out.load.2.1
  have T1_2 := T1.out.load.2.2
  have T2_0 := T2.out.load.1
  have T2_1 := T2.out.load.2.1
  have T2_2 := T2.out.load.2.2
  go_wp2_with fail
  clear T0_0 T0_1 T0_2 T1_0 T1_1 T1_2 T2_0 T2_1 T2_2
  obtain ⟨t, ht⟩ : ∃ t, decide (∀ i, i < 3 → (if i = 0 then k0 else if i = 1 then k1 else k2) ≤ 4 ∧ (if i = 0 then m0 else if i = 1 then m1 else m2) ≤ 4) = t := ⟨_, rfl⟩
  refine (ref_Few _ _ 3 3 4 (fun i => if i = 0 then s0 else if i = 1 then s1 else s2) (fun i => if i = 0 then p0 else if i = 1 then p1 else p2) (fun i => if i = 0 then e0 else if i = 1 then e1 else e2) (fun i => if i = 0 then k0 else if i = 1 then k1 else k2) (fun i => if i = 0 then c0 else if i = 1 then c1 else c2) (fun i => if i = 0 then m0 else if i = 1 then m1 else m2) (fun i => if i = 0 then n0 else if i = 1 then n1 else n2) (by decide) (by decide) (by decide) t ht (fun i hi => ?_)).mono ?_
  · match i, hi with
    | 0, _ => exact ⟨cell_new3 _ _ _ _, cell_new3 _ _ _ _, cell_new3 _ _ _ _⟩
    | 1, _ => exact ⟨cell_new3 _ _ _ _, cell_new3 _ _ _ _, cell_new3 _ _ _ _⟩
    | 2, _ => exact ⟨cell_new3 _ _ _ _, cell_new3 _ _ _ _, cell_new3 _ _ _ _⟩
  rintro _ w3 ⟨_, rfl, g3, rfl⟩
  have g4 : Gr w1 w3 := ((Gr.refl w1).alloc _).trans g3
  clear g3
  have G := Lib.hid (G.out.trans g4)
  have T0 := Lib.hid (T0.out.grow g4)
  have T1 := Lib.hid (T1.out.grow g4)
  have T2 := Lib.hid (T2.out.grow g4)
  have HA0 := Lib.hid (HA0.out.grow g4)
  have HA1 := Lib.hid (HA1.out.grow g4)
  have HA2 := Lib.hid (HA2.out.grow g4)
  clear g4
  cases t
  · clear ht
    go_wp2_with fail
    refine (law_awake3 w3 (HTab.out.grow G.out)).mono ?_
    rintro _ w5 ⟨_, rfl, g5, rfl⟩
    have G := Lib.hid (G.out.trans g5)
    have T0 := Lib.hid (T0.out.grow g5)
    have T1 := Lib.hid (T1.out.grow g5)
    have T2 := Lib.hid (T2.out.grow g5)
    have HA0 := Lib.hid (HA0.out.grow g5)
    have HA1 := Lib.hid (HA1.out.grow g5)
    have HA2 := Lib.hid (HA2.out.grow g5)
    clear g5
    go_wp2_with fail
    go_ret
    exact ⟨_, rfl, G.out, rfl⟩
  · have hh := of_decide_eq_true ht
    have hk0 := hh 0 (by decide)
    have hk1 := hh 1 (by decide)
    have hk2 := hh 2 (by decide)
    obtain ⟨x0, hx0⟩ : ∃ x, ratv s0 l0 d0 = x := ⟨_, rfl⟩
    have HR0 := Lib.hid (show RatV w3 _ x0 4 from ⟨s0, l0, d0, HA0.out, hx0, by rw [Hl0.out]; exact hk0.1, by rw [Hm0.out]; exact hk0.2⟩)
    have SR0 := Lib.hid (HR0.out.sz (by decide))
    obtain ⟨x1, hx1⟩ : ∃ x, ratv s1 l1 d1 = x := ⟨_, rfl⟩
    have HR1 := Lib.hid (show RatV w3 _ x1 4 from ⟨s1, l1, d1, HA1.out, hx1, by rw [Hl1.out]; exact hk1.1, by rw [Hm1.out]; exact hk1.2⟩)
    have SR1 := Lib.hid (HR1.out.sz (by decide))
    obtain ⟨x2, hx2⟩ : ∃ x, ratv s2 l2 d2 = x := ⟨_, rfl⟩
    have HR2 := Lib.hid (show RatV w3 _ x2 4 from ⟨s2, l2, d2, HA2.out, hx2, by rw [Hl2.out]; exact hk2.1, by rw [Hm2.out]; exact hk2.2⟩)
    have SR2 := Lib.hid (HR2.out.sz (by decide))
    clear ht hh hk0 hk1 hk2
    go_wp2_with fail
    obtain ⟨c1, hc1⟩ : ∃ c, cmpQ x0 x1 = c := ⟨_, rfl⟩
    obtain ⟨c2, hc2⟩ : ∃ c, cmpQ x1 x2 = c := ⟨_, rfl⟩
    obtain ⟨c3, hc3⟩ : ∃ c, cmpQ x0 x2 = c := ⟨_, rfl⟩
    obtain ⟨sg, hsg⟩ : ∃ s, sgn x2.num = s := ⟨_, rfl⟩
    refine wp_region_fast [(0, true), (1, true), (3, true), (4, true), (6, true), (7, true), (2, false), (5, false), (8, false), (9, true), (10, true), (11, true)] (by kernel_rfl) (by kernel_rfl) rfl (by kernel_rfl) (fun _ _ d _ _ h => by cases d <;> exact h) ?_
    have T0_0 := T0.out.c0
    have T0_1 := T0.out.c1
    have T0_2 := T0.out.c2
    have T1_0 := T1.out.c0
    have T1_1 := T1.out.c1
    have T1_2 := T1.out.c2
    have T2_0 := T2.out.c0
    have T2_1 := T2.out.c1
    have T2_2 := T2.out.c2
    have g0 : Gr w3 w3.drew := (Gr.refl _).drew
    have G := Lib.hid (G.out.trans g0)
    have T0 := Lib.hid (T0.out.grow g0)
    have T1 := Lib.hid (T1.out.grow g0)
    have T2 := Lib.hid (T2.out.grow g0)
    have HR0 := Lib.hid (HR0.out.grow g0)
    have HR1 := Lib.hid (HR1.out.grow g0)
    have HR2 := Lib.hid (HR2.out.grow g0)
    repeat (refine wpE_readB (v := ?_) g0 rfl rfl (fun w' hg => ?_) (fun K hK => ?_); rotate_left; (go_simp; rfl); go_simp; refine hK _ _ ?_; clear hK K)
    refine wpE_fn (args := ?_) rfl rfl rfl rfl rfl rfl (by kernel_rfl) (by kernel_rfl) ?_ (fun K hK => ?_)
    rotate_left
    · go_simp; rfl
    refine (q_Cmp _ _ _ x0 x1 (c1) 4 4 HR0.out HR1.out (hc1) (by decide) (by decide)).mono ?_
    rintro _ w1 ⟨_, rfl, g1, rfl⟩
    refine ⟨_, rfl, g1, ?_⟩
    go_simp
    refine hK _ _ ?_
    clear hK K
    have G := Lib.hid (G.out.trans g1)
    have T0 := Lib.hid (T0.out.grow g1)
    have T1 := Lib.hid (T1.out.grow g1)
    have T2 := Lib.hid (T2.out.grow g1)
    have HR0 := Lib.hid (HR0.out.grow g1)
    have HR1 := Lib.hid (HR1.out.grow g1)
    have HR2 := Lib.hid (HR2.out.grow g1)
    replace g0 := g0.trans g1
    clear g1
    repeat (refine wpE_readB (v := ?_) g0 rfl rfl (fun w' hg => ?_) (fun K hK => ?_); rotate_left; (go_simp; rfl); go_simp; refine hK _ _ ?_; clear hK K)
    refine wpE_fn (args := ?_) rfl rfl rfl rfl rfl rfl (by kernel_rfl) (by kernel_rfl) ?_ (fun K hK => ?_)
    rotate_left
    · go_simp; rfl
    refine (q_Cmp _ _ _ x1 x2 (c2) 4 4 HR1.out HR2.out (hc2) (by decide) (by decide)).mono ?_
    rintro _ w2 ⟨_, rfl, g2, rfl⟩
    refine ⟨_, rfl, g2, ?_⟩
    go_simp
    refine hK _ _ ?_
    clear hK K
    have G := Lib.hid (G.out.trans g2)
    have T0 := Lib.hid (T0.out.grow g2)
    have T1 := Lib.hid (T1.out.grow g2)
    have T2 := Lib.hid (T2.out.grow g2)
    have HR0 := Lib.hid (HR0.out.grow g2)
    have HR1 := Lib.hid (HR1.out.grow g2)
    have HR2 := Lib.hid (HR2.out.grow g2)
    replace g0 := g0.trans g2
    clear g2
    repeat (refine wpE_readB (v := ?_) g0 rfl rfl (fun w' hg => ?_) (fun K hK => ?_); rotate_left; (go_simp; rfl); go_simp; refine hK _ _ ?_; clear hK K)
    refine wpE_fn (args := ?_) rfl rfl rfl rfl rfl rfl (by kernel_rfl) (by kernel_rfl) ?_ (fun K hK => ?_)
    rotate_left
    · go_simp; rfl
    refine (q_Cmp _ _ _ x0 x2 (c3) 4 4 HR0.out HR2.out (hc3) (by decide) (by decide)).mono ?_
    rintro _ w3 ⟨_, rfl, g3, rfl⟩
    refine ⟨_, rfl, g3, ?_⟩
    go_simp
    refine hK _ _ ?_
    clear hK K
    have G := Lib.hid (G.out.trans g3)
    have T0 := Lib.hid (T0.out.grow g3)
    have T1 := Lib.hid (T1.out.grow g3)
    have T2 := Lib.hid (T2.out.grow g3)
    have HR0 := Lib.hid (HR0.out.grow g3)
    have HR1 := Lib.hid (HR1.out.grow g3)
    have HR2 := Lib.hid (HR2.out.grow g3)
    replace g0 := g0.trans g3
    clear g3
    repeat (refine wpE_readB (v := ?_) g0 rfl rfl (fun w' hg => ?_) (fun K hK => ?_); rotate_left; (go_simp; rfl); go_simp; refine hK _ _ ?_; clear hK K)
    refine wpE_nil ?_
    clear g0
    clear T0_0 T0_1 T0_2 T1_0 T1_1 T1_2 T2_0 T2_1 T2_2
    have hsw : cmpQ x1 x0 = -c1 := by rw [cmpQ_swap, hc1]
    have hadd : cmpQ (x0 + x2) (x1 + x2) = c1 := by rw [cmpQ_add, hc1]
    have hmul : cmpQ (x0 * x2) (x1 * x2) = c1 * sg := by rw [cmpQ_mul, hc1, hsg]
    have hsr : -1 ≤ sg ∧ sg ≤ 1 := by rw [← hsg]; unfold sgn; split <;> (try split) <;> omega
    obtain ⟨hs1, hs2⟩ := hsr
    rcases cmpQ_cases x0 x1 with ⟨hE, e1⟩ | ⟨hE, e1⟩ | ⟨hE, e1⟩
    · rw [hc1] at e1
      subst e1
      have hmul2 : cmpQ (x0 * x2) (x1 * x2) = -sg := by rw [hmul]; omega
      clear hmul
      have hmul := hmul2
      clear hmul2
      by_cases h2 : c2 ≤ 0
      · have h3 : c3 ≤ 0 := by
          rcases cmpQ_cases x1 x2 with ⟨k, e⟩ | ⟨k, e⟩ | ⟨k, e⟩
          · rw [← hc3, cmpQ_lt (show x0 < x2 by grind)]; decide
          · rw [← hc3, ← k, cmpQ_lt hE]; decide
          · rw [hc2] at e; omega
        go_wp2_with fail
        refine wp_region_fast [(0, true), (1, true), (2, true), (3, false), (4, true), (5, true), (6, true), (7, true), (8, true), (9, true), (10, true), (11, true), (12, true), (13, true), (14, true), (15, true), (16, true), (17, true), (18, true), (19, true), (20, true), (21, true), (22, true), (23, true), (24, true), (25, true), (26, true), (27, true), (29, true), (30, true), (28, false), (31, false), (32, false), (33, true), (34, true), (35, true), (36, true)] (by kernel_rfl) (by kernel_rfl) rfl (by kernel_rfl) (fun _ _ d _ _ h => by cases d <;> exact h) ?_
        have T0_0 := T0.out.c0
        have T0_1 := T0.out.c1
        have T0_2 := T0.out.c2
        have T1_0 := T1.out.c0
        have T1_1 := T1.out.c1
        have T1_2 := T1.out.c2
        have T2_0 := T2.out.c0
        have T2_1 := T2.out.c1
        have T2_2 := T2.out.c2
        have g0 : Gr w3 w3.drew := (Gr.refl _).drew
        have G := Lib.hid (G.out.trans g0)
        have T0 := Lib.hid (T0.out.grow g0)
        have T1 := Lib.hid (T1.out.grow g0)
        have T2 := Lib.hid (T2.out.grow g0)
        have HR0 := Lib.hid (HR0.out.grow g0)
        have HR1 := Lib.hid (HR1.out.grow g0)
        have HR2 := Lib.hid (HR2.out.grow g0)
        have h3n : ¬ 0 < c3 := by omega
        have hw1 : IntKind.i64.wrap (-1) = -1 := by decide
        repeat (refine wpE_readB (v := ?_) g0 rfl rfl (fun w' hg => ?_) (fun K hK => ?_); rotate_left; (go_simp; rfl); go_simp; refine hK _ _ ?_; clear hK K)
        refine wpE_fn (args := ?_) rfl rfl rfl rfl rfl rfl (by kernel_rfl) (by kernel_rfl) ?_ (fun K hK => ?_)
        rotate_left
        · go_simp; rfl
        refine (q_Cmp _ _ _ x1 x0 (1) 4 4 HR1.out HR0.out (hsw) (by decide) (by decide)).mono ?_
        rintro _ w4 ⟨_, rfl, g4, rfl⟩
        refine ⟨_, rfl, g4, ?_⟩
        go_simp
        refine hK _ _ ?_
        clear hK K
        have G := Lib.hid (G.out.trans g4)
        have T0 := Lib.hid (T0.out.grow g4)
        have T1 := Lib.hid (T1.out.grow g4)
        have T2 := Lib.hid (T2.out.grow g4)
        have HR0 := Lib.hid (HR0.out.grow g4)
        have HR1 := Lib.hid (HR1.out.grow g4)
        have HR2 := Lib.hid (HR2.out.grow g4)
        replace g0 := g0.trans g4
        clear g4
        repeat (refine wpE_readB (v := ?_) g0 rfl rfl (fun w' hg => ?_) (fun K hK => ?_); rotate_left; (go_simp; rfl); go_simp; refine hK _ _ ?_; clear hK K)
        repeat (refine wpE_skip rfl rfl ?_; go_simp)
        repeat (refine wpE_readB (v := ?_) g0 rfl rfl (fun w' hg => ?_) (fun K hK => ?_); rotate_left; (go_simp; rfl); go_simp; refine hK _ _ ?_; clear hK K)
        repeat (refine wpE_skip rfl rfl ?_; go_simp)
        repeat (refine wpE_readB (v := ?_) g0 rfl rfl (fun w' hg => ?_) (fun K hK => ?_); rotate_left; (go_simp; rfl); go_simp; refine hK _ _ ?_; clear hK K)
        repeat (refine wpE_skip rfl rfl ?_; go_simp)
        repeat (refine wpE_readB (v := ?_) g0 rfl rfl (fun w' hg => ?_) (fun K hK => ?_); rotate_left; (go_simp; rfl); go_simp; refine hK _ _ ?_; clear hK K)
        refine wpE_nil ?_
        clear g0
        clear T0_0 T0_1 T0_2 T1_0 T1_1 T1_2 T2_0 T2_1 T2_2
        go_wp2_with fail
        refine wp_region_fast [(0, true), (1, true), (3, true), (4, true), (7, true), (2, false), (5, false), (6, false), (8, true), (9, true), (10, true), (11, true), (13, true), (14, true), (17, true), (18, true), (12, false), (15, false), (16, false), (19, false), (20, true), (21, true), (22, true), (23, true)] (by kernel_rfl) (by kernel_rfl) rfl (by kernel_rfl) (fun _ _ d _ _ h => by cases d <;> exact h) ?_
        have T0_0 := T0.out.c0
        have T0_1 := T0.out.c1
        have T0_2 := T0.out.c2
        have T1_0 := T1.out.c0
        have T1_1 := T1.out.c1
        have T1_2 := T1.out.c2
        have T2_0 := T2.out.c0
        have T2_1 := T2.out.c1
        have T2_2 := T2.out.c2
        have g0 : Gr w4 w4.drew := (Gr.refl _).drew
        have G := Lib.hid (G.out.trans g0)
        have T0 := Lib.hid (T0.out.grow g0)
        have T1 := Lib.hid (T1.out.grow g0)
        have T2 := Lib.hid (T2.out.grow g0)
        have HR0 := Lib.hid (HR0.out.grow g0)
        have HR1 := Lib.hid (HR1.out.grow g0)
        have HR2 := Lib.hid (HR2.out.grow g0)
        repeat (refine wpE_readB (v := ?_) g0 rfl rfl (fun w' hg => ?_) (fun K hK => ?_); rotate_left; (go_simp; rfl); go_simp; refine hK _ _ ?_; clear hK K)
        refine wpE_fn (args := ?_) rfl rfl rfl rfl rfl rfl (by kernel_rfl) (by kernel_rfl) ?_ (fun K hK => ?_)
        rotate_left
        · go_simp; rfl
        refine (q_Add _ _ _ x0 x2 _ 4 4 HR0.out HR2.out rfl (by decide) (by decide)).mono ?_
        rintro _ w5 ⟨r5, rfl, g5, h5⟩
        refine ⟨_, rfl, g5, ?_⟩
        go_simp
        refine hK _ _ ?_
        clear hK K
        have G := Lib.hid (G.out.trans g5)
        have T0 := Lib.hid (T0.out.grow g5)
        have T1 := Lib.hid (T1.out.grow g5)
        have T2 := Lib.hid (T2.out.grow g5)
        have HR0 := Lib.hid (HR0.out.grow g5)
        have HR1 := Lib.hid (HR1.out.grow g5)
        have HR2 := Lib.hid (HR2.out.grow g5)
        replace g0 := g0.trans g5
        clear g5
        have H5 := Lib.hid h5
        clear h5
        have S5 := Lib.hid (show Sz 9 ((x0 + x2)) from sz_add SR0.out SR2.out)
        repeat (refine wpE_readB (v := ?_) g0 rfl rfl (fun w' hg => ?_) (fun K hK => ?_); rotate_left; (go_simp; rfl); go_simp; refine hK _ _ ?_; clear hK K)
        refine wpE_fn (args := ?_) rfl rfl rfl rfl rfl rfl (by kernel_rfl) (by kernel_rfl) ?_ (fun K hK => ?_)
        rotate_left
        · go_simp; rfl
        refine (q_Add _ _ _ x1 x2 _ 4 4 HR1.out HR2.out rfl (by decide) (by decide)).mono ?_
        rintro _ w6 ⟨r6, rfl, g6, h6⟩
        refine ⟨_, rfl, g6, ?_⟩
        go_simp
        refine hK _ _ ?_
        clear hK K
        have G := Lib.hid (G.out.trans g6)
        have T0 := Lib.hid (T0.out.grow g6)
        have T1 := Lib.hid (T1.out.grow g6)
        have T2 := Lib.hid (T2.out.grow g6)
        have HR0 := Lib.hid (HR0.out.grow g6)
        have HR1 := Lib.hid (HR1.out.grow g6)
        have HR2 := Lib.hid (HR2.out.grow g6)
        have H5 := Lib.hid (H5.out.grow g6)
        replace g0 := g0.trans g6
        clear g6
        have H6 := Lib.hid h6
        clear h6
        have S6 := Lib.hid (show Sz 9 ((x1 + x2)) from sz_add SR1.out SR2.out)
        repeat (refine wpE_readB (v := ?_) g0 rfl rfl (fun w' hg => ?_) (fun K hK => ?_); rotate_left; (go_simp; rfl); go_simp; refine hK _ _ ?_; clear hK K)
        refine wpE_fn (args := ?_) rfl rfl rfl rfl rfl rfl (by kernel_rfl) (by kernel_rfl) ?_ (fun K hK => ?_)
        rotate_left
        · go_simp; rfl
        refine (q_Cmp _ _ _ (x0 + x2) (x1 + x2) (-1) 9 9 (H5.out.v S5.out) (H6.out.v S6.out) (hadd) (by decide) (by decide)).mono ?_
        rintro _ w7 ⟨_, rfl, g7, rfl⟩
        refine ⟨_, rfl, g7, ?_⟩
        go_simp
        refine hK _ _ ?_
        clear hK K
        have G := Lib.hid (G.out.trans g7)
        have T0 := Lib.hid (T0.out.grow g7)
        have T1 := Lib.hid (T1.out.grow g7)
        have T2 := Lib.hid (T2.out.grow g7)
        have HR0 := Lib.hid (HR0.out.grow g7)
        have HR1 := Lib.hid (HR1.out.grow g7)
        have HR2 := Lib.hid (HR2.out.grow g7)
        have H5 := Lib.hid (H5.out.grow g7)
        have H6 := Lib.hid (H6.out.grow g7)
        replace g0 := g0.trans g7
        clear g7
        repeat (refine wpE_readB (v := ?_) g0 rfl rfl (fun w' hg => ?_) (fun K hK => ?_); rotate_left; (go_simp; rfl); go_simp; refine hK _ _ ?_; clear hK K)
        refine wpE_fn (args := ?_) rfl rfl rfl rfl rfl rfl (by kernel_rfl) (by kernel_rfl) ?_ (fun K hK => ?_)
        rotate_left
        · go_simp; rfl
        refine (q_Mul _ _ _ x0 x2 _ 4 4 HR0.out HR2.out rfl (by decide) (by decide)).mono ?_
        rintro _ w8 ⟨r8, rfl, g8, h8⟩
        refine ⟨_, rfl, g8, ?_⟩
        go_simp
        refine hK _ _ ?_
        clear hK K
        have G := Lib.hid (G.out.trans g8)
        have T0 := Lib.hid (T0.out.grow g8)
        have T1 := Lib.hid (T1.out.grow g8)
        have T2 := Lib.hid (T2.out.grow g8)
        have HR0 := Lib.hid (HR0.out.grow g8)
        have HR1 := Lib.hid (HR1.out.grow g8)
        have HR2 := Lib.hid (HR2.out.grow g8)
        have H5 := Lib.hid (H5.out.grow g8)
        have H6 := Lib.hid (H6.out.grow g8)
        replace g0 := g0.trans g8
        clear g8
        have H8 := Lib.hid h8
        clear h8
        have S8 := Lib.hid (show Sz 9 ((x0 * x2)) from sz_mul SR0.out SR2.out)
        repeat (refine wpE_readB (v := ?_) g0 rfl rfl (fun w' hg => ?_) (fun K hK => ?_); rotate_left; (go_simp; rfl); go_simp; refine hK _ _ ?_; clear hK K)
        refine wpE_fn (args := ?_) rfl rfl rfl rfl rfl rfl (by kernel_rfl) (by kernel_rfl) ?_ (fun K hK => ?_)
        rotate_left
        · go_simp; rfl
        refine (q_Mul _ _ _ x1 x2 _ 4 4 HR1.out HR2.out rfl (by decide) (by decide)).mono ?_
        rintro _ w9 ⟨r9, rfl, g9, h9⟩
        refine ⟨_, rfl, g9, ?_⟩
        go_simp
        refine hK _ _ ?_
        clear hK K
        have G := Lib.hid (G.out.trans g9)
        have T0 := Lib.hid (T0.out.grow g9)
        have T1 := Lib.hid (T1.out.grow g9)
        have T2 := Lib.hid (T2.out.grow g9)
        have HR0 := Lib.hid (HR0.out.grow g9)
        have HR1 := Lib.hid (HR1.out.grow g9)
        have HR2 := Lib.hid (HR2.out.grow g9)
        have H5 := Lib.hid (H5.out.grow g9)
        have H6 := Lib.hid (H6.out.grow g9)
        have H8 := Lib.hid (H8.out.grow g9)
        replace g0 := g0.trans g9
        clear g9
        have H9 := Lib.hid h9
        clear h9
        have S9 := Lib.hid (show Sz 9 ((x1 * x2)) from sz_mul SR1.out SR2.out)
        repeat (refine wpE_readB (v := ?_) g0 rfl rfl (fun w' hg => ?_) (fun K hK => ?_); rotate_left; (go_simp; rfl); go_simp; refine hK _ _ ?_; clear hK K)
        refine wpE_fn (args := ?_) rfl rfl rfl rfl rfl rfl (by kernel_rfl) (by kernel_rfl) ?_ (fun K hK => ?_)
        rotate_left
        · go_simp; rfl
        refine (q_Cmp _ _ _ (x0 * x2) (x1 * x2) (-sg) 9 9 (H8.out.v S8.out) (H9.out.v S9.out) (hmul) (by decide) (by decide)).mono ?_
        rintro _ w10 ⟨_, rfl, g10, rfl⟩
        refine ⟨_, rfl, g10, ?_⟩
        go_simp
        refine hK _ _ ?_
        clear hK K
        have G := Lib.hid (G.out.trans g10)
        have T0 := Lib.hid (T0.out.grow g10)
        have T1 := Lib.hid (T1.out.grow g10)
        have T2 := Lib.hid (T2.out.grow g10)
        have HR0 := Lib.hid (HR0.out.grow g10)
        have HR1 := Lib.hid (HR1.out.grow g10)
        have HR2 := Lib.hid (HR2.out.grow g10)
        have H5 := Lib.hid (H5.out.grow g10)
        have H6 := Lib.hid (H6.out.grow g10)
        have H8 := Lib.hid (H8.out.grow g10)
        have H9 := Lib.hid (H9.out.grow g10)
        replace g0 := g0.trans g10
        clear g10
        repeat (refine wpE_readB (v := ?_) g0 rfl rfl (fun w' hg => ?_) (fun K hK => ?_); rotate_left; (go_simp; rfl); go_simp; refine hK _ _ ?_; clear hK K)
        refine wpE_fn (args := ?_) rfl rfl rfl rfl rfl rfl (by kernel_rfl) (by kernel_rfl) ?_ (fun K hK => ?_)
        rotate_left
        · go_simp; rfl
        refine (q_Sign _ _ x2 (sg) 4 HR2.out (hsg) (by decide)).mono ?_
        rintro _ w11 ⟨_, rfl, g11, rfl⟩
        refine ⟨_, rfl, g11, ?_⟩
        go_simp
        refine hK _ _ ?_
        clear hK K
        have G := Lib.hid (G.out.trans g11)
        have T0 := Lib.hid (T0.out.grow g11)
        have T1 := Lib.hid (T1.out.grow g11)
        have T2 := Lib.hid (T2.out.grow g11)
        have HR0 := Lib.hid (HR0.out.grow g11)
        have HR1 := Lib.hid (HR1.out.grow g11)
        have HR2 := Lib.hid (HR2.out.grow g11)
        have H5 := Lib.hid (H5.out.grow g11)
        have H6 := Lib.hid (H6.out.grow g11)
        have H8 := Lib.hid (H8.out.grow g11)
        have H9 := Lib.hid (H9.out.grow g11)
        replace g0 := g0.trans g11
        clear g11
        repeat (refine wpE_readB (v := ?_) g0 rfl rfl (fun w' hg => ?_) (fun K hK => ?_); rotate_left; (go_simp; rfl); go_simp; refine hK _ _ ?_; clear hK K)
        refine wpE_nil ?_
        clear g0
        clear T0_0 T0_1 T0_2 T1_0 T1_1 T1_2 T2_0 T2_1 T2_2
        go_wp2_with fail
        go_ret
        first | exact ⟨_, rfl, G.out, rfl⟩ | exact ⟨_, rfl, G.out, by show Value.bool ((-sg : Int) == IntKind.i64.wrap (-sg)) = _; rw [wrap_small (by omega) (by omega)]; simp⟩
      · go_wp2_with fail
        refine wp_region_fast [(0, true), (1, true), (2, true), (3, false), (4, true), (5, true), (6, true), (7, true), (8, true), (9, true), (10, true), (11, true), (12, true), (13, true), (14, true), (15, true), (16, true), (17, true), (18, true), (19, true), (20, true), (21, true), (22, true), (23, true), (24, true), (25, true), (26, true), (27, true), (29, true), (30, true), (28, false), (31, false), (32, false), (33, true), (34, true), (35, true), (36, true)] (by kernel_rfl) (by kernel_rfl) rfl (by kernel_rfl) (fun _ _ d _ _ h => by cases d <;> exact h) ?_
        have T0_0 := T0.out.c0
        have T0_1 := T0.out.c1
        have T0_2 := T0.out.c2
        have T1_0 := T1.out.c0
        have T1_1 := T1.out.c1
        have T1_2 := T1.out.c2
        have T2_0 := T2.out.c0
        have T2_1 := T2.out.c1
        have T2_2 := T2.out.c2
        have g0 : Gr w3 w3.drew := (Gr.refl _).drew
        have G := Lib.hid (G.out.trans g0)
        have T0 := Lib.hid (T0.out.grow g0)
        have T1 := Lib.hid (T1.out.grow g0)
        have T2 := Lib.hid (T2.out.grow g0)
        have HR0 := Lib.hid (HR0.out.grow g0)
        have HR1 := Lib.hid (HR1.out.grow g0)
        have HR2 := Lib.hid (HR2.out.grow g0)
        have h2n : ¬ c2 ≤ 0 := by omega
        have hw1 : IntKind.i64.wrap (-1) = -1 := by decide
        repeat (refine wpE_readB (v := ?_) g0 rfl rfl (fun w' hg => ?_) (fun K hK => ?_); rotate_left; (go_simp; rfl); go_simp; refine hK _ _ ?_; clear hK K)
        refine wpE_fn (args := ?_) rfl rfl rfl rfl rfl rfl (by kernel_rfl) (by kernel_rfl) ?_ (fun K hK => ?_)
        rotate_left
        · go_simp; rfl
        refine (q_Cmp _ _ _ x1 x0 (1) 4 4 HR1.out HR0.out (hsw) (by decide) (by decide)).mono ?_
        rintro _ w4 ⟨_, rfl, g4, rfl⟩
        refine ⟨_, rfl, g4, ?_⟩
        go_simp
        refine hK _ _ ?_
        clear hK K
        have G := Lib.hid (G.out.trans g4)
        have T0 := Lib.hid (T0.out.grow g4)
        have T1 := Lib.hid (T1.out.grow g4)
        have T2 := Lib.hid (T2.out.grow g4)
        have HR0 := Lib.hid (HR0.out.grow g4)
        have HR1 := Lib.hid (HR1.out.grow g4)
        have HR2 := Lib.hid (HR2.out.grow g4)
        replace g0 := g0.trans g4
        clear g4
        repeat (refine wpE_readB (v := ?_) g0 rfl rfl (fun w' hg => ?_) (fun K hK => ?_); rotate_left; (go_simp; rfl); go_simp; refine hK _ _ ?_; clear hK K)
        repeat (refine wpE_skip rfl rfl ?_; go_simp)
        repeat (refine wpE_readB (v := ?_) g0 rfl rfl (fun w' hg => ?_) (fun K hK => ?_); rotate_left; (go_simp; rfl); go_simp; refine hK _ _ ?_; clear hK K)
        repeat (refine wpE_skip rfl rfl ?_; go_simp)
        repeat (refine wpE_readB (v := ?_) g0 rfl rfl (fun w' hg => ?_) (fun K hK => ?_); rotate_left; (go_simp; rfl); go_simp; refine hK _ _ ?_; clear hK K)
        repeat (refine wpE_skip rfl rfl ?_; go_simp)
        repeat (refine wpE_readB (v := ?_) g0 rfl rfl (fun w' hg => ?_) (fun K hK => ?_); rotate_left; (go_simp; rfl); go_simp; refine hK _ _ ?_; clear hK K)
        refine wpE_nil ?_
        clear g0
        clear T0_0 T0_1 T0_2 T1_0 T1_1 T1_2 T2_0 T2_1 T2_2
        go_wp2_with fail
        refine wp_region_fast [(0, true), (1, true), (3, true), (4, true), (7, true), (2, false), (5, false), (6, false), (8, true), (9, true), (10, true), (11, true), (13, true), (14, true), (17, true), (18, true), (12, false), (15, false), (16, false), (19, false), (20, true), (21, true), (22, true), (23, true)] (by kernel_rfl) (by kernel_rfl) rfl (by kernel_rfl) (fun _ _ d _ _ h => by cases d <;> exact h) ?_
        have T0_0 := T0.out.c0
        have T0_1 := T0.out.c1
        have T0_2 := T0.out.c2
        have T1_0 := T1.out.c0
        have T1_1 := T1.out.c1
        have T1_2 := T1.out.c2
        have T2_0 := T2.out.c0
        have T2_1 := T2.out.c1
        have T2_2 := T2.out.c2
        have g0 : Gr w4 w4.drew := (Gr.refl _).drew
        have G := Lib.hid (G.out.trans g0)
        have T0 := Lib.hid (T0.out.grow g0)
        have T1 := Lib.hid (T1.out.grow g0)
        have T2 := Lib.hid (T2.out.grow g0)
        have HR0 := Lib.hid (HR0.out.grow g0)
        have HR1 := Lib.hid (HR1.out.grow g0)
        have HR2 := Lib.hid (HR2.out.grow g0)
        repeat (refine wpE_readB (v := ?_) g0 rfl rfl (fun w' hg => ?_) (fun K hK => ?_); rotate_left; (go_simp; rfl); go_simp; refine hK _ _ ?_; clear hK K)
        refine wpE_fn (args := ?_) rfl rfl rfl rfl rfl rfl (by kernel_rfl) (by kernel_rfl) ?_ (fun K hK => ?_)
        rotate_left
        · go_simp; rfl
        refine (q_Add _ _ _ x0 x2 _ 4 4 HR0.out HR2.out rfl (by decide) (by decide)).mono ?_
        rintro _ w5 ⟨r5, rfl, g5, h5⟩
        refine ⟨_, rfl, g5, ?_⟩
        go_simp
        refine hK _ _ ?_
        clear hK K
        have G := Lib.hid (G.out.trans g5)
        have T0 := Lib.hid (T0.out.grow g5)
        have T1 := Lib.hid (T1.out.grow g5)
        have T2 := Lib.hid (T2.out.grow g5)
        have HR0 := Lib.hid (HR0.out.grow g5)
        have HR1 := Lib.hid (HR1.out.grow g5)
        have HR2 := Lib.hid (HR2.out.grow g5)
        replace g0 := g0.trans g5
        clear g5
        have H5 := Lib.hid h5
        clear h5
        have S5 := Lib.hid (show Sz 9 ((x0 + x2)) from sz_add SR0.out SR2.out)
        repeat (refine wpE_readB (v := ?_) g0 rfl rfl (fun w' hg => ?_) (fun K hK => ?_); rotate_left; (go_simp; rfl); go_simp; refine hK _ _ ?_; clear hK K)
        refine wpE_fn (args := ?_) rfl rfl rfl rfl rfl rfl (by kernel_rfl) (by kernel_rfl) ?_ (fun K hK => ?_)
        rotate_left
        · go_simp; rfl
        refine (q_Add _ _ _ x1 x2 _ 4 4 HR1.out HR2.out rfl (by decide) (by decide)).mono ?_
        rintro _ w6 ⟨r6, rfl, g6, h6⟩
        refine ⟨_, rfl, g6, ?_⟩
        go_simp
        refine hK _ _ ?_
        clear hK K
        have G := Lib.hid (G.out.trans g6)
        have T0 := Lib.hid (T0.out.grow g6)
        have T1 := Lib.hid (T1.out.grow g6)
        have T2 := Lib.hid (T2.out.grow g6)
        have HR0 := Lib.hid (HR0.out.grow g6)
        have HR1 := Lib.hid (HR1.out.grow g6)
        have HR2 := Lib.hid (HR2.out.grow g6)
        have H5 := Lib.hid (H5.out.grow g6)
        replace g0 := g0.trans g6
        clear g6
        have H6 := Lib.hid h6
        clear h6
        have S6 := Lib.hid (show Sz 9 ((x1 + x2)) from sz_add SR1.out SR2.out)
        repeat (refine wpE_readB (v := ?_) g0 rfl rfl (fun w' hg => ?_) (fun K hK => ?_); rotate_left; (go_simp; rfl); go_simp; refine hK _ _ ?_; clear hK K)
        refine wpE_fn (args := ?_) rfl rfl rfl rfl rfl rfl (by kernel_rfl) (by kernel_rfl) ?_ (fun K hK => ?_)
        rotate_left
        · go_simp; rfl
        refine (q_Cmp _ _ _ (x0 + x2) (x1 + x2) (-1) 9 9 (H5.out.v S5.out) (H6.out.v S6.out) (hadd) (by decide) (by decide)).mono ?_
        rintro _ w7 ⟨_, rfl, g7, rfl⟩
        refine ⟨_, rfl, g7, ?_⟩
        go_simp
        refine hK _ _ ?_
        clear hK K
        have G := Lib.hid (G.out.trans g7)
        have T0 := Lib.hid (T0.out.grow g7)
        have T1 := Lib.hid (T1.out.grow g7)
        have T2 := Lib.hid (T2.out.grow g7)
        have HR0 := Lib.hid (HR0.out.grow g7)
        have HR1 := Lib.hid (HR1.out.grow g7)
        have HR2 := Lib.hid (HR2.out.grow g7)
        have H5 := Lib.hid (H5.out.grow g7)
        have H6 := Lib.hid (H6.out.grow g7)
        replace g0 := g0.trans g7
        clear g7
        repeat (refine wpE_readB (v := ?_) g0 rfl rfl (fun w' hg => ?_) (fun K hK => ?_); rotate_left; (go_simp; rfl); go_simp; refine hK _ _ ?_; clear hK K)
        refine wpE_fn (args := ?_) rfl rfl rfl rfl rfl rfl (by kernel_rfl) (by kernel_rfl) ?_ (fun K hK => ?_)
        rotate_left
        · go_simp; rfl
        refine (q_Mul _ _ _ x0 x2 _ 4 4 HR0.out HR2.out rfl (by decide) (by decide)).mono ?_
        rintro _ w8 ⟨r8, rfl, g8, h8⟩
        refine ⟨_, rfl, g8, ?_⟩
        go_simp
        refine hK _ _ ?_
        clear hK K
        have G := Lib.hid (G.out.trans g8)
        have T0 := Lib.hid (T0.out.grow g8)
        have T1 := Lib.hid (T1.out.grow g8)
        have T2 := Lib.hid (T2.out.grow g8)
        have HR0 := Lib.hid (HR0.out.grow g8)
        have HR1 := Lib.hid (HR1.out.grow g8)
        have HR2 := Lib.hid (HR2.out.grow g8)
        have H5 := Lib.hid (H5.out.grow g8)
        have H6 := Lib.hid (H6.out.grow g8)
        replace g0 := g0.trans g8
        clear g8
        have H8 := Lib.hid h8
        clear h8
        have S8 := Lib.hid (show Sz 9 ((x0 * x2)) from sz_mul SR0.out SR2.out)
        repeat (refine wpE_readB (v := ?_) g0 rfl rfl (fun w' hg => ?_) (fun K hK => ?_); rotate_left; (go_simp; rfl); go_simp; refine hK _ _ ?_; clear hK K)
        refine wpE_fn (args := ?_) rfl rfl rfl rfl rfl rfl (by kernel_rfl) (by kernel_rfl) ?_ (fun K hK => ?_)
        rotate_left
        · go_simp; rfl
        refine (q_Mul _ _ _ x1 x2 _ 4 4 HR1.out HR2.out rfl (by decide) (by decide)).mono ?_
        rintro _ w9 ⟨r9, rfl, g9, h9⟩
        refine ⟨_, rfl, g9, ?_⟩
        go_simp
        refine hK _ _ ?_
        clear hK K
        have G := Lib.hid (G.out.trans g9)
        have T0 := Lib.hid (T0.out.grow g9)
        have T1 := Lib.hid (T1.out.grow g9)
        have T2 := Lib.hid (T2.out.grow g9)
        have HR0 := Lib.hid (HR0.out.grow g9)
        have HR1 := Lib.hid (HR1.out.grow g9)
        have HR2 := Lib.hid (HR2.out.grow g9)
        have H5 := Lib.hid (H5.out.grow g9)
        have H6 := Lib.hid (H6.out.grow g9)
        have H8 := Lib.hid (H8.out.grow g9)
        replace g0 := g0.trans g9
        clear g9
        have H9 := Lib.hid h9
        clear h9
        have S9 := Lib.hid (show Sz 9 ((x1 * x2)) from sz_mul SR1.out SR2.out)
        repeat (refine wpE_readB (v := ?_) g0 rfl rfl (fun w' hg => ?_) (fun K hK => ?_); rotate_left; (go_simp; rfl); go_simp; refine hK _ _ ?_; clear hK K)
        refine wpE_fn (args := ?_) rfl rfl rfl rfl rfl rfl (by kernel_rfl) (by kernel_rfl) ?_ (fun K hK => ?_)
        rotate_left
        · go_simp; rfl
        refine (q_Cmp _ _ _ (x0 * x2) (x1 * x2) (-sg) 9 9 (H8.out.v S8.out) (H9.out.v S9.out) (hmul) (by decide) (by decide)).mono ?_
        rintro _ w10 ⟨_, rfl, g10, rfl⟩
        refine ⟨_, rfl, g10, ?_⟩
        go_simp
        refine hK _ _ ?_
        clear hK K
        have G := Lib.hid (G.out.trans g10)
        have T0 := Lib.hid (T0.out.grow g10)
        have T1 := Lib.hid (T1.out.grow g10)
        have T2 := Lib.hid (T2.out.grow g10)
        have HR0 := Lib.hid (HR0.out.grow g10)
        have HR1 := Lib.hid (HR1.out.grow g10)
        have HR2 := Lib.hid (HR2.out.grow g10)
        have H5 := Lib.hid (H5.out.grow g10)
        have H6 := Lib.hid (H6.out.grow g10)
        have H8 := Lib.hid (H8.out.grow g10)
        have H9 := Lib.hid (H9.out.grow g10)
        replace g0 := g0.trans g10
        clear g10
        repeat (refine wpE_readB (v := ?_) g0 rfl rfl (fun w' hg => ?_) (fun K hK => ?_); rotate_left; (go_simp; rfl); go_simp; refine hK _ _ ?_; clear hK K)
        refine wpE_fn (args := ?_) rfl rfl rfl rfl rfl rfl (by kernel_rfl) (by kernel_rfl) ?_ (fun K hK => ?_)
        rotate_left
        · go_simp; rfl
        refine (q_Sign _ _ x2 (sg) 4 HR2.out (hsg) (by decide)).mono ?_
        rintro _ w11 ⟨_, rfl, g11, rfl⟩
        refine ⟨_, rfl, g11, ?_⟩
        go_simp
        refine hK _ _ ?_
        clear hK K
        have G := Lib.hid (G.out.trans g11)
        have T0 := Lib.hid (T0.out.grow g11)
        have T1 := Lib.hid (T1.out.grow g11)
        have T2 := Lib.hid (T2.out.grow g11)
        have HR0 := Lib.hid (HR0.out.grow g11)
        have HR1 := Lib.hid (HR1.out.grow g11)
        have HR2 := Lib.hid (HR2.out.grow g11)
        have H5 := Lib.hid (H5.out.grow g11)
        have H6 := Lib.hid (H6.out.grow g11)
        have H8 := Lib.hid (H8.out.grow g11)
        have H9 := Lib.hid (H9.out.grow g11)
        replace g0 := g0.trans g11
        clear g11
        repeat (refine wpE_readB (v := ?_) g0 rfl rfl (fun w' hg => ?_) (fun K hK => ?_); rotate_left; (go_simp; rfl); go_simp; refine hK _ _ ?_; clear hK K)
        refine wpE_nil ?_
        clear g0
        clear T0_0 T0_1 T0_2 T1_0 T1_1 T1_2 T2_0 T2_1 T2_2
        go_wp2_with fail
        go_ret
        first | exact ⟨_, rfl, G.out, rfl⟩ | exact ⟨_, rfl, G.out, by show Value.bool ((-sg : Int) == IntKind.i64.wrap (-sg)) = _; rw [wrap_small (by omega) (by omega)]; simp⟩
    · rw [hc1] at e1
      subst e1
      have hmul2 : cmpQ (x0 * x2) (x1 * x2) = 0 := by rw [hmul]; omega
      clear hmul
      have hmul := hmul2
      clear hmul2
      have e3 : c2 = c3 := by rw [← hc2, ← hc3, hE]
      subst e3
      by_cases h2 : c2 ≤ 0
      · go_wp2_with fail
        refine wp_region_fast [(0, true), (1, true), (2, true), (3, false), (4, true), (5, true), (6, true), (7, true), (8, true), (9, true), (10, true), (11, true), (12, true), (13, true), (14, true), (15, true), (16, true), (17, true), (18, true), (19, true), (20, true), (21, true), (22, true), (23, true), (24, true), (25, true), (26, true), (27, true), (29, true), (30, true), (28, false), (31, false), (32, false), (33, true), (34, true), (35, true), (36, true)] (by kernel_rfl) (by kernel_rfl) rfl (by kernel_rfl) (fun _ _ d _ _ h => by cases d <;> exact h) ?_
        have T0_0 := T0.out.c0
        have T0_1 := T0.out.c1
        have T0_2 := T0.out.c2
        have T1_0 := T1.out.c0
        have T1_1 := T1.out.c1
        have T1_2 := T1.out.c2
        have T2_0 := T2.out.c0
        have T2_1 := T2.out.c1
        have T2_2 := T2.out.c2
        have g0 : Gr w3 w3.drew := (Gr.refl _).drew
        have G := Lib.hid (G.out.trans g0)
        have T0 := Lib.hid (T0.out.grow g0)
        have T1 := Lib.hid (T1.out.grow g0)
        have T2 := Lib.hid (T2.out.grow g0)
        have HR0 := Lib.hid (HR0.out.grow g0)
        have HR1 := Lib.hid (HR1.out.grow g0)
        have HR2 := Lib.hid (HR2.out.grow g0)
        have h3n : ¬ 0 < c2 := by omega
        have hw1 : IntKind.i64.wrap 0 = 0 := by decide
        repeat (refine wpE_readB (v := ?_) g0 rfl rfl (fun w' hg => ?_) (fun K hK => ?_); rotate_left; (go_simp; rfl); go_simp; refine hK _ _ ?_; clear hK K)
        refine wpE_fn (args := ?_) rfl rfl rfl rfl rfl rfl (by kernel_rfl) (by kernel_rfl) ?_ (fun K hK => ?_)
        rotate_left
        · go_simp; rfl
        refine (q_Cmp _ _ _ x1 x0 (0) 4 4 HR1.out HR0.out (hsw) (by decide) (by decide)).mono ?_
        rintro _ w4 ⟨_, rfl, g4, rfl⟩
        refine ⟨_, rfl, g4, ?_⟩
        go_simp
        refine hK _ _ ?_
        clear hK K
        have G := Lib.hid (G.out.trans g4)
        have T0 := Lib.hid (T0.out.grow g4)
        have T1 := Lib.hid (T1.out.grow g4)
        have T2 := Lib.hid (T2.out.grow g4)
        have HR0 := Lib.hid (HR0.out.grow g4)
        have HR1 := Lib.hid (HR1.out.grow g4)
        have HR2 := Lib.hid (HR2.out.grow g4)
        replace g0 := g0.trans g4
        clear g4
        repeat (refine wpE_readB (v := ?_) g0 rfl rfl (fun w' hg => ?_) (fun K hK => ?_); rotate_left; (go_simp; rfl); go_simp; refine hK _ _ ?_; clear hK K)
        repeat (refine wpE_skip rfl rfl ?_; go_simp)
        repeat (refine wpE_readB (v := ?_) g0 rfl rfl (fun w' hg => ?_) (fun K hK => ?_); rotate_left; (go_simp; rfl); go_simp; refine hK _ _ ?_; clear hK K)
        repeat (refine wpE_skip rfl rfl ?_; go_simp)
        repeat (refine wpE_readB (v := ?_) g0 rfl rfl (fun w' hg => ?_) (fun K hK => ?_); rotate_left; (go_simp; rfl); go_simp; refine hK _ _ ?_; clear hK K)
        have HZ0 := Lib.hid (show RatV w4 (.agg #[.bool false, .slice none 0 0, .slice none 0 0]) 0 1 from (ratZero _).v (by unfold Sz; decide +kernel))
        refine wpE_fn (args := ?_) rfl rfl rfl rfl rfl rfl (by kernel_rfl) (by kernel_rfl) ?_ (fun K hK => ?_)
        rotate_left
        · go_simp; rfl
        refine (q_Add _ _ _ x0 0 x0 4 1 HR0.out HZ0.out (Rat.add_zero _) (by decide) (by decide)).mono ?_
        rintro _ w50 ⟨r50, rfl, g50, h50⟩
        refine ⟨_, rfl, g50, ?_⟩
        go_simp
        refine hK _ _ ?_
        clear hK K
        have G := Lib.hid (G.out.trans g50)
        have T0 := Lib.hid (T0.out.grow g50)
        have T1 := Lib.hid (T1.out.grow g50)
        have T2 := Lib.hid (T2.out.grow g50)
        have HR0 := Lib.hid (HR0.out.grow g50)
        have HR1 := Lib.hid (HR1.out.grow g50)
        have HR2 := Lib.hid (HR2.out.grow g50)
        have HZ0 := Lib.hid (HZ0.out.grow g50)
        replace g0 := g0.trans g50
        clear g50
        have H50 := Lib.hid h50
        clear h50
        refine wpE_fn (args := ?_) rfl rfl rfl rfl rfl rfl (by kernel_rfl) (by kernel_rfl) ?_ (fun K hK => ?_)
        rotate_left
        · go_simp; rfl
        refine (q_Add _ _ _ x1 0 x1 4 1 HR1.out HZ0.out (Rat.add_zero _) (by decide) (by decide)).mono ?_
        rintro _ w51 ⟨r51, rfl, g51, h51⟩
        refine ⟨_, rfl, g51, ?_⟩
        go_simp
        refine hK _ _ ?_
        clear hK K
        have G := Lib.hid (G.out.trans g51)
        have T0 := Lib.hid (T0.out.grow g51)
        have T1 := Lib.hid (T1.out.grow g51)
        have T2 := Lib.hid (T2.out.grow g51)
        have HR0 := Lib.hid (HR0.out.grow g51)
        have HR1 := Lib.hid (HR1.out.grow g51)
        have HR2 := Lib.hid (HR2.out.grow g51)
        have HZ0 := Lib.hid (HZ0.out.grow g51)
        have H50 := Lib.hid (H50.out.grow g51)
        replace g0 := g0.trans g51
        clear g51
        have H51 := Lib.hid h51
        clear h51
        refine wpE_fn (args := ?_) rfl rfl rfl rfl rfl rfl (by kernel_rfl) (by kernel_rfl) ?_ (fun K hK => ?_)
        rotate_left
        · go_simp; rfl
        refine (d_SameC _ _ _ x0 x1 true H50.out H51.out (decide_eq_true hE)).mono ?_
        rintro _ w52 ⟨_, rfl, g52, rfl⟩
        refine ⟨_, rfl, g52, ?_⟩
        go_simp
        refine hK _ _ ?_
        clear hK K
        have G := Lib.hid (G.out.trans g52)
        have T0 := Lib.hid (T0.out.grow g52)
        have T1 := Lib.hid (T1.out.grow g52)
        have T2 := Lib.hid (T2.out.grow g52)
        have HR0 := Lib.hid (HR0.out.grow g52)
        have HR1 := Lib.hid (HR1.out.grow g52)
        have HR2 := Lib.hid (HR2.out.grow g52)
        have HZ0 := Lib.hid (HZ0.out.grow g52)
        have H50 := Lib.hid (H50.out.grow g52)
        have H51 := Lib.hid (H51.out.grow g52)
        replace g0 := g0.trans g52
        clear g52
        repeat (refine wpE_readB (v := ?_) g0 rfl rfl (fun w' hg => ?_) (fun K hK => ?_); rotate_left; (go_simp; rfl); go_simp; refine hK _ _ ?_; clear hK K)
        repeat (refine wpE_skip rfl rfl ?_; go_simp)
        repeat (refine wpE_readB (v := ?_) g0 rfl rfl (fun w' hg => ?_) (fun K hK => ?_); rotate_left; (go_simp; rfl); go_simp; refine hK _ _ ?_; clear hK K)
        repeat (refine wpE_skip rfl rfl ?_; go_simp)
        repeat (refine wpE_readB (v := ?_) g0 rfl rfl (fun w' hg => ?_) (fun K hK => ?_); rotate_left; (go_simp; rfl); go_simp; refine hK _ _ ?_; clear hK K)
        repeat (refine wpE_skip rfl rfl ?_; go_simp)
        repeat (refine wpE_readB (v := ?_) g0 rfl rfl (fun w' hg => ?_) (fun K hK => ?_); rotate_left; (go_simp; rfl); go_simp; refine hK _ _ ?_; clear hK K)
        refine wpE_nil ?_
        clear g0
        clear T0_0 T0_1 T0_2 T1_0 T1_1 T1_2 T2_0 T2_1 T2_2
        go_wp2_with fail
        refine wp_region_fast [(0, true), (1, true), (3, true), (4, true), (7, true), (2, false), (5, false), (6, false), (8, true), (9, true), (10, true), (11, true), (13, true), (14, true), (17, true), (18, true), (12, false), (15, false), (16, false), (19, false), (20, true), (21, true), (22, true), (23, true)] (by kernel_rfl) (by kernel_rfl) rfl (by kernel_rfl) (fun _ _ d _ _ h => by cases d <;> exact h) ?_
        have T0_0 := T0.out.c0
        have T0_1 := T0.out.c1
        have T0_2 := T0.out.c2
        have T1_0 := T1.out.c0
        have T1_1 := T1.out.c1
        have T1_2 := T1.out.c2
        have T2_0 := T2.out.c0
        have T2_1 := T2.out.c1
        have T2_2 := T2.out.c2
        have g0 : Gr w52 w52.drew := (Gr.refl _).drew
        have G := Lib.hid (G.out.trans g0)
        have T0 := Lib.hid (T0.out.grow g0)
        have T1 := Lib.hid (T1.out.grow g0)
        have T2 := Lib.hid (T2.out.grow g0)
        have HR0 := Lib.hid (HR0.out.grow g0)
        have HR1 := Lib.hid (HR1.out.grow g0)
        have HR2 := Lib.hid (HR2.out.grow g0)
        repeat (refine wpE_readB (v := ?_) g0 rfl rfl (fun w' hg => ?_) (fun K hK => ?_); rotate_left; (go_simp; rfl); go_simp; refine hK _ _ ?_; clear hK K)
        refine wpE_fn (args := ?_) rfl rfl rfl rfl rfl rfl (by kernel_rfl) (by kernel_rfl) ?_ (fun K hK => ?_)
        rotate_left
        · go_simp; rfl
        refine (q_Add _ _ _ x0 x2 _ 4 4 HR0.out HR2.out rfl (by decide) (by decide)).mono ?_
        rintro _ w53 ⟨r53, rfl, g53, h53⟩
        refine ⟨_, rfl, g53, ?_⟩
        go_simp
        refine hK _ _ ?_
        clear hK K
        have G := Lib.hid (G.out.trans g53)
        have T0 := Lib.hid (T0.out.grow g53)
        have T1 := Lib.hid (T1.out.grow g53)
        have T2 := Lib.hid (T2.out.grow g53)
        have HR0 := Lib.hid (HR0.out.grow g53)
        have HR1 := Lib.hid (HR1.out.grow g53)
        have HR2 := Lib.hid (HR2.out.grow g53)
        replace g0 := g0.trans g53
        clear g53
        have H53 := Lib.hid h53
        clear h53
        have S53 := Lib.hid (show Sz 9 ((x0 + x2)) from sz_add SR0.out SR2.out)
        repeat (refine wpE_readB (v := ?_) g0 rfl rfl (fun w' hg => ?_) (fun K hK => ?_); rotate_left; (go_simp; rfl); go_simp; refine hK _ _ ?_; clear hK K)
        refine wpE_fn (args := ?_) rfl rfl rfl rfl rfl rfl (by kernel_rfl) (by kernel_rfl) ?_ (fun K hK => ?_)
        rotate_left
        · go_simp; rfl
        refine (q_Add _ _ _ x1 x2 _ 4 4 HR1.out HR2.out rfl (by decide) (by decide)).mono ?_
        rintro _ w54 ⟨r54, rfl, g54, h54⟩
        refine ⟨_, rfl, g54, ?_⟩
        go_simp
        refine hK _ _ ?_
        clear hK K
        have G := Lib.hid (G.out.trans g54)
        have T0 := Lib.hid (T0.out.grow g54)
        have T1 := Lib.hid (T1.out.grow g54)
        have T2 := Lib.hid (T2.out.grow g54)
        have HR0 := Lib.hid (HR0.out.grow g54)
        have HR1 := Lib.hid (HR1.out.grow g54)
        have HR2 := Lib.hid (HR2.out.grow g54)
        have H53 := Lib.hid (H53.out.grow g54)
        replace g0 := g0.trans g54
        clear g54
        have H54 := Lib.hid h54
        clear h54
        have S54 := Lib.hid (show Sz 9 ((x1 + x2)) from sz_add SR1.out SR2.out)
        repeat (refine wpE_readB (v := ?_) g0 rfl rfl (fun w' hg => ?_) (fun K hK => ?_); rotate_left; (go_simp; rfl); go_simp; refine hK _ _ ?_; clear hK K)
        refine wpE_fn (args := ?_) rfl rfl rfl rfl rfl rfl (by kernel_rfl) (by kernel_rfl) ?_ (fun K hK => ?_)
        rotate_left
        · go_simp; rfl
        refine (q_Cmp _ _ _ (x0 + x2) (x1 + x2) (0) 9 9 (H53.out.v S53.out) (H54.out.v S54.out) (hadd) (by decide) (by decide)).mono ?_
        rintro _ w55 ⟨_, rfl, g55, rfl⟩
        refine ⟨_, rfl, g55, ?_⟩
        go_simp
        refine hK _ _ ?_
        clear hK K
        have G := Lib.hid (G.out.trans g55)
        have T0 := Lib.hid (T0.out.grow g55)
        have T1 := Lib.hid (T1.out.grow g55)
        have T2 := Lib.hid (T2.out.grow g55)
        have HR0 := Lib.hid (HR0.out.grow g55)
        have HR1 := Lib.hid (HR1.out.grow g55)
        have HR2 := Lib.hid (HR2.out.grow g55)
        have H53 := Lib.hid (H53.out.grow g55)
        have H54 := Lib.hid (H54.out.grow g55)
        replace g0 := g0.trans g55
        clear g55
        repeat (refine wpE_readB (v := ?_) g0 rfl rfl (fun w' hg => ?_) (fun K hK => ?_); rotate_left; (go_simp; rfl); go_simp; refine hK _ _ ?_; clear hK K)
        refine wpE_fn (args := ?_) rfl rfl rfl rfl rfl rfl (by kernel_rfl) (by kernel_rfl) ?_ (fun K hK => ?_)
        rotate_left
        · go_simp; rfl
        refine (q_Mul _ _ _ x0 x2 _ 4 4 HR0.out HR2.out rfl (by decide) (by decide)).mono ?_
        rintro _ w56 ⟨r56, rfl, g56, h56⟩
        refine ⟨_, rfl, g56, ?_⟩
        go_simp
        refine hK _ _ ?_
        clear hK K
        have G := Lib.hid (G.out.trans g56)
        have T0 := Lib.hid (T0.out.grow g56)
        have T1 := Lib.hid (T1.out.grow g56)
        have T2 := Lib.hid (T2.out.grow g56)
        have HR0 := Lib.hid (HR0.out.grow g56)
        have HR1 := Lib.hid (HR1.out.grow g56)
        have HR2 := Lib.hid (HR2.out.grow g56)
        have H53 := Lib.hid (H53.out.grow g56)
        have H54 := Lib.hid (H54.out.grow g56)
        replace g0 := g0.trans g56
        clear g56
        have H56 := Lib.hid h56
        clear h56
        have S56 := Lib.hid (show Sz 9 ((x0 * x2)) from sz_mul SR0.out SR2.out)
        repeat (refine wpE_readB (v := ?_) g0 rfl rfl (fun w' hg => ?_) (fun K hK => ?_); rotate_left; (go_simp; rfl); go_simp; refine hK _ _ ?_; clear hK K)
        refine wpE_fn (args := ?_) rfl rfl rfl rfl rfl rfl (by kernel_rfl) (by kernel_rfl) ?_ (fun K hK => ?_)
        rotate_left
        · go_simp; rfl
        refine (q_Mul _ _ _ x1 x2 _ 4 4 HR1.out HR2.out rfl (by decide) (by decide)).mono ?_
        rintro _ w57 ⟨r57, rfl, g57, h57⟩
        refine ⟨_, rfl, g57, ?_⟩
        go_simp
        refine hK _ _ ?_
        clear hK K
        have G := Lib.hid (G.out.trans g57)
        have T0 := Lib.hid (T0.out.grow g57)
        have T1 := Lib.hid (T1.out.grow g57)
        have T2 := Lib.hid (T2.out.grow g57)
        have HR0 := Lib.hid (HR0.out.grow g57)
        have HR1 := Lib.hid (HR1.out.grow g57)
        have HR2 := Lib.hid (HR2.out.grow g57)
        have H53 := Lib.hid (H53.out.grow g57)
        have H54 := Lib.hid (H54.out.grow g57)
        have H56 := Lib.hid (H56.out.grow g57)
        replace g0 := g0.trans g57
        clear g57
        have H57 := Lib.hid h57
        clear h57
        have S57 := Lib.hid (show Sz 9 ((x1 * x2)) from sz_mul SR1.out SR2.out)
        repeat (refine wpE_readB (v := ?_) g0 rfl rfl (fun w' hg => ?_) (fun K hK => ?_); rotate_left; (go_simp; rfl); go_simp; refine hK _ _ ?_; clear hK K)
        refine wpE_fn (args := ?_) rfl rfl rfl rfl rfl rfl (by kernel_rfl) (by kernel_rfl) ?_ (fun K hK => ?_)
        rotate_left
        · go_simp; rfl
        refine (q_Cmp _ _ _ (x0 * x2) (x1 * x2) (0) 9 9 (H56.out.v S56.out) (H57.out.v S57.out) (hmul) (by decide) (by decide)).mono ?_
        rintro _ w58 ⟨_, rfl, g58, rfl⟩
        refine ⟨_, rfl, g58, ?_⟩
        go_simp
        refine hK _ _ ?_
        clear hK K
        have G := Lib.hid (G.out.trans g58)
        have T0 := Lib.hid (T0.out.grow g58)
        have T1 := Lib.hid (T1.out.grow g58)
        have T2 := Lib.hid (T2.out.grow g58)
        have HR0 := Lib.hid (HR0.out.grow g58)
        have HR1 := Lib.hid (HR1.out.grow g58)
        have HR2 := Lib.hid (HR2.out.grow g58)
        have H53 := Lib.hid (H53.out.grow g58)
        have H54 := Lib.hid (H54.out.grow g58)
        have H56 := Lib.hid (H56.out.grow g58)
        have H57 := Lib.hid (H57.out.grow g58)
        replace g0 := g0.trans g58
        clear g58
        repeat (refine wpE_readB (v := ?_) g0 rfl rfl (fun w' hg => ?_) (fun K hK => ?_); rotate_left; (go_simp; rfl); go_simp; refine hK _ _ ?_; clear hK K)
        refine wpE_fn (args := ?_) rfl rfl rfl rfl rfl rfl (by kernel_rfl) (by kernel_rfl) ?_ (fun K hK => ?_)
        rotate_left
        · go_simp; rfl
        refine (q_Sign _ _ x2 (sg) 4 HR2.out (hsg) (by decide)).mono ?_
        rintro _ w59 ⟨_, rfl, g59, rfl⟩
        refine ⟨_, rfl, g59, ?_⟩
        go_simp
        refine hK _ _ ?_
        clear hK K
        have G := Lib.hid (G.out.trans g59)
        have T0 := Lib.hid (T0.out.grow g59)
        have T1 := Lib.hid (T1.out.grow g59)
        have T2 := Lib.hid (T2.out.grow g59)
        have HR0 := Lib.hid (HR0.out.grow g59)
        have HR1 := Lib.hid (HR1.out.grow g59)
        have HR2 := Lib.hid (HR2.out.grow g59)
        have H53 := Lib.hid (H53.out.grow g59)
        have H54 := Lib.hid (H54.out.grow g59)
        have H56 := Lib.hid (H56.out.grow g59)
        have H57 := Lib.hid (H57.out.grow g59)
        replace g0 := g0.trans g59
        clear g59
        repeat (refine wpE_readB (v := ?_) g0 rfl rfl (fun w' hg => ?_) (fun K hK => ?_); rotate_left; (go_simp; rfl); go_simp; refine hK _ _ ?_; clear hK K)
        refine wpE_nil ?_
        clear g0
        clear T0_0 T0_1 T0_2 T1_0 T1_1 T1_2 T2_0 T2_1 T2_2
        go_wp2_with fail
        go_ret
        first | exact ⟨_, rfl, G.out, rfl⟩ | exact ⟨_, rfl, G.out, by show Value.bool ((0 : Int) == IntKind.i64.wrap (0)) = _; rw [wrap_small (by omega) (by omega)]; simp⟩
      · go_wp2_with fail
        refine wp_region_fast [(0, true), (1, true), (2, true), (3, false), (4, true), (5, true), (6, true), (7, true), (8, true), (9, true), (10, true), (11, true), (12, true), (13, true), (14, true), (15, true), (16, true), (17, true), (18, true), (19, true), (20, true), (21, true), (22, true), (23, true), (24, true), (25, true), (26, true), (27, true), (29, true), (30, true), (28, false), (31, false), (32, false), (33, true), (34, true), (35, true), (36, true)] (by kernel_rfl) (by kernel_rfl) rfl (by kernel_rfl) (fun _ _ d _ _ h => by cases d <;> exact h) ?_
        have T0_0 := T0.out.c0
        have T0_1 := T0.out.c1
        have T0_2 := T0.out.c2
        have T1_0 := T1.out.c0
        have T1_1 := T1.out.c1
        have T1_2 := T1.out.c2
        have T2_0 := T2.out.c0
        have T2_1 := T2.out.c1
        have T2_2 := T2.out.c2
        have g0 : Gr w3 w3.drew := (Gr.refl _).drew
        have G := Lib.hid (G.out.trans g0)
        have T0 := Lib.hid (T0.out.grow g0)
        have T1 := Lib.hid (T1.out.grow g0)
        have T2 := Lib.hid (T2.out.grow g0)
        have HR0 := Lib.hid (HR0.out.grow g0)
        have HR1 := Lib.hid (HR1.out.grow g0)
        have HR2 := Lib.hid (HR2.out.grow g0)
        have h2n : ¬ c2 ≤ 0 := by omega
        have hw1 : IntKind.i64.wrap 0 = 0 := by decide
        repeat (refine wpE_readB (v := ?_) g0 rfl rfl (fun w' hg => ?_) (fun K hK => ?_); rotate_left; (go_simp; rfl); go_simp; refine hK _ _ ?_; clear hK K)
        refine wpE_fn (args := ?_) rfl rfl rfl rfl rfl rfl (by kernel_rfl) (by kernel_rfl) ?_ (fun K hK => ?_)
        rotate_left
        · go_simp; rfl
        refine (q_Cmp _ _ _ x1 x0 (0) 4 4 HR1.out HR0.out (hsw) (by decide) (by decide)).mono ?_
        rintro _ w4 ⟨_, rfl, g4, rfl⟩
        refine ⟨_, rfl, g4, ?_⟩
        go_simp
        refine hK _ _ ?_
        clear hK K
        have G := Lib.hid (G.out.trans g4)
        have T0 := Lib.hid (T0.out.grow g4)
        have T1 := Lib.hid (T1.out.grow g4)
        have T2 := Lib.hid (T2.out.grow g4)
        have HR0 := Lib.hid (HR0.out.grow g4)
        have HR1 := Lib.hid (HR1.out.grow g4)
        have HR2 := Lib.hid (HR2.out.grow g4)
        replace g0 := g0.trans g4
        clear g4
        repeat (refine wpE_readB (v := ?_) g0 rfl rfl (fun w' hg => ?_) (fun K hK => ?_); rotate_left; (go_simp; rfl); go_simp; refine hK _ _ ?_; clear hK K)
        repeat (refine wpE_skip rfl rfl ?_; go_simp)
        repeat (refine wpE_readB (v := ?_) g0 rfl rfl (fun w' hg => ?_) (fun K hK => ?_); rotate_left; (go_simp; rfl); go_simp; refine hK _ _ ?_; clear hK K)
        repeat (refine wpE_skip rfl rfl ?_; go_simp)
        repeat (refine wpE_readB (v := ?_) g0 rfl rfl (fun w' hg => ?_) (fun K hK => ?_); rotate_left; (go_simp; rfl); go_simp; refine hK _ _ ?_; clear hK K)
        have HZ0 := Lib.hid (show RatV w4 (.agg #[.bool false, .slice none 0 0, .slice none 0 0]) 0 1 from (ratZero _).v (by unfold Sz; decide +kernel))
        refine wpE_fn (args := ?_) rfl rfl rfl rfl rfl rfl (by kernel_rfl) (by kernel_rfl) ?_ (fun K hK => ?_)
        rotate_left
        · go_simp; rfl
        refine (q_Add _ _ _ x0 0 x0 4 1 HR0.out HZ0.out (Rat.add_zero _) (by decide) (by decide)).mono ?_
        rintro _ w50 ⟨r50, rfl, g50, h50⟩
        refine ⟨_, rfl, g50, ?_⟩
        go_simp
        refine hK _ _ ?_
        clear hK K
        have G := Lib.hid (G.out.trans g50)
        have T0 := Lib.hid (T0.out.grow g50)
        have T1 := Lib.hid (T1.out.grow g50)
        have T2 := Lib.hid (T2.out.grow g50)
        have HR0 := Lib.hid (HR0.out.grow g50)
        have HR1 := Lib.hid (HR1.out.grow g50)
        have HR2 := Lib.hid (HR2.out.grow g50)
        have HZ0 := Lib.hid (HZ0.out.grow g50)
        replace g0 := g0.trans g50
        clear g50
        have H50 := Lib.hid h50
        clear h50
        refine wpE_fn (args := ?_) rfl rfl rfl rfl rfl rfl (by kernel_rfl) (by kernel_rfl) ?_ (fun K hK => ?_)
        rotate_left
        · go_simp; rfl
        refine (q_Add _ _ _ x1 0 x1 4 1 HR1.out HZ0.out (Rat.add_zero _) (by decide) (by decide)).mono ?_
        rintro _ w51 ⟨r51, rfl, g51, h51⟩
        refine ⟨_, rfl, g51, ?_⟩
        go_simp
        refine hK _ _ ?_
        clear hK K
        have G := Lib.hid (G.out.trans g51)
        have T0 := Lib.hid (T0.out.grow g51)
        have T1 := Lib.hid (T1.out.grow g51)
        have T2 := Lib.hid (T2.out.grow g51)
        have HR0 := Lib.hid (HR0.out.grow g51)
        have HR1 := Lib.hid (HR1.out.grow g51)
        have HR2 := Lib.hid (HR2.out.grow g51)
        have HZ0 := Lib.hid (HZ0.out.grow g51)
        have H50 := Lib.hid (H50.out.grow g51)
        replace g0 := g0.trans g51
        clear g51
        have H51 := Lib.hid h51
        clear h51
        refine wpE_fn (args := ?_) rfl rfl rfl rfl rfl rfl (by kernel_rfl) (by kernel_rfl) ?_ (fun K hK => ?_)
        rotate_left
        · go_simp; rfl
        refine (d_SameC _ _ _ x0 x1 true H50.out H51.out (decide_eq_true hE)).mono ?_
        rintro _ w52 ⟨_, rfl, g52, rfl⟩
        refine ⟨_, rfl, g52, ?_⟩
        go_simp
        refine hK _ _ ?_
        clear hK K
        have G := Lib.hid (G.out.trans g52)
        have T0 := Lib.hid (T0.out.grow g52)
        have T1 := Lib.hid (T1.out.grow g52)
        have T2 := Lib.hid (T2.out.grow g52)
        have HR0 := Lib.hid (HR0.out.grow g52)
        have HR1 := Lib.hid (HR1.out.grow g52)
        have HR2 := Lib.hid (HR2.out.grow g52)
        have HZ0 := Lib.hid (HZ0.out.grow g52)
        have H50 := Lib.hid (H50.out.grow g52)
        have H51 := Lib.hid (H51.out.grow g52)
        replace g0 := g0.trans g52
        clear g52
        repeat (refine wpE_readB (v := ?_) g0 rfl rfl (fun w' hg => ?_) (fun K hK => ?_); rotate_left; (go_simp; rfl); go_simp; refine hK _ _ ?_; clear hK K)
        repeat (refine wpE_skip rfl rfl ?_; go_simp)
        repeat (refine wpE_readB (v := ?_) g0 rfl rfl (fun w' hg => ?_) (fun K hK => ?_); rotate_left; (go_simp; rfl); go_simp; refine hK _ _ ?_; clear hK K)
        repeat (refine wpE_skip rfl rfl ?_; go_simp)
        repeat (refine wpE_readB (v := ?_) g0 rfl rfl (fun w' hg => ?_) (fun K hK => ?_); rotate_left; (go_simp; rfl); go_simp; refine hK _ _ ?_; clear hK K)
        repeat (refine wpE_skip rfl rfl ?_; go_simp)
        repeat (refine wpE_readB (v := ?_) g0 rfl rfl (fun w' hg => ?_) (fun K hK => ?_); rotate_left; (go_simp; rfl); go_simp; refine hK _ _ ?_; clear hK K)
        refine wpE_nil ?_
        clear g0
        clear T0_0 T0_1 T0_2 T1_0 T1_1 T1_2 T2_0 T2_1 T2_2
        go_wp2_with fail
        refine wp_region_fast [(0, true), (1, true), (3, true), (4, true), (7, true), (2, false), (5, false), (6, false), (8, true), (9, true), (10, true), (11, true), (13, true), (14, true), (17, true), (18, true), (12, false), (15, false), (16, false), (19, false), (20, true), (21, true), (22, true), (23, true)] (by kernel_rfl) (by kernel_rfl) rfl (by kernel_rfl) (fun _ _ d _ _ h => by cases d <;> exact h) ?_
        have T0_0 := T0.out.c0
        have T0_1 := T0.out.c1
        have T0_2 := T0.out.c2
        have T1_0 := T1.out.c0
        have T1_1 := T1.out.c1
        have T1_2 := T1.out.c2
        have T2_0 := T2.out.c0
        have T2_1 := T2.out.c1
        have T2_2 := T2.out.c2
        have g0 : Gr w52 w52.drew := (Gr.refl _).drew
        have G := Lib.hid (G.out.trans g0)
        have T0 := Lib.hid (T0.out.grow g0)
        have T1 := Lib.hid (T1.out.grow g0)
        have T2 := Lib.hid (T2.out.grow g0)
        have HR0 := Lib.hid (HR0.out.grow g0)
        have HR1 := Lib.hid (HR1.out.grow g0)
        have HR2 := Lib.hid (HR2.out.grow g0)
        repeat (refine wpE_readB (v := ?_) g0 rfl rfl (fun w' hg => ?_) (fun K hK => ?_); rotate_left; (go_simp; rfl); go_simp; refine hK _ _ ?_; clear hK K)
        refine wpE_fn (args := ?_) rfl rfl rfl rfl rfl rfl (by kernel_rfl) (by kernel_rfl) ?_ (fun K hK => ?_)
        rotate_left
        · go_simp; rfl
        refine (q_Add _ _ _ x0 x2 _ 4 4 HR0.out HR2.out rfl (by decide) (by decide)).mono ?_
        rintro _ w53 ⟨r53, rfl, g53, h53⟩
        refine ⟨_, rfl, g53, ?_⟩
        go_simp
        refine hK _ _ ?_
        clear hK K
        have G := Lib.hid (G.out.trans g53)
        have T0 := Lib.hid (T0.out.grow g53)
        have T1 := Lib.hid (T1.out.grow g53)
        have T2 := Lib.hid (T2.out.grow g53)
        have HR0 := Lib.hid (HR0.out.grow g53)
        have HR1 := Lib.hid (HR1.out.grow g53)
        have HR2 := Lib.hid (HR2.out.grow g53)
        replace g0 := g0.trans g53
        clear g53
        have H53 := Lib.hid h53
        clear h53
        have S53 := Lib.hid (show Sz 9 ((x0 + x2)) from sz_add SR0.out SR2.out)
        repeat (refine wpE_readB (v := ?_) g0 rfl rfl (fun w' hg => ?_) (fun K hK => ?_); rotate_left; (go_simp; rfl); go_simp; refine hK _ _ ?_; clear hK K)
        refine wpE_fn (args := ?_) rfl rfl rfl rfl rfl rfl (by kernel_rfl) (by kernel_rfl) ?_ (fun K hK => ?_)
        rotate_left
        · go_simp; rfl
        refine (q_Add _ _ _ x1 x2 _ 4 4 HR1.out HR2.out rfl (by decide) (by decide)).mono ?_
        rintro _ w54 ⟨r54, rfl, g54, h54⟩
        refine ⟨_, rfl, g54, ?_⟩
        go_simp
        refine hK _ _ ?_
        clear hK K
        have G := Lib.hid (G.out.trans g54)
        have T0 := Lib.hid (T0.out.grow g54)
        have T1 := Lib.hid (T1.out.grow g54)
        have T2 := Lib.hid (T2.out.grow g54)
        have HR0 := Lib.hid (HR0.out.grow g54)
        have HR1 := Lib.hid (HR1.out.grow g54)
        have HR2 := Lib.hid (HR2.out.grow g54)
        have H53 := Lib.hid (H53.out.grow g54)
        replace g0 := g0.trans g54
        clear g54
        have H54 := Lib.hid h54
        clear h54
        have S54 := Lib.hid (show Sz 9 ((x1 + x2)) from sz_add SR1.out SR2.out)
        repeat (refine wpE_readB (v := ?_) g0 rfl rfl (fun w' hg => ?_) (fun K hK => ?_); rotate_left; (go_simp; rfl); go_simp; refine hK _ _ ?_; clear hK K)
        refine wpE_fn (args := ?_) rfl rfl rfl rfl rfl rfl (by kernel_rfl) (by kernel_rfl) ?_ (fun K hK => ?_)
        rotate_left
        · go_simp; rfl
        refine (q_Cmp _ _ _ (x0 + x2) (x1 + x2) (0) 9 9 (H53.out.v S53.out) (H54.out.v S54.out) (hadd) (by decide) (by decide)).mono ?_
        rintro _ w55 ⟨_, rfl, g55, rfl⟩
        refine ⟨_, rfl, g55, ?_⟩
        go_simp
        refine hK _ _ ?_
        clear hK K
        have G := Lib.hid (G.out.trans g55)
        have T0 := Lib.hid (T0.out.grow g55)
        have T1 := Lib.hid (T1.out.grow g55)
        have T2 := Lib.hid (T2.out.grow g55)
        have HR0 := Lib.hid (HR0.out.grow g55)
        have HR1 := Lib.hid (HR1.out.grow g55)
        have HR2 := Lib.hid (HR2.out.grow g55)
        have H53 := Lib.hid (H53.out.grow g55)
        have H54 := Lib.hid (H54.out.grow g55)
        replace g0 := g0.trans g55
        clear g55
        repeat (refine wpE_readB (v := ?_) g0 rfl rfl (fun w' hg => ?_) (fun K hK => ?_); rotate_left; (go_simp; rfl); go_simp; refine hK _ _ ?_; clear hK K)
        refine wpE_fn (args := ?_) rfl rfl rfl rfl rfl rfl (by kernel_rfl) (by kernel_rfl) ?_ (fun K hK => ?_)
        rotate_left
        · go_simp; rfl
        refine (q_Mul _ _ _ x0 x2 _ 4 4 HR0.out HR2.out rfl (by decide) (by decide)).mono ?_
        rintro _ w56 ⟨r56, rfl, g56, h56⟩
        refine ⟨_, rfl, g56, ?_⟩
        go_simp
        refine hK _ _ ?_
        clear hK K
        have G := Lib.hid (G.out.trans g56)
        have T0 := Lib.hid (T0.out.grow g56)
        have T1 := Lib.hid (T1.out.grow g56)
        have T2 := Lib.hid (T2.out.grow g56)
        have HR0 := Lib.hid (HR0.out.grow g56)
        have HR1 := Lib.hid (HR1.out.grow g56)
        have HR2 := Lib.hid (HR2.out.grow g56)
        have H53 := Lib.hid (H53.out.grow g56)
        have H54 := Lib.hid (H54.out.grow g56)
        replace g0 := g0.trans g56
        clear g56
        have H56 := Lib.hid h56
        clear h56
        have S56 := Lib.hid (show Sz 9 ((x0 * x2)) from sz_mul SR0.out SR2.out)
        repeat (refine wpE_readB (v := ?_) g0 rfl rfl (fun w' hg => ?_) (fun K hK => ?_); rotate_left; (go_simp; rfl); go_simp; refine hK _ _ ?_; clear hK K)
        refine wpE_fn (args := ?_) rfl rfl rfl rfl rfl rfl (by kernel_rfl) (by kernel_rfl) ?_ (fun K hK => ?_)
        rotate_left
        · go_simp; rfl
        refine (q_Mul _ _ _ x1 x2 _ 4 4 HR1.out HR2.out rfl (by decide) (by decide)).mono ?_
        rintro _ w57 ⟨r57, rfl, g57, h57⟩
        refine ⟨_, rfl, g57, ?_⟩
        go_simp
        refine hK _ _ ?_
        clear hK K
        have G := Lib.hid (G.out.trans g57)
        have T0 := Lib.hid (T0.out.grow g57)
        have T1 := Lib.hid (T1.out.grow g57)
        have T2 := Lib.hid (T2.out.grow g57)
        have HR0 := Lib.hid (HR0.out.grow g57)
        have HR1 := Lib.hid (HR1.out.grow g57)
        have HR2 := Lib.hid (HR2.out.grow g57)
        have H53 := Lib.hid (H53.out.grow g57)
        have H54 := Lib.hid (H54.out.grow g57)
        have H56 := Lib.hid (H56.out.grow g57)
        replace g0 := g0.trans g57
        clear g57
        have H57 := Lib.hid h57
        clear h57
        have S57 := Lib.hid (show Sz 9 ((x1 * x2)) from sz_mul SR1.out SR2.out)
        repeat (refine wpE_readB (v := ?_) g0 rfl rfl (fun w' hg => ?_) (fun K hK => ?_); rotate_left; (go_simp; rfl); go_simp; refine hK _ _ ?_; clear hK K)
        refine wpE_fn (args := ?_) rfl rfl rfl rfl rfl rfl (by kernel_rfl) (by kernel_rfl) ?_ (fun K hK => ?_)
        rotate_left
        · go_simp; rfl
        refine (q_Cmp _ _ _ (x0 * x2) (x1 * x2) (0) 9 9 (H56.out.v S56.out) (H57.out.v S57.out) (hmul) (by decide) (by decide)).mono ?_
        rintro _ w58 ⟨_, rfl, g58, rfl⟩
        refine ⟨_, rfl, g58, ?_⟩
        go_simp
        refine hK _ _ ?_
        clear hK K
        have G := Lib.hid (G.out.trans g58)
        have T0 := Lib.hid (T0.out.grow g58)
        have T1 := Lib.hid (T1.out.grow g58)
        have T2 := Lib.hid (T2.out.grow g58)
        have HR0 := Lib.hid (HR0.out.grow g58)
        have HR1 := Lib.hid (HR1.out.grow g58)
        have HR2 := Lib.hid (HR2.out.grow g58)
        have H53 := Lib.hid (H53.out.grow g58)
        have H54 := Lib.hid (H54.out.grow g58)
        have H56 := Lib.hid (H56.out.grow g58)
        have H57 := Lib.hid (H57.out.grow g58)
        replace g0 := g0.trans g58
        clear g58
        repeat (refine wpE_readB (v := ?_) g0 rfl rfl (fun w' hg => ?_) (fun K hK => ?_); rotate_left; (go_simp; rfl); go_simp; refine hK _ _ ?_; clear hK K)
        refine wpE_fn (args := ?_) rfl rfl rfl rfl rfl rfl (by kernel_rfl) (by kernel_rfl) ?_ (fun K hK => ?_)
        rotate_left
        · go_simp; rfl
        refine (q_Sign _ _ x2 (sg) 4 HR2.out (hsg) (by decide)).mono ?_
        rintro _ w59 ⟨_, rfl, g59, rfl⟩
        refine ⟨_, rfl, g59, ?_⟩
        go_simp
        refine hK _ _ ?_
        clear hK K
        have G := Lib.hid (G.out.trans g59)
        have T0 := Lib.hid (T0.out.grow g59)
        have T1 := Lib.hid (T1.out.grow g59)
        have T2 := Lib.hid (T2.out.grow g59)
        have HR0 := Lib.hid (HR0.out.grow g59)
        have HR1 := Lib.hid (HR1.out.grow g59)
        have HR2 := Lib.hid (HR2.out.grow g59)
        have H53 := Lib.hid (H53.out.grow g59)
        have H54 := Lib.hid (H54.out.grow g59)
        have H56 := Lib.hid (H56.out.grow g59)
        have H57 := Lib.hid (H57.out.grow g59)
        replace g0 := g0.trans g59
        clear g59
        repeat (refine wpE_readB (v := ?_) g0 rfl rfl (fun w' hg => ?_) (fun K hK => ?_); rotate_left; (go_simp; rfl); go_simp; refine hK _ _ ?_; clear hK K)
        refine wpE_nil ?_
        clear g0
        clear T0_0 T0_1 T0_2 T1_0 T1_1 T1_2 T2_0 T2_1 T2_2
        go_wp2_with fail
        go_ret
        first | exact ⟨_, rfl, G.out, rfl⟩ | exact ⟨_, rfl, G.out, by show Value.bool ((0 : Int) == IntKind.i64.wrap (0)) = _; rw [wrap_small (by omega) (by omega)]; simp⟩
    · rw [hc1] at e1
      subst e1
      have hmul2 : cmpQ (x0 * x2) (x1 * x2) = sg := by rw [hmul]; omega
      clear hmul
      have hmul := hmul2
      clear hmul2
      go_wp2_with fail
      refine wp_region_fast [(0, true), (1, true), (2, true), (3, false), (4, true), (5, true), (6, true), (7, true), (8, true), (9, true), (10, true), (11, true), (12, true), (13, true), (14, true), (15, true), (16, true), (17, true), (18, true), (19, true), (20, true), (21, true), (22, true), (23, true), (24, true), (25, true), (26, true), (27, true), (29, true), (30, true), (28, false), (31, false), (32, false), (33, true), (34, true), (35, true), (36, true)] (by kernel_rfl) (by kernel_rfl) rfl (by kernel_rfl) (fun _ _ d _ _ h => by cases d <;> exact h) ?_
      have T0_0 := T0.out.c0
      have T0_1 := T0.out.c1
      have T0_2 := T0.out.c2
      have T1_0 := T1.out.c0
      have T1_1 := T1.out.c1
      have T1_2 := T1.out.c2
      have T2_0 := T2.out.c0
      have T2_1 := T2.out.c1
      have T2_2 := T2.out.c2
      have g0 : Gr w3 w3.drew := (Gr.refl _).drew
      have G := Lib.hid (G.out.trans g0)
      have T0 := Lib.hid (T0.out.grow g0)
      have T1 := Lib.hid (T1.out.grow g0)
      have T2 := Lib.hid (T2.out.grow g0)
      have HR0 := Lib.hid (HR0.out.grow g0)
      have HR1 := Lib.hid (HR1.out.grow g0)
      have HR2 := Lib.hid (HR2.out.grow g0)
      have hw1 : IntKind.i64.wrap (-1) = -1 := by decide
      repeat (refine wpE_readB (v := ?_) g0 rfl rfl (fun w' hg => ?_) (fun K hK => ?_); rotate_left; (go_simp; rfl); go_simp; refine hK _ _ ?_; clear hK K)
      refine wpE_fn (args := ?_) rfl rfl rfl rfl rfl rfl (by kernel_rfl) (by kernel_rfl) ?_ (fun K hK => ?_)
      rotate_left
      · go_simp; rfl
      refine (q_Cmp _ _ _ x1 x0 (-1) 4 4 HR1.out HR0.out (hsw) (by decide) (by decide)).mono ?_
      rintro _ w4 ⟨_, rfl, g4, rfl⟩
      refine ⟨_, rfl, g4, ?_⟩
      go_simp
      refine hK _ _ ?_
      clear hK K
      have G := Lib.hid (G.out.trans g4)
      have T0 := Lib.hid (T0.out.grow g4)
      have T1 := Lib.hid (T1.out.grow g4)
      have T2 := Lib.hid (T2.out.grow g4)
      have HR0 := Lib.hid (HR0.out.grow g4)
      have HR1 := Lib.hid (HR1.out.grow g4)
      have HR2 := Lib.hid (HR2.out.grow g4)
      replace g0 := g0.trans g4
      clear g4
      repeat (refine wpE_readB (v := ?_) g0 rfl rfl (fun w' hg => ?_) (fun K hK => ?_); rotate_left; (go_simp; rfl); go_simp; refine hK _ _ ?_; clear hK K)
      repeat (refine wpE_skip rfl rfl ?_; go_simp)
      repeat (refine wpE_readB (v := ?_) g0 rfl rfl (fun w' hg => ?_) (fun K hK => ?_); rotate_left; (go_simp; rfl); go_simp; refine hK _ _ ?_; clear hK K)
      repeat (refine wpE_skip rfl rfl ?_; go_simp)
      repeat (refine wpE_readB (v := ?_) g0 rfl rfl (fun w' hg => ?_) (fun K hK => ?_); rotate_left; (go_simp; rfl); go_simp; refine hK _ _ ?_; clear hK K)
      repeat (refine wpE_skip rfl rfl ?_; go_simp)
      repeat (refine wpE_readB (v := ?_) g0 rfl rfl (fun w' hg => ?_) (fun K hK => ?_); rotate_left; (go_simp; rfl); go_simp; refine hK _ _ ?_; clear hK K)
      refine wpE_nil ?_
      clear g0
      clear T0_0 T0_1 T0_2 T1_0 T1_1 T1_2 T2_0 T2_1 T2_2
      go_wp2_with fail
      refine wp_region_fast [(0, true), (1, true), (3, true), (4, true), (7, true), (2, false), (5, false), (6, false), (8, true), (9, true), (10, true), (11, true), (13, true), (14, true), (17, true), (18, true), (12, false), (15, false), (16, false), (19, false), (20, true), (21, true), (22, true), (23, true)] (by kernel_rfl) (by kernel_rfl) rfl (by kernel_rfl) (fun _ _ d _ _ h => by cases d <;> exact h) ?_
      have T0_0 := T0.out.c0
      have T0_1 := T0.out.c1
      have T0_2 := T0.out.c2
      have T1_0 := T1.out.c0
      have T1_1 := T1.out.c1
      have T1_2 := T1.out.c2
      have T2_0 := T2.out.c0
      have T2_1 := T2.out.c1
      have T2_2 := T2.out.c2
      have g0 : Gr w4 w4.drew := (Gr.refl _).drew
      have G := Lib.hid (G.out.trans g0)
      have T0 := Lib.hid (T0.out.grow g0)
      have T1 := Lib.hid (T1.out.grow g0)
      have T2 := Lib.hid (T2.out.grow g0)
      have HR0 := Lib.hid (HR0.out.grow g0)
      have HR1 := Lib.hid (HR1.out.grow g0)
      have HR2 := Lib.hid (HR2.out.grow g0)
      repeat (refine wpE_readB (v := ?_) g0 rfl rfl (fun w' hg => ?_) (fun K hK => ?_); rotate_left; (go_simp; rfl); go_simp; refine hK _ _ ?_; clear hK K)
      refine wpE_fn (args := ?_) rfl rfl rfl rfl rfl rfl (by kernel_rfl) (by kernel_rfl) ?_ (fun K hK => ?_)
      rotate_left
      · go_simp; rfl
      refine (q_Add _ _ _ x0 x2 _ 4 4 HR0.out HR2.out rfl (by decide) (by decide)).mono ?_
      rintro _ w5 ⟨r5, rfl, g5, h5⟩
      refine ⟨_, rfl, g5, ?_⟩
      go_simp
      refine hK _ _ ?_
      clear hK K
      have G := Lib.hid (G.out.trans g5)
      have T0 := Lib.hid (T0.out.grow g5)
      have T1 := Lib.hid (T1.out.grow g5)
      have T2 := Lib.hid (T2.out.grow g5)
      have HR0 := Lib.hid (HR0.out.grow g5)
      have HR1 := Lib.hid (HR1.out.grow g5)
      have HR2 := Lib.hid (HR2.out.grow g5)
      replace g0 := g0.trans g5
      clear g5
      have H5 := Lib.hid h5
      clear h5
      have S5 := Lib.hid (show Sz 9 ((x0 + x2)) from sz_add SR0.out SR2.out)
      repeat (refine wpE_readB (v := ?_) g0 rfl rfl (fun w' hg => ?_) (fun K hK => ?_); rotate_left; (go_simp; rfl); go_simp; refine hK _ _ ?_; clear hK K)
      refine wpE_fn (args := ?_) rfl rfl rfl rfl rfl rfl (by kernel_rfl) (by kernel_rfl) ?_ (fun K hK => ?_)
      rotate_left
      · go_simp; rfl
      refine (q_Add _ _ _ x1 x2 _ 4 4 HR1.out HR2.out rfl (by decide) (by decide)).mono ?_
      rintro _ w6 ⟨r6, rfl, g6, h6⟩
      refine ⟨_, rfl, g6, ?_⟩
      go_simp
      refine hK _ _ ?_
      clear hK K
      have G := Lib.hid (G.out.trans g6)
      have T0 := Lib.hid (T0.out.grow g6)
      have T1 := Lib.hid (T1.out.grow g6)
      have T2 := Lib.hid (T2.out.grow g6)
      have HR0 := Lib.hid (HR0.out.grow g6)
      have HR1 := Lib.hid (HR1.out.grow g6)
      have HR2 := Lib.hid (HR2.out.grow g6)
      have H5 := Lib.hid (H5.out.grow g6)
      replace g0 := g0.trans g6
      clear g6
      have H6 := Lib.hid h6
      clear h6
      have S6 := Lib.hid (show Sz 9 ((x1 + x2)) from sz_add SR1.out SR2.out)
      repeat (refine wpE_readB (v := ?_) g0 rfl rfl (fun w' hg => ?_) (fun K hK => ?_); rotate_left; (go_simp; rfl); go_simp; refine hK _ _ ?_; clear hK K)
      refine wpE_fn (args := ?_) rfl rfl rfl rfl rfl rfl (by kernel_rfl) (by kernel_rfl) ?_ (fun K hK => ?_)
      rotate_left
      · go_simp; rfl
      refine (q_Cmp _ _ _ (x0 + x2) (x1 + x2) (1) 9 9 (H5.out.v S5.out) (H6.out.v S6.out) (hadd) (by decide) (by decide)).mono ?_
      rintro _ w7 ⟨_, rfl, g7, rfl⟩
      refine ⟨_, rfl, g7, ?_⟩
      go_simp
      refine hK _ _ ?_
      clear hK K
      have G := Lib.hid (G.out.trans g7)
      have T0 := Lib.hid (T0.out.grow g7)
      have T1 := Lib.hid (T1.out.grow g7)
      have T2 := Lib.hid (T2.out.grow g7)
      have HR0 := Lib.hid (HR0.out.grow g7)
      have HR1 := Lib.hid (HR1.out.grow g7)
      have HR2 := Lib.hid (HR2.out.grow g7)
      have H5 := Lib.hid (H5.out.grow g7)
      have H6 := Lib.hid (H6.out.grow g7)
      replace g0 := g0.trans g7
      clear g7
      repeat (refine wpE_readB (v := ?_) g0 rfl rfl (fun w' hg => ?_) (fun K hK => ?_); rotate_left; (go_simp; rfl); go_simp; refine hK _ _ ?_; clear hK K)
      refine wpE_fn (args := ?_) rfl rfl rfl rfl rfl rfl (by kernel_rfl) (by kernel_rfl) ?_ (fun K hK => ?_)
      rotate_left
      · go_simp; rfl
      refine (q_Mul _ _ _ x0 x2 _ 4 4 HR0.out HR2.out rfl (by decide) (by decide)).mono ?_
      rintro _ w8 ⟨r8, rfl, g8, h8⟩
      refine ⟨_, rfl, g8, ?_⟩
      go_simp
      refine hK _ _ ?_
      clear hK K
      have G := Lib.hid (G.out.trans g8)
      have T0 := Lib.hid (T0.out.grow g8)
      have T1 := Lib.hid (T1.out.grow g8)
      have T2 := Lib.hid (T2.out.grow g8)
      have HR0 := Lib.hid (HR0.out.grow g8)
      have HR1 := Lib.hid (HR1.out.grow g8)
      have HR2 := Lib.hid (HR2.out.grow g8)
      have H5 := Lib.hid (H5.out.grow g8)
      have H6 := Lib.hid (H6.out.grow g8)
      replace g0 := g0.trans g8
      clear g8
      have H8 := Lib.hid h8
      clear h8
      have S8 := Lib.hid (show Sz 9 ((x0 * x2)) from sz_mul SR0.out SR2.out)
      repeat (refine wpE_readB (v := ?_) g0 rfl rfl (fun w' hg => ?_) (fun K hK => ?_); rotate_left; (go_simp; rfl); go_simp; refine hK _ _ ?_; clear hK K)
      refine wpE_fn (args := ?_) rfl rfl rfl rfl rfl rfl (by kernel_rfl) (by kernel_rfl) ?_ (fun K hK => ?_)
      rotate_left
      · go_simp; rfl
      refine (q_Mul _ _ _ x1 x2 _ 4 4 HR1.out HR2.out rfl (by decide) (by decide)).mono ?_
      rintro _ w9 ⟨r9, rfl, g9, h9⟩
      refine ⟨_, rfl, g9, ?_⟩
      go_simp
      refine hK _ _ ?_
      clear hK K
      have G := Lib.hid (G.out.trans g9)
      have T0 := Lib.hid (T0.out.grow g9)
      have T1 := Lib.hid (T1.out.grow g9)
      have T2 := Lib.hid (T2.out.grow g9)
      have HR0 := Lib.hid (HR0.out.grow g9)
      have HR1 := Lib.hid (HR1.out.grow g9)
      have HR2 := Lib.hid (HR2.out.grow g9)
      have H5 := Lib.hid (H5.out.grow g9)
      have H6 := Lib.hid (H6.out.grow g9)
      have H8 := Lib.hid (H8.out.grow g9)
      replace g0 := g0.trans g9
      clear g9
      have H9 := Lib.hid h9
      clear h9
      have S9 := Lib.hid (show Sz 9 ((x1 * x2)) from sz_mul SR1.out SR2.out)
      repeat (refine wpE_readB (v := ?_) g0 rfl rfl (fun w' hg => ?_) (fun K hK => ?_); rotate_left; (go_simp; rfl); go_simp; refine hK _ _ ?_; clear hK K)
      refine wpE_fn (args := ?_) rfl rfl rfl rfl rfl rfl (by kernel_rfl) (by kernel_rfl) ?_ (fun K hK => ?_)
      rotate_left
      · go_simp; rfl
      refine (q_Cmp _ _ _ (x0 * x2) (x1 * x2) (sg) 9 9 (H8.out.v S8.out) (H9.out.v S9.out) (hmul) (by decide) (by decide)).mono ?_
      rintro _ w10 ⟨_, rfl, g10, rfl⟩
      refine ⟨_, rfl, g10, ?_⟩
      go_simp
      refine hK _ _ ?_
      clear hK K
      have G := Lib.hid (G.out.trans g10)
      have T0 := Lib.hid (T0.out.grow g10)
      have T1 := Lib.hid (T1.out.grow g10)
      have T2 := Lib.hid (T2.out.grow g10)
      have HR0 := Lib.hid (HR0.out.grow g10)
      have HR1 := Lib.hid (HR1.out.grow g10)
      have HR2 := Lib.hid (HR2.out.grow g10)
      have H5 := Lib.hid (H5.out.grow g10)
      have H6 := Lib.hid (H6.out.grow g10)
      have H8 := Lib.hid (H8.out.grow g10)
      have H9 := Lib.hid (H9.out.grow g10)
      replace g0 := g0.trans g10
      clear g10
      repeat (refine wpE_readB (v := ?_) g0 rfl rfl (fun w' hg => ?_) (fun K hK => ?_); rotate_left; (go_simp; rfl); go_simp; refine hK _ _ ?_; clear hK K)
      refine wpE_fn (args := ?_) rfl rfl rfl rfl rfl rfl (by kernel_rfl) (by kernel_rfl) ?_ (fun K hK => ?_)
      rotate_left
      · go_simp; rfl
      refine (q_Sign _ _ x2 (sg) 4 HR2.out (hsg) (by decide)).mono ?_
      rintro _ w11 ⟨_, rfl, g11, rfl⟩
      refine ⟨_, rfl, g11, ?_⟩
      go_simp
      refine hK _ _ ?_
      clear hK K
      have G := Lib.hid (G.out.trans g11)
      have T0 := Lib.hid (T0.out.grow g11)
      have T1 := Lib.hid (T1.out.grow g11)
      have T2 := Lib.hid (T2.out.grow g11)
      have HR0 := Lib.hid (HR0.out.grow g11)
      have HR1 := Lib.hid (HR1.out.grow g11)
      have HR2 := Lib.hid (HR2.out.grow g11)
      have H5 := Lib.hid (H5.out.grow g11)
      have H6 := Lib.hid (H6.out.grow g11)
      have H8 := Lib.hid (H8.out.grow g11)
      have H9 := Lib.hid (H9.out.grow g11)
      replace g0 := g0.trans g11
      clear g11
      repeat (refine wpE_readB (v := ?_) g0 rfl rfl (fun w' hg => ?_) (fun K hK => ?_); rotate_left; (go_simp; rfl); go_simp; refine hK _ _ ?_; clear hK K)
      refine wpE_nil ?_
      clear g0
      clear T0_0 T0_1 T0_2 T1_0 T1_1 T1_2 T2_0 T2_1 T2_2
      go_wp2_with fail
      go_ret
      first | exact ⟨_, rfl, G.out, rfl⟩ | exact ⟨_, rfl, G.out, by show Value.bool ((sg : Int) == IntKind.i64.wrap (sg)) = _; rw [wrap_small (by omega) (by omega)]; simp⟩
end Go.Proofs.YtmcgkglmlfbijaaGreatDoor

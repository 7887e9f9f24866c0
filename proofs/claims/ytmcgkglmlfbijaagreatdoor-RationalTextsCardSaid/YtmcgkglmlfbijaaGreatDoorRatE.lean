/-
  Fractions: the operations by value.
-/
import Derived.Test.YtmcgkglmlfbijaaGreatDoorRatD
namespace Go.Proofs.YtmcgkglmlfbijaaGreatDoor
open Go.RowKit Go.Lib
set_option linter.unusedVariables false
set_option linter.unusedSimpArgs false

set_option maxRecDepth 100000 in
set_option maxHeartbeats 3200000 in
theorem rat_crossAdd (w : World) (va vb : Value) (z z' : Int) (q q' : Nat) (N D : Int) (KK L M : Nat) (ha : RatP w va z q L) (hb : RatP w vb z' q' M) (hL : L ≤ 100000) (hM : M ≤ 100000) (hKK : KK ≤ 1000000) (hD : D ≠ 0)
    (hF : ∀ w' v1 v2 v3 v4, IntV w' v1 z (L + 1) → IntV w' v2 q (L + 1) → IntV w' v3 z' (M + 1) → IntV w' v4 q' (M + 1) → Calls Tryz.prog 71 #[v1, v2, v3, v4] w' (Ret w' fun x w'' => ∃ u v, x = .tuple #[u, v] ∧ IntV w'' u N KK ∧ IntV w'' v D KK)) :
    Calls Tryz.prog 70 #[va, vb, .func (.func 71) #[] #[]] w (Ret w fun r w' => RatC w' r (Rat.divInt N D)) := by
  have HA := Lib.hid ha
  have HB := Lib.hid hb
  have HF := Lib.hid hF
  obtain ⟨s0, p0, k0, c0, e0, m0, n0, rfl⟩ := ha.agg
  obtain ⟨s1, p1, k1, c1, e1, m1, n1, rfl⟩ := hb.agg
  have HN := Lib.hid (ha.num)
  have HM := Lib.hid (hb.num)
  clear ha hb hF
  have B := box333 w (.bool s0) (.slice p0 k0 c0) (.slice e0 m0 n0) (.bool s1) (.slice p1 k1 c1) (.slice e1 m1 n1) (.bool false) (.slice none 0 0) (.slice none 0 0) 27 27 27
  have Hb1 := Lib.hid (show ¬ w.heap.size + 1 < w.heap.size by omega)
  have Hb2 := Lib.hid (show ¬ w.heap.size + 1 + 1 < w.heap.size by omega)
  have Hd01 := Lib.hid (show w.heap.size ≠ w.heap.size + 1 by omega)
  have Hd02 := Lib.hid (show w.heap.size ≠ w.heap.size + 1 + 1 by omega)
  have Hd12 := Lib.hid (show w.heap.size + 1 ≠ w.heap.size + 1 + 1 by omega)
  go_enter Tryz.func70, Tryz.ntmps70
  go_wp2_with fail
  generalize ((w.alloc _).alloc _).alloc _ = W at B ⊢
  obtain ⟨G0, t0, t1, t2⟩ := B
  generalize w.heap.size + 1 + 1 = b2 at t2 Hb2 Hd02 Hd12 ⊢
  generalize w.heap.size + 1 = b1 at t1 Hb1 Hd01 Hd12 ⊢
  generalize hb0 : w.heap.size = b0 at t0 Hd01 Hd02 ⊢
  have Hb0 := Lib.hid (show ¬ b0 < w.heap.size by omega)
  have G := Lib.hid G0
  have T0 := Lib.hid t0
  have T1 := Lib.hid t1
  have T2 := Lib.hid t2
  clear hb0 G0 t0 t1 t2
  have HA := Lib.hid (HA.out.grow G.out)
  have HB := Lib.hid (HB.out.grow G.out)
  have HN := Lib.hid (HN.out.grow G.out)
  have HM := Lib.hid (HM.out.grow G.out)
  refine wp_region_fast [(0, true), (1, true), (2, true), (3, true), (5, true), (6, true), (7, true), (4, false), (8, false), (9, false), (10, true), (11, true), (12, false), (13, false)] (by kernel_rfl) (by kernel_rfl) rfl (by kernel_rfl) (fun _ _ d _ _ h => by cases d <;> exact h) ?_
  have T0_0 := T0.out.c0
  have T0_1 := T0.out.c1
  have T0_2 := T0.out.c2
  have T1_0 := T1.out.c0
  have T1_1 := T1.out.c1
  have T1_2 := T1.out.c2
  have T2_0 := T2.out.c0
  have T2_1 := T2.out.c1
  have T2_2 := T2.out.c2
  have g0 : Gr W W.drew := (Gr.refl _).drew
  have G := Lib.hid (G.out.trans g0)
  have T0 := Lib.hid (T0.out.grow g0)
  have T1 := Lib.hid (T1.out.grow g0)
  have T2 := Lib.hid (T2.out.grow g0)
  have HA := Lib.hid (HA.out.grow g0)
  have HB := Lib.hid (HB.out.grow g0)
  have HN := Lib.hid (HN.out.grow g0)
  have HM := Lib.hid (HM.out.grow g0)
  repeat (refine wpE_readB (v := ?_) g0 rfl rfl (fun w' hg => ?_) (fun K hK => ?_); rotate_left; (go_simp; rfl); go_simp; refine hK _ _ ?_; clear hK K)
  refine wpE_fn (args := ?_) rfl rfl rfl rfl rfl rfl (by kernel_rfl) (by kernel_rfl) ?_ (fun K hK => ?_)
  rotate_left
  · go_simp; rfl
  refine (p_den _ _ z q L HA.out hL).mono ?_
  rintro _ w1 ⟨r1, rfl, g1, h1⟩
  refine ⟨_, rfl, g1, ?_⟩
  go_simp
  refine hK _ _ ?_
  clear hK K
  have G := Lib.hid (G.out.trans g1)
  have T0 := Lib.hid (T0.out.grow g1)
  have T1 := Lib.hid (T1.out.grow g1)
  have T2 := Lib.hid (T2.out.grow g1)
  have HA := Lib.hid (HA.out.grow g1)
  have HB := Lib.hid (HB.out.grow g1)
  have HN := Lib.hid (HN.out.grow g1)
  have HM := Lib.hid (HM.out.grow g1)
  replace g0 := g0.trans g1
  clear g1
  have H1 := Lib.hid h1
  clear h1
  refine wpE_fn (args := ?_) rfl rfl rfl rfl rfl rfl (by kernel_rfl) (by kernel_rfl) ?_ (fun K hK => ?_)
  rotate_left
  · go_simp; rfl
  refine (p_den _ _ z' q' M HB.out hM).mono ?_
  rintro _ w2 ⟨r2, rfl, g2, h2⟩
  refine ⟨_, rfl, g2, ?_⟩
  go_simp
  refine hK _ _ ?_
  clear hK K
  have G := Lib.hid (G.out.trans g2)
  have T0 := Lib.hid (T0.out.grow g2)
  have T1 := Lib.hid (T1.out.grow g2)
  have T2 := Lib.hid (T2.out.grow g2)
  have HA := Lib.hid (HA.out.grow g2)
  have HB := Lib.hid (HB.out.grow g2)
  have HN := Lib.hid (HN.out.grow g2)
  have HM := Lib.hid (HM.out.grow g2)
  have H1 := Lib.hid (H1.out.grow g2)
  replace g0 := g0.trans g2
  clear g2
  have H2 := Lib.hid h2
  clear h2
  refine wpE_fn (args := ?_) rfl rfl rfl rfl rfl rfl (by kernel_rfl) (by kernel_rfl) ?_ (fun K hK => ?_)
  rotate_left
  · go_simp; rfl
  refine (HF.out _ _ _ _ _ (HN.out.mono (Nat.le_succ L)) H1.out (HM.out.mono (Nat.le_succ M)) H2.out).mono ?_
  rintro _ w3 ⟨_, rfl, g3, u, v, rfl, hu, hv⟩
  refine ⟨_, rfl, g3, ?_⟩
  go_simp
  refine hK _ _ ?_
  clear hK K
  have G := Lib.hid (G.out.trans g3)
  have T0 := Lib.hid (T0.out.grow g3)
  have T1 := Lib.hid (T1.out.grow g3)
  have T2 := Lib.hid (T2.out.grow g3)
  have HA := Lib.hid (HA.out.grow g3)
  have HB := Lib.hid (HB.out.grow g3)
  have HN := Lib.hid (HN.out.grow g3)
  have HM := Lib.hid (HM.out.grow g3)
  have H1 := Lib.hid (H1.out.grow g3)
  have H2 := Lib.hid (H2.out.grow g3)
  replace g0 := g0.trans g3
  clear g3
  have HU := Lib.hid hu
  have HV := Lib.hid hv
  clear hu hv
  repeat (refine wpE_readB (v := ?_) g0 rfl rfl (fun w' hg => ?_) (fun K hK => ?_); rotate_left; (go_simp; rfl); go_simp; refine hK _ _ ?_; clear hK K)
  refine wpE_fn (args := ?_) rfl rfl rfl rfl rfl rfl (by kernel_rfl) (by kernel_rfl) ?_ (fun K hK => ?_)
  rotate_left
  · go_simp; rfl
  refine (rat_reduced _ _ _ N D KK KK HU.out HV.out hD hKK hKK).mono ?_
  rintro _ w4 ⟨r4, rfl, g4, h4⟩
  refine ⟨_, rfl, g4, ?_⟩
  go_simp
  refine hK _ _ ?_
  clear hK K
  have G := Lib.hid (G.out.trans g4)
  have T0 := Lib.hid (T0.out.grow g4)
  have T1 := Lib.hid (T1.out.grow g4)
  have T2 := Lib.hid (T2.out.grow g4)
  have HU := Lib.hid (HU.out.grow g4)
  have HV := Lib.hid (HV.out.grow g4)
  replace g0 := g0.trans g4
  clear g4
  have H4 := Lib.hid h4
  clear h4
  obtain ⟨s8, p8, k8, c8, e8, m8, n8, rfl⟩ := H4.out.agg
  clear T2_0 T2_1 T2_2
  have T2_0 := T2.out.load.1
  have T2_f0 := T2.out.f0 0
  have T2_1 := T2.out.load.2.1
  have T2_f1 := T2.out.f0 1
  have T2_2 := T2.out.load.2.2
  have T2_f2 := T2.out.f0 2
  refine wpE_do rfl rfl (fun K hK => ?_)
  go_simp
  refine ⟨fun h => Bool.noConfusion h, hK _ _ ?_⟩
  clear hK K
  clear T0_0 T0_1 T0_2 T1_0 T1_1 T1_2 T2_0 T2_1 T2_2 T2_f0 T2_f1 T2_f2
  have hu := upd3 w4 b2 (.bool s8) (.slice p8 k8 c8) (.slice e8 m8 n8)
  have H4 := Lib.hid (H4.out.upd T2.out.noInt hu)
  have T0 := Lib.hid (T0.out.upd hu Hd02.out)
  have T1 := Lib.hid (T1.out.upd hu Hd12.out)
  have T2 := Lib.hid (T2.out.set (.bool s8) (.slice p8 k8 c8) (.slice e8 m8 n8))
  have G := Lib.hid (G.out.three Hb2.out (.bool s8) (.slice p8 k8 c8) (.slice e8 m8 n8))
  clear hu
  generalize ((w4.setCell _ _).setCell _ _).setCell _ _ = W1 at G T0 T1 T2 H4 ⊢
  refine wpE_nil ?_
  clear g0
  go_wp2_with fail
  have T2_0 := T2.out.load.1
  have T2_1 := T2.out.load.2.1
  have T2_2 := T2.out.load.2.2
  refine bodyPost_ret (by simp [results, Tryz.results70, go_sem, T2_0, T2_1, T2_2]; rfl) rfl ?_
  exact ⟨_, rfl, G.out, H4.out⟩

set_option maxRecDepth 100000 in
set_option maxHeartbeats 3200000 in
theorem rat_crossMul (w : World) (va vb : Value) (z z' : Int) (q q' : Nat) (N D : Int) (KK L M : Nat) (ha : RatP w va z q L) (hb : RatP w vb z' q' M) (hL : L ≤ 100000) (hM : M ≤ 100000) (hKK : KK ≤ 1000000) (hD : D ≠ 0)
    (hF : ∀ w' v1 v2 v3 v4, IntV w' v1 z (L + 1) → IntV w' v2 q (L + 1) → IntV w' v3 z' (M + 1) → IntV w' v4 q' (M + 1) → Calls Tryz.prog 72 #[v1, v2, v3, v4] w' (Ret w' fun x w'' => ∃ u v, x = .tuple #[u, v] ∧ IntV w'' u N KK ∧ IntV w'' v D KK)) :
    Calls Tryz.prog 70 #[va, vb, .func (.func 72) #[] #[]] w (Ret w fun r w' => RatC w' r (Rat.divInt N D)) := by
  have HA := Lib.hid ha
  have HB := Lib.hid hb
  have HF := Lib.hid hF
  obtain ⟨s0, p0, k0, c0, e0, m0, n0, rfl⟩ := ha.agg
  obtain ⟨s1, p1, k1, c1, e1, m1, n1, rfl⟩ := hb.agg
  have HN := Lib.hid (ha.num)
  have HM := Lib.hid (hb.num)
  clear ha hb hF
  have B := box333 w (.bool s0) (.slice p0 k0 c0) (.slice e0 m0 n0) (.bool s1) (.slice p1 k1 c1) (.slice e1 m1 n1) (.bool false) (.slice none 0 0) (.slice none 0 0) 27 27 27
  have Hb1 := Lib.hid (show ¬ w.heap.size + 1 < w.heap.size by omega)
  have Hb2 := Lib.hid (show ¬ w.heap.size + 1 + 1 < w.heap.size by omega)
  have Hd01 := Lib.hid (show w.heap.size ≠ w.heap.size + 1 by omega)
  have Hd02 := Lib.hid (show w.heap.size ≠ w.heap.size + 1 + 1 by omega)
  have Hd12 := Lib.hid (show w.heap.size + 1 ≠ w.heap.size + 1 + 1 by omega)
  go_enter Tryz.func70, Tryz.ntmps70
  go_wp2_with fail
  generalize ((w.alloc _).alloc _).alloc _ = W at B ⊢
  obtain ⟨G0, t0, t1, t2⟩ := B
  generalize w.heap.size + 1 + 1 = b2 at t2 Hb2 Hd02 Hd12 ⊢
  generalize w.heap.size + 1 = b1 at t1 Hb1 Hd01 Hd12 ⊢
  generalize hb0 : w.heap.size = b0 at t0 Hd01 Hd02 ⊢
  have Hb0 := Lib.hid (show ¬ b0 < w.heap.size by omega)
  have G := Lib.hid G0
  have T0 := Lib.hid t0
  have T1 := Lib.hid t1
  have T2 := Lib.hid t2
  clear hb0 G0 t0 t1 t2
  have HA := Lib.hid (HA.out.grow G.out)
  have HB := Lib.hid (HB.out.grow G.out)
  have HN := Lib.hid (HN.out.grow G.out)
  have HM := Lib.hid (HM.out.grow G.out)
  refine wp_region_fast [(0, true), (1, true), (2, true), (3, true), (5, true), (6, true), (7, true), (4, false), (8, false), (9, false), (10, true), (11, true), (12, false), (13, false)] (by kernel_rfl) (by kernel_rfl) rfl (by kernel_rfl) (fun _ _ d _ _ h => by cases d <;> exact h) ?_
  have T0_0 := T0.out.c0
  have T0_1 := T0.out.c1
  have T0_2 := T0.out.c2
  have T1_0 := T1.out.c0
  have T1_1 := T1.out.c1
  have T1_2 := T1.out.c2
  have T2_0 := T2.out.c0
  have T2_1 := T2.out.c1
  have T2_2 := T2.out.c2
  have g0 : Gr W W.drew := (Gr.refl _).drew
  have G := Lib.hid (G.out.trans g0)
  have T0 := Lib.hid (T0.out.grow g0)
  have T1 := Lib.hid (T1.out.grow g0)
  have T2 := Lib.hid (T2.out.grow g0)
  have HA := Lib.hid (HA.out.grow g0)
  have HB := Lib.hid (HB.out.grow g0)
  have HN := Lib.hid (HN.out.grow g0)
  have HM := Lib.hid (HM.out.grow g0)
  repeat (refine wpE_readB (v := ?_) g0 rfl rfl (fun w' hg => ?_) (fun K hK => ?_); rotate_left; (go_simp; rfl); go_simp; refine hK _ _ ?_; clear hK K)
  refine wpE_fn (args := ?_) rfl rfl rfl rfl rfl rfl (by kernel_rfl) (by kernel_rfl) ?_ (fun K hK => ?_)
  rotate_left
  · go_simp; rfl
  refine (p_den _ _ z q L HA.out hL).mono ?_
  rintro _ w1 ⟨r1, rfl, g1, h1⟩
  refine ⟨_, rfl, g1, ?_⟩
  go_simp
  refine hK _ _ ?_
  clear hK K
  have G := Lib.hid (G.out.trans g1)
  have T0 := Lib.hid (T0.out.grow g1)
  have T1 := Lib.hid (T1.out.grow g1)
  have T2 := Lib.hid (T2.out.grow g1)
  have HA := Lib.hid (HA.out.grow g1)
  have HB := Lib.hid (HB.out.grow g1)
  have HN := Lib.hid (HN.out.grow g1)
  have HM := Lib.hid (HM.out.grow g1)
  replace g0 := g0.trans g1
  clear g1
  have H1 := Lib.hid h1
  clear h1
  refine wpE_fn (args := ?_) rfl rfl rfl rfl rfl rfl (by kernel_rfl) (by kernel_rfl) ?_ (fun K hK => ?_)
  rotate_left
  · go_simp; rfl
  refine (p_den _ _ z' q' M HB.out hM).mono ?_
  rintro _ w2 ⟨r2, rfl, g2, h2⟩
  refine ⟨_, rfl, g2, ?_⟩
  go_simp
  refine hK _ _ ?_
  clear hK K
  have G := Lib.hid (G.out.trans g2)
  have T0 := Lib.hid (T0.out.grow g2)
  have T1 := Lib.hid (T1.out.grow g2)
  have T2 := Lib.hid (T2.out.grow g2)
  have HA := Lib.hid (HA.out.grow g2)
  have HB := Lib.hid (HB.out.grow g2)
  have HN := Lib.hid (HN.out.grow g2)
  have HM := Lib.hid (HM.out.grow g2)
  have H1 := Lib.hid (H1.out.grow g2)
  replace g0 := g0.trans g2
  clear g2
  have H2 := Lib.hid h2
  clear h2
  refine wpE_fn (args := ?_) rfl rfl rfl rfl rfl rfl (by kernel_rfl) (by kernel_rfl) ?_ (fun K hK => ?_)
  rotate_left
  · go_simp; rfl
  refine (HF.out _ _ _ _ _ (HN.out.mono (Nat.le_succ L)) H1.out (HM.out.mono (Nat.le_succ M)) H2.out).mono ?_
  rintro _ w3 ⟨_, rfl, g3, u, v, rfl, hu, hv⟩
  refine ⟨_, rfl, g3, ?_⟩
  go_simp
  refine hK _ _ ?_
  clear hK K
  have G := Lib.hid (G.out.trans g3)
  have T0 := Lib.hid (T0.out.grow g3)
  have T1 := Lib.hid (T1.out.grow g3)
  have T2 := Lib.hid (T2.out.grow g3)
  have HA := Lib.hid (HA.out.grow g3)
  have HB := Lib.hid (HB.out.grow g3)
  have HN := Lib.hid (HN.out.grow g3)
  have HM := Lib.hid (HM.out.grow g3)
  have H1 := Lib.hid (H1.out.grow g3)
  have H2 := Lib.hid (H2.out.grow g3)
  replace g0 := g0.trans g3
  clear g3
  have HU := Lib.hid hu
  have HV := Lib.hid hv
  clear hu hv
  repeat (refine wpE_readB (v := ?_) g0 rfl rfl (fun w' hg => ?_) (fun K hK => ?_); rotate_left; (go_simp; rfl); go_simp; refine hK _ _ ?_; clear hK K)
  refine wpE_fn (args := ?_) rfl rfl rfl rfl rfl rfl (by kernel_rfl) (by kernel_rfl) ?_ (fun K hK => ?_)
  rotate_left
  · go_simp; rfl
  refine (rat_reduced _ _ _ N D KK KK HU.out HV.out hD hKK hKK).mono ?_
  rintro _ w4 ⟨r4, rfl, g4, h4⟩
  refine ⟨_, rfl, g4, ?_⟩
  go_simp
  refine hK _ _ ?_
  clear hK K
  have G := Lib.hid (G.out.trans g4)
  have T0 := Lib.hid (T0.out.grow g4)
  have T1 := Lib.hid (T1.out.grow g4)
  have T2 := Lib.hid (T2.out.grow g4)
  have HU := Lib.hid (HU.out.grow g4)
  have HV := Lib.hid (HV.out.grow g4)
  replace g0 := g0.trans g4
  clear g4
  have H4 := Lib.hid h4
  clear h4
  obtain ⟨s8, p8, k8, c8, e8, m8, n8, rfl⟩ := H4.out.agg
  clear T2_0 T2_1 T2_2
  have T2_0 := T2.out.load.1
  have T2_f0 := T2.out.f0 0
  have T2_1 := T2.out.load.2.1
  have T2_f1 := T2.out.f0 1
  have T2_2 := T2.out.load.2.2
  have T2_f2 := T2.out.f0 2
  refine wpE_do rfl rfl (fun K hK => ?_)
  go_simp
  refine ⟨fun h => Bool.noConfusion h, hK _ _ ?_⟩
  clear hK K
  clear T0_0 T0_1 T0_2 T1_0 T1_1 T1_2 T2_0 T2_1 T2_2 T2_f0 T2_f1 T2_f2
  have hu := upd3 w4 b2 (.bool s8) (.slice p8 k8 c8) (.slice e8 m8 n8)
  have H4 := Lib.hid (H4.out.upd T2.out.noInt hu)
  have T0 := Lib.hid (T0.out.upd hu Hd02.out)
  have T1 := Lib.hid (T1.out.upd hu Hd12.out)
  have T2 := Lib.hid (T2.out.set (.bool s8) (.slice p8 k8 c8) (.slice e8 m8 n8))
  have G := Lib.hid (G.out.three Hb2.out (.bool s8) (.slice p8 k8 c8) (.slice e8 m8 n8))
  clear hu
  generalize ((w4.setCell _ _).setCell _ _).setCell _ _ = W1 at G T0 T1 T2 H4 ⊢
  refine wpE_nil ?_
  clear g0
  go_wp2_with fail
  have T2_0 := T2.out.load.1
  have T2_1 := T2.out.load.2.1
  have T2_2 := T2.out.load.2.2
  refine bodyPost_ret (by simp [results, Tryz.results70, go_sem, T2_0, T2_1, T2_2]; rfl) rfl ?_
  exact ⟨_, rfl, G.out, H4.out⟩

set_option maxRecDepth 100000 in
set_option maxHeartbeats 3200000 in
theorem rat_crossDiv (w : World) (va vb : Value) (z z' : Int) (q q' : Nat) (N D : Int) (KK L M : Nat) (ha : RatP w va z q L) (hb : RatP w vb z' q' M) (hL : L ≤ 100000) (hM : M ≤ 100000) (hKK : KK ≤ 1000000) (hD : D ≠ 0)
    (hF : ∀ w' v1 v2 v3 v4, IntV w' v1 z (L + 1) → IntV w' v2 q (L + 1) → IntV w' v3 z' (M + 1) → IntV w' v4 q' (M + 1) → Calls Tryz.prog 75 #[v1, v2, v3, v4] w' (Ret w' fun x w'' => ∃ u v, x = .tuple #[u, v] ∧ IntV w'' u N KK ∧ IntV w'' v D KK)) :
    Calls Tryz.prog 70 #[va, vb, .func (.func 75) #[] #[]] w (Ret w fun r w' => RatC w' r (Rat.divInt N D)) := by
  have HA := Lib.hid ha
  have HB := Lib.hid hb
  have HF := Lib.hid hF
  obtain ⟨s0, p0, k0, c0, e0, m0, n0, rfl⟩ := ha.agg
  obtain ⟨s1, p1, k1, c1, e1, m1, n1, rfl⟩ := hb.agg
  have HN := Lib.hid (ha.num)
  have HM := Lib.hid (hb.num)
  clear ha hb hF
  have B := box333 w (.bool s0) (.slice p0 k0 c0) (.slice e0 m0 n0) (.bool s1) (.slice p1 k1 c1) (.slice e1 m1 n1) (.bool false) (.slice none 0 0) (.slice none 0 0) 27 27 27
  have Hb1 := Lib.hid (show ¬ w.heap.size + 1 < w.heap.size by omega)
  have Hb2 := Lib.hid (show ¬ w.heap.size + 1 + 1 < w.heap.size by omega)
  have Hd01 := Lib.hid (show w.heap.size ≠ w.heap.size + 1 by omega)
  have Hd02 := Lib.hid (show w.heap.size ≠ w.heap.size + 1 + 1 by omega)
  have Hd12 := Lib.hid (show w.heap.size + 1 ≠ w.heap.size + 1 + 1 by omega)
  go_enter Tryz.func70, Tryz.ntmps70
  go_wp2_with fail
  generalize ((w.alloc _).alloc _).alloc _ = W at B ⊢
  obtain ⟨G0, t0, t1, t2⟩ := B
  generalize w.heap.size + 1 + 1 = b2 at t2 Hb2 Hd02 Hd12 ⊢
  generalize w.heap.size + 1 = b1 at t1 Hb1 Hd01 Hd12 ⊢
  generalize hb0 : w.heap.size = b0 at t0 Hd01 Hd02 ⊢
  have Hb0 := Lib.hid (show ¬ b0 < w.heap.size by omega)
  have G := Lib.hid G0
  have T0 := Lib.hid t0
  have T1 := Lib.hid t1
  have T2 := Lib.hid t2
  clear hb0 G0 t0 t1 t2
  have HA := Lib.hid (HA.out.grow G.out)
  have HB := Lib.hid (HB.out.grow G.out)
  have HN := Lib.hid (HN.out.grow G.out)
  have HM := Lib.hid (HM.out.grow G.out)
  refine wp_region_fast [(0, true), (1, true), (2, true), (3, true), (5, true), (6, true), (7, true), (4, false), (8, false), (9, false), (10, true), (11, true), (12, false), (13, false)] (by kernel_rfl) (by kernel_rfl) rfl (by kernel_rfl) (fun _ _ d _ _ h => by cases d <;> exact h) ?_
  have T0_0 := T0.out.c0
  have T0_1 := T0.out.c1
  have T0_2 := T0.out.c2
  have T1_0 := T1.out.c0
  have T1_1 := T1.out.c1
  have T1_2 := T1.out.c2
  have T2_0 := T2.out.c0
  have T2_1 := T2.out.c1
  have T2_2 := T2.out.c2
  have g0 : Gr W W.drew := (Gr.refl _).drew
  have G := Lib.hid (G.out.trans g0)
  have T0 := Lib.hid (T0.out.grow g0)
  have T1 := Lib.hid (T1.out.grow g0)
  have T2 := Lib.hid (T2.out.grow g0)
  have HA := Lib.hid (HA.out.grow g0)
  have HB := Lib.hid (HB.out.grow g0)
  have HN := Lib.hid (HN.out.grow g0)
  have HM := Lib.hid (HM.out.grow g0)
  repeat (refine wpE_readB (v := ?_) g0 rfl rfl (fun w' hg => ?_) (fun K hK => ?_); rotate_left; (go_simp; rfl); go_simp; refine hK _ _ ?_; clear hK K)
  refine wpE_fn (args := ?_) rfl rfl rfl rfl rfl rfl (by kernel_rfl) (by kernel_rfl) ?_ (fun K hK => ?_)
  rotate_left
  · go_simp; rfl
  refine (p_den _ _ z q L HA.out hL).mono ?_
  rintro _ w1 ⟨r1, rfl, g1, h1⟩
  refine ⟨_, rfl, g1, ?_⟩
  go_simp
  refine hK _ _ ?_
  clear hK K
  have G := Lib.hid (G.out.trans g1)
  have T0 := Lib.hid (T0.out.grow g1)
  have T1 := Lib.hid (T1.out.grow g1)
  have T2 := Lib.hid (T2.out.grow g1)
  have HA := Lib.hid (HA.out.grow g1)
  have HB := Lib.hid (HB.out.grow g1)
  have HN := Lib.hid (HN.out.grow g1)
  have HM := Lib.hid (HM.out.grow g1)
  replace g0 := g0.trans g1
  clear g1
  have H1 := Lib.hid h1
  clear h1
  refine wpE_fn (args := ?_) rfl rfl rfl rfl rfl rfl (by kernel_rfl) (by kernel_rfl) ?_ (fun K hK => ?_)
  rotate_left
  · go_simp; rfl
  refine (p_den _ _ z' q' M HB.out hM).mono ?_
  rintro _ w2 ⟨r2, rfl, g2, h2⟩
  refine ⟨_, rfl, g2, ?_⟩
  go_simp
  refine hK _ _ ?_
  clear hK K
  have G := Lib.hid (G.out.trans g2)
  have T0 := Lib.hid (T0.out.grow g2)
  have T1 := Lib.hid (T1.out.grow g2)
  have T2 := Lib.hid (T2.out.grow g2)
  have HA := Lib.hid (HA.out.grow g2)
  have HB := Lib.hid (HB.out.grow g2)
  have HN := Lib.hid (HN.out.grow g2)
  have HM := Lib.hid (HM.out.grow g2)
  have H1 := Lib.hid (H1.out.grow g2)
  replace g0 := g0.trans g2
  clear g2
  have H2 := Lib.hid h2
  clear h2
  refine wpE_fn (args := ?_) rfl rfl rfl rfl rfl rfl (by kernel_rfl) (by kernel_rfl) ?_ (fun K hK => ?_)
  rotate_left
  · go_simp; rfl
  refine (HF.out _ _ _ _ _ (HN.out.mono (Nat.le_succ L)) H1.out (HM.out.mono (Nat.le_succ M)) H2.out).mono ?_
  rintro _ w3 ⟨_, rfl, g3, u, v, rfl, hu, hv⟩
  refine ⟨_, rfl, g3, ?_⟩
  go_simp
  refine hK _ _ ?_
  clear hK K
  have G := Lib.hid (G.out.trans g3)
  have T0 := Lib.hid (T0.out.grow g3)
  have T1 := Lib.hid (T1.out.grow g3)
  have T2 := Lib.hid (T2.out.grow g3)
  have HA := Lib.hid (HA.out.grow g3)
  have HB := Lib.hid (HB.out.grow g3)
  have HN := Lib.hid (HN.out.grow g3)
  have HM := Lib.hid (HM.out.grow g3)
  have H1 := Lib.hid (H1.out.grow g3)
  have H2 := Lib.hid (H2.out.grow g3)
  replace g0 := g0.trans g3
  clear g3
  have HU := Lib.hid hu
  have HV := Lib.hid hv
  clear hu hv
  repeat (refine wpE_readB (v := ?_) g0 rfl rfl (fun w' hg => ?_) (fun K hK => ?_); rotate_left; (go_simp; rfl); go_simp; refine hK _ _ ?_; clear hK K)
  refine wpE_fn (args := ?_) rfl rfl rfl rfl rfl rfl (by kernel_rfl) (by kernel_rfl) ?_ (fun K hK => ?_)
  rotate_left
  · go_simp; rfl
  refine (rat_reduced _ _ _ N D KK KK HU.out HV.out hD hKK hKK).mono ?_
  rintro _ w4 ⟨r4, rfl, g4, h4⟩
  refine ⟨_, rfl, g4, ?_⟩
  go_simp
  refine hK _ _ ?_
  clear hK K
  have G := Lib.hid (G.out.trans g4)
  have T0 := Lib.hid (T0.out.grow g4)
  have T1 := Lib.hid (T1.out.grow g4)
  have T2 := Lib.hid (T2.out.grow g4)
  have HU := Lib.hid (HU.out.grow g4)
  have HV := Lib.hid (HV.out.grow g4)
  replace g0 := g0.trans g4
  clear g4
  have H4 := Lib.hid h4
  clear h4
  obtain ⟨s8, p8, k8, c8, e8, m8, n8, rfl⟩ := H4.out.agg
  clear T2_0 T2_1 T2_2
  have T2_0 := T2.out.load.1
  have T2_f0 := T2.out.f0 0
  have T2_1 := T2.out.load.2.1
  have T2_f1 := T2.out.f0 1
  have T2_2 := T2.out.load.2.2
  have T2_f2 := T2.out.f0 2
  refine wpE_do rfl rfl (fun K hK => ?_)
  go_simp
  refine ⟨fun h => Bool.noConfusion h, hK _ _ ?_⟩
  clear hK K
  clear T0_0 T0_1 T0_2 T1_0 T1_1 T1_2 T2_0 T2_1 T2_2 T2_f0 T2_f1 T2_f2
  have hu := upd3 w4 b2 (.bool s8) (.slice p8 k8 c8) (.slice e8 m8 n8)
  have H4 := Lib.hid (H4.out.upd T2.out.noInt hu)
  have T0 := Lib.hid (T0.out.upd hu Hd02.out)
  have T1 := Lib.hid (T1.out.upd hu Hd12.out)
  have T2 := Lib.hid (T2.out.set (.bool s8) (.slice p8 k8 c8) (.slice e8 m8 n8))
  have G := Lib.hid (G.out.three Hb2.out (.bool s8) (.slice p8 k8 c8) (.slice e8 m8 n8))
  clear hu
  generalize ((w4.setCell _ _).setCell _ _).setCell _ _ = W1 at G T0 T1 T2 H4 ⊢
  refine wpE_nil ?_
  clear g0
  go_wp2_with fail
  have T2_0 := T2.out.load.1
  have T2_1 := T2.out.load.2.1
  have T2_2 := T2.out.load.2.2
  refine bodyPost_ret (by simp [results, Tryz.results70, go_sem, T2_0, T2_1, T2_2]; rfl) rfl ?_
  exact ⟨_, rfl, G.out, H4.out⟩

theorem qd_ne {q q' : Nat} (h : q ≠ 0) (h' : q' ≠ 0) : ((q : Int) * (q' : Int)) ≠ 0 := Int.mul_ne_zero (by omega) (by omega)
theorem divInt_qd (N : Int) (q q' : Nat) : Rat.divInt N ((q : Int) * (q' : Int)) = mkRat N (q * q') := by
  rw [← Rat.divInt_ofNat, Int.natCast_mul]

set_option maxRecDepth 100000 in
set_option maxHeartbeats 3200000 in
theorem p_Add (w : World) (va vb : Value) (z z' : Int) (q q' L M : Nat) (ha : RatP w va z q L) (hb : RatP w vb z' q' M) (hL : L ≤ 1000) (hM : M ≤ 1000) :
    Calls Tryz.prog 24 #[va, vb] w (Ret w fun r w' => RatC w' r (mkRat z q + mkRat z' q')) := by
  have HA := Lib.hid ha
  have HB := Lib.hid hb
  obtain ⟨s0, p0, k0, c0, e0, m0, n0, rfl⟩ := ha.agg
  obtain ⟨s1, p1, k1, c1, e1, m1, n1, rfl⟩ := hb.agg
  have HN := Lib.hid (ha.num)
  have HM := Lib.hid (hb.num)
  obtain ⟨d, hd1, hd2, hd3⟩ := ha.den
  obtain ⟨d', hd1', hd2', hd3'⟩ := hb.den
  have hld := hd1.len
  have hld' := hd1'.len
  have Hq := Lib.hid ha.ne
  have Hq' := Lib.hid hb.ne
  have hm0 : (m0 : Int) ≤ 1000 := by omega
  have hm1 : (m1 : Int) ≤ 1000 := by omega
  clear ha hb hd1 hd1'
  by_cases h0 : m0 = 0 ∧ m1 = 0
  · obtain ⟨rfl, rfl⟩ := h0
    have hq : q = 1 := by rw [← hd2, List.eq_nil_of_length_eq_zero hld]; rfl
    have hq' : q' = 1 := by rw [← hd2', List.eq_nil_of_length_eq_zero hld']; rfl
    have HR := Lib.hid (show ((z + z' : Int) : Rat) = mkRat z q + mkRat z' q' by rw [hq, hq', mk_one, mk_one]; exact Rat.intCast_add _ _)
    rw [← HR.out]
    clear hq hq' hd2 hd2' hd3 hd3' hld hld' hm0 hm1
    have B := box333 w (.bool s0) (.slice p0 k0 c0) (.slice e0 0 n0) (.bool s1) (.slice p1 k1 c1) (.slice e1 0 n1) (.bool false) (.slice none 0 0) (.slice none 0 0) 27 27 27
    have Hb1 := Lib.hid (show ¬ w.heap.size + 1 < w.heap.size by omega)
    have Hb2 := Lib.hid (show ¬ w.heap.size + 1 + 1 < w.heap.size by omega)
    have Hd01 := Lib.hid (show w.heap.size ≠ w.heap.size + 1 by omega)
    have Hd02 := Lib.hid (show w.heap.size ≠ w.heap.size + 1 + 1 by omega)
    have Hd12 := Lib.hid (show w.heap.size + 1 ≠ w.heap.size + 1 + 1 by omega)
    go_enter Tryz.func24, Tryz.ntmps24
    go_wp2_with fail
    generalize ((w.alloc _).alloc _).alloc _ = W at B ⊢
    obtain ⟨G0, t0, t1, t2⟩ := B
    generalize w.heap.size + 1 + 1 = b2 at t2 Hb2 Hd02 Hd12 ⊢
    generalize w.heap.size + 1 = b1 at t1 Hb1 Hd01 Hd12 ⊢
    generalize hb0 : w.heap.size = b0 at t0 Hd01 Hd02 ⊢
    have Hb0 := Lib.hid (show ¬ b0 < w.heap.size by omega)
    have G := Lib.hid G0
    have T0 := Lib.hid t0
    have T1 := Lib.hid t1
    have T2 := Lib.hid t2
    clear hb0 G0 t0 t1 t2
    have HA := Lib.hid (HA.out.grow G.out)
    have HB := Lib.hid (HB.out.grow G.out)
    have HN := Lib.hid (HN.out.grow G.out)
    have HM := Lib.hid (HM.out.grow G.out)
    refine (v_Add W _ _ z z' _ L M HN.out HM.out rfl (by omega) (by omega)).mono ?_
    rintro _ w1 ⟨r1, rfl, g1, h1⟩
    have G := Lib.hid (G.out.trans g1)
    have T0 := Lib.hid (T0.out.grow g1)
    have T1 := Lib.hid (T1.out.grow g1)
    have T2 := Lib.hid (T2.out.grow g1)
    have HA := Lib.hid (HA.out.grow g1)
    have HB := Lib.hid (HB.out.grow g1)
    have HN := Lib.hid (HN.out.grow g1)
    have HM := Lib.hid (HM.out.grow g1)
    clear g1
    have H1 := Lib.hid h1
    clear h1
    have HC := Lib.hid H1.out.1
    obtain ⟨p2, k2, c2, rfl⟩ := HC.out.agg
    generalize decide (z + z' < 0) = s2 at HC H1 ⊢
    have HV := Lib.hid (RatC.ofInt HC.out)
    have T2_0 := T2.out.load.1
    have T2_f0 := T2.out.f0 0
    have T2_1 := T2.out.load.2.1
    have T2_f1 := T2.out.f0 1
    have T2_2 := T2.out.load.2.2
    have T2_f2 := T2.out.f0 2
    go_wp2_with fail
    clear T2_0 T2_f0 T2_1 T2_f1 T2_2 T2_f2
    have hu := upd3 w1 b2 (.bool s2) (.slice p2 k2 c2) (.slice none 0 0)
    have HV := Lib.hid (HV.out.upd T2.out.noInt hu)
    have T0 := Lib.hid (T0.out.upd hu Hd02.out)
    have T1 := Lib.hid (T1.out.upd hu Hd12.out)
    have T2 := Lib.hid (T2.out.set (.bool s2) (.slice p2 k2 c2) (.slice none 0 0))
    have G := Lib.hid (G.out.three Hb2.out (.bool s2) (.slice p2 k2 c2) (.slice none 0 0))
    clear hu
    generalize ((w1.setCell _ _).setCell _ _).setCell _ _ = W1 at G T0 T1 T2 HV ⊢
    have T2_0 := T2.out.load.1
    have T2_1 := T2.out.load.2.1
    have T2_2 := T2.out.load.2.2
    refine bodyPost_ret (by simp [results, Tryz.results24, go_sem, T2_0, T2_1, T2_2]; rfl) rfl ?_
    exact ⟨_, rfl, G.out, HV.out⟩
  · have h1 : ¬ (m0 : Int) + (m1 : Int) = 0 := by omega
    clear hd2 hd2' hd3 hd3' hld hld'
    have B := box333 w (.bool s0) (.slice p0 k0 c0) (.slice e0 m0 n0) (.bool s1) (.slice p1 k1 c1) (.slice e1 m1 n1) (.bool false) (.slice none 0 0) (.slice none 0 0) 27 27 27
    have Hb1 := Lib.hid (show ¬ w.heap.size + 1 < w.heap.size by omega)
    have Hb2 := Lib.hid (show ¬ w.heap.size + 1 + 1 < w.heap.size by omega)
    have Hd01 := Lib.hid (show w.heap.size ≠ w.heap.size + 1 by omega)
    have Hd02 := Lib.hid (show w.heap.size ≠ w.heap.size + 1 + 1 by omega)
    have Hd12 := Lib.hid (show w.heap.size + 1 ≠ w.heap.size + 1 + 1 by omega)
    go_enter Tryz.func24, Tryz.ntmps24
    go_wp2_with fail
    generalize ((w.alloc _).alloc _).alloc _ = W at B ⊢
    obtain ⟨G0, t0, t1, t2⟩ := B
    generalize w.heap.size + 1 + 1 = b2 at t2 Hb2 Hd02 Hd12 ⊢
    generalize w.heap.size + 1 = b1 at t1 Hb1 Hd01 Hd12 ⊢
    generalize hb0 : w.heap.size = b0 at t0 Hd01 Hd02 ⊢
    have Hb0 := Lib.hid (show ¬ b0 < w.heap.size by omega)
    have G := Lib.hid G0
    have T0 := Lib.hid t0
    have T1 := Lib.hid t1
    have T2 := Lib.hid t2
    clear hb0 G0 t0 t1 t2
    have HA := Lib.hid (HA.out.grow G.out)
    have HB := Lib.hid (HB.out.grow G.out)
    have HN := Lib.hid (HN.out.grow G.out)
    have HM := Lib.hid (HM.out.grow G.out)
    refine (rat_crossAdd W _ _ z z' q q' (z * (q' : Int) + z' * (q : Int)) ((q : Int) * q') (2 * (L + 1) + 2 * (M + 1) + 4) L M HA.out HB.out (by omega) (by omega) (by omega) (qd_ne Hq.out Hq'.out) (fun w' v1 v2 v3 v4 i1 i2 i3 i4 => clo_Add w' v1 v2 v3 v4 z q z' q' (L + 1) (M + 1) i1 i2 i3 i4 (by omega) (by omega))).mono ?_
    rintro _ w1 ⟨r1, rfl, g1, h1⟩
    have G := Lib.hid (G.out.trans g1)
    have T0 := Lib.hid (T0.out.grow g1)
    have T1 := Lib.hid (T1.out.grow g1)
    have T2 := Lib.hid (T2.out.grow g1)
    have HA := Lib.hid (HA.out.grow g1)
    have HB := Lib.hid (HB.out.grow g1)
    have HN := Lib.hid (HN.out.grow g1)
    have HM := Lib.hid (HM.out.grow g1)
    clear g1
    have H1 := Lib.hid h1
    clear h1
    have HV := Lib.hid (show RatC _ _ (mkRat z q + mkRat z' q') by have h := H1.out; rw [divInt_qd] at h; rw [add_mk _ _ Hq.out Hq'.out]; exact h)
    obtain ⟨s8, p8, k8, c8, e8, m8, n8, rfl⟩ := H1.out.agg
    have T2_0 := T2.out.load.1
    have T2_f0 := T2.out.f0 0
    have T2_1 := T2.out.load.2.1
    have T2_f1 := T2.out.f0 1
    have T2_2 := T2.out.load.2.2
    have T2_f2 := T2.out.f0 2
    go_wp2_with fail
    clear T2_0 T2_f0 T2_1 T2_f1 T2_2 T2_f2
    have hu := upd3 w1 b2 (.bool s8) (.slice p8 k8 c8) (.slice e8 m8 n8)
    have HV := Lib.hid (HV.out.upd T2.out.noInt hu)
    have T0 := Lib.hid (T0.out.upd hu Hd02.out)
    have T1 := Lib.hid (T1.out.upd hu Hd12.out)
    have T2 := Lib.hid (T2.out.set (.bool s8) (.slice p8 k8 c8) (.slice e8 m8 n8))
    have G := Lib.hid (G.out.three Hb2.out (.bool s8) (.slice p8 k8 c8) (.slice e8 m8 n8))
    clear hu
    generalize ((w1.setCell _ _).setCell _ _).setCell _ _ = W1 at G T0 T1 T2 HV ⊢
    have T2_0 := T2.out.load.1
    have T2_1 := T2.out.load.2.1
    have T2_2 := T2.out.load.2.2
    refine bodyPost_ret (by simp [results, Tryz.results24, go_sem, T2_0, T2_1, T2_2]; rfl) rfl ?_
    exact ⟨_, rfl, G.out, HV.out⟩

set_option maxRecDepth 100000 in
set_option maxHeartbeats 3200000 in
theorem p_Mul (w : World) (va vb : Value) (z z' : Int) (q q' L M : Nat) (ha : RatP w va z q L) (hb : RatP w vb z' q' M) (hL : L ≤ 1000) (hM : M ≤ 1000) :
    Calls Tryz.prog 25 #[va, vb] w (Ret w fun r w' => RatC w' r (mkRat z q * mkRat z' q')) := by
  have HA := Lib.hid ha
  have HB := Lib.hid hb
  obtain ⟨s0, p0, k0, c0, e0, m0, n0, rfl⟩ := ha.agg
  obtain ⟨s1, p1, k1, c1, e1, m1, n1, rfl⟩ := hb.agg
  have HN := Lib.hid (ha.num)
  have HM := Lib.hid (hb.num)
  obtain ⟨d, hd1, hd2, hd3⟩ := ha.den
  obtain ⟨d', hd1', hd2', hd3'⟩ := hb.den
  have hld := hd1.len
  have hld' := hd1'.len
  have Hq := Lib.hid ha.ne
  have Hq' := Lib.hid hb.ne
  have hm0 : (m0 : Int) ≤ 1000 := by omega
  have hm1 : (m1 : Int) ≤ 1000 := by omega
  clear ha hb hd1 hd1'
  by_cases h0 : m0 = 0 ∧ m1 = 0
  · obtain ⟨rfl, rfl⟩ := h0
    have hq : q = 1 := by rw [← hd2, List.eq_nil_of_length_eq_zero hld]; rfl
    have hq' : q' = 1 := by rw [← hd2', List.eq_nil_of_length_eq_zero hld']; rfl
    have HR := Lib.hid (show ((z * z' : Int) : Rat) = mkRat z q * mkRat z' q' by rw [hq, hq', mk_one, mk_one]; exact Rat.intCast_mul _ _)
    rw [← HR.out]
    clear hq hq' hd2 hd2' hd3 hd3' hld hld' hm0 hm1
    have B := box333 w (.bool s0) (.slice p0 k0 c0) (.slice e0 0 n0) (.bool s1) (.slice p1 k1 c1) (.slice e1 0 n1) (.bool false) (.slice none 0 0) (.slice none 0 0) 27 27 27
    have Hb1 := Lib.hid (show ¬ w.heap.size + 1 < w.heap.size by omega)
    have Hb2 := Lib.hid (show ¬ w.heap.size + 1 + 1 < w.heap.size by omega)
    have Hd01 := Lib.hid (show w.heap.size ≠ w.heap.size + 1 by omega)
    have Hd02 := Lib.hid (show w.heap.size ≠ w.heap.size + 1 + 1 by omega)
    have Hd12 := Lib.hid (show w.heap.size + 1 ≠ w.heap.size + 1 + 1 by omega)
    go_enter Tryz.func25, Tryz.ntmps25
    go_wp2_with fail
    generalize ((w.alloc _).alloc _).alloc _ = W at B ⊢
    obtain ⟨G0, t0, t1, t2⟩ := B
    generalize w.heap.size + 1 + 1 = b2 at t2 Hb2 Hd02 Hd12 ⊢
    generalize w.heap.size + 1 = b1 at t1 Hb1 Hd01 Hd12 ⊢
    generalize hb0 : w.heap.size = b0 at t0 Hd01 Hd02 ⊢
    have Hb0 := Lib.hid (show ¬ b0 < w.heap.size by omega)
    have G := Lib.hid G0
    have T0 := Lib.hid t0
    have T1 := Lib.hid t1
    have T2 := Lib.hid t2
    clear hb0 G0 t0 t1 t2
    have HA := Lib.hid (HA.out.grow G.out)
    have HB := Lib.hid (HB.out.grow G.out)
    have HN := Lib.hid (HN.out.grow G.out)
    have HM := Lib.hid (HM.out.grow G.out)
    refine (v_Mul W _ _ z z' _ L M HN.out HM.out rfl (by omega) (by omega)).mono ?_
    rintro _ w1 ⟨r1, rfl, g1, h1⟩
    have G := Lib.hid (G.out.trans g1)
    have T0 := Lib.hid (T0.out.grow g1)
    have T1 := Lib.hid (T1.out.grow g1)
    have T2 := Lib.hid (T2.out.grow g1)
    have HA := Lib.hid (HA.out.grow g1)
    have HB := Lib.hid (HB.out.grow g1)
    have HN := Lib.hid (HN.out.grow g1)
    have HM := Lib.hid (HM.out.grow g1)
    clear g1
    have H1 := Lib.hid h1
    clear h1
    have HC := Lib.hid H1.out.1
    obtain ⟨p2, k2, c2, rfl⟩ := HC.out.agg
    generalize decide (z * z' < 0) = s2 at HC H1 ⊢
    have HV := Lib.hid (RatC.ofInt HC.out)
    have T2_0 := T2.out.load.1
    have T2_f0 := T2.out.f0 0
    have T2_1 := T2.out.load.2.1
    have T2_f1 := T2.out.f0 1
    have T2_2 := T2.out.load.2.2
    have T2_f2 := T2.out.f0 2
    go_wp2_with fail
    clear T2_0 T2_f0 T2_1 T2_f1 T2_2 T2_f2
    have hu := upd3 w1 b2 (.bool s2) (.slice p2 k2 c2) (.slice none 0 0)
    have HV := Lib.hid (HV.out.upd T2.out.noInt hu)
    have T0 := Lib.hid (T0.out.upd hu Hd02.out)
    have T1 := Lib.hid (T1.out.upd hu Hd12.out)
    have T2 := Lib.hid (T2.out.set (.bool s2) (.slice p2 k2 c2) (.slice none 0 0))
    have G := Lib.hid (G.out.three Hb2.out (.bool s2) (.slice p2 k2 c2) (.slice none 0 0))
    clear hu
    generalize ((w1.setCell _ _).setCell _ _).setCell _ _ = W1 at G T0 T1 T2 HV ⊢
    have T2_0 := T2.out.load.1
    have T2_1 := T2.out.load.2.1
    have T2_2 := T2.out.load.2.2
    refine bodyPost_ret (by simp [results, Tryz.results25, go_sem, T2_0, T2_1, T2_2]; rfl) rfl ?_
    exact ⟨_, rfl, G.out, HV.out⟩
  · have h1 : ¬ (m0 : Int) + (m1 : Int) = 0 := by omega
    clear hd2 hd2' hd3 hd3' hld hld'
    have B := box333 w (.bool s0) (.slice p0 k0 c0) (.slice e0 m0 n0) (.bool s1) (.slice p1 k1 c1) (.slice e1 m1 n1) (.bool false) (.slice none 0 0) (.slice none 0 0) 27 27 27
    have Hb1 := Lib.hid (show ¬ w.heap.size + 1 < w.heap.size by omega)
    have Hb2 := Lib.hid (show ¬ w.heap.size + 1 + 1 < w.heap.size by omega)
    have Hd01 := Lib.hid (show w.heap.size ≠ w.heap.size + 1 by omega)
    have Hd02 := Lib.hid (show w.heap.size ≠ w.heap.size + 1 + 1 by omega)
    have Hd12 := Lib.hid (show w.heap.size + 1 ≠ w.heap.size + 1 + 1 by omega)
    go_enter Tryz.func25, Tryz.ntmps25
    go_wp2_with fail
    generalize ((w.alloc _).alloc _).alloc _ = W at B ⊢
    obtain ⟨G0, t0, t1, t2⟩ := B
    generalize w.heap.size + 1 + 1 = b2 at t2 Hb2 Hd02 Hd12 ⊢
    generalize w.heap.size + 1 = b1 at t1 Hb1 Hd01 Hd12 ⊢
    generalize hb0 : w.heap.size = b0 at t0 Hd01 Hd02 ⊢
    have Hb0 := Lib.hid (show ¬ b0 < w.heap.size by omega)
    have G := Lib.hid G0
    have T0 := Lib.hid t0
    have T1 := Lib.hid t1
    have T2 := Lib.hid t2
    clear hb0 G0 t0 t1 t2
    have HA := Lib.hid (HA.out.grow G.out)
    have HB := Lib.hid (HB.out.grow G.out)
    have HN := Lib.hid (HN.out.grow G.out)
    have HM := Lib.hid (HM.out.grow G.out)
    refine (rat_crossMul W _ _ z z' q q' (z * z') ((q : Int) * q') (2 * (L + 1) + 2 * (M + 1) + 4) L M HA.out HB.out (by omega) (by omega) (by omega) (qd_ne Hq.out Hq'.out) (fun w' v1 v2 v3 v4 i1 i2 i3 i4 => clo_Mul w' v1 v2 v3 v4 z q z' q' (L + 1) (M + 1) i1 i2 i3 i4 (by omega) (by omega))).mono ?_
    rintro _ w1 ⟨r1, rfl, g1, h1⟩
    have G := Lib.hid (G.out.trans g1)
    have T0 := Lib.hid (T0.out.grow g1)
    have T1 := Lib.hid (T1.out.grow g1)
    have T2 := Lib.hid (T2.out.grow g1)
    have HA := Lib.hid (HA.out.grow g1)
    have HB := Lib.hid (HB.out.grow g1)
    have HN := Lib.hid (HN.out.grow g1)
    have HM := Lib.hid (HM.out.grow g1)
    clear g1
    have H1 := Lib.hid h1
    clear h1
    have HV := Lib.hid (show RatC _ _ (mkRat z q * mkRat z' q') by have h := H1.out; rw [divInt_qd] at h; rw [mul_mk]; exact h)
    obtain ⟨s8, p8, k8, c8, e8, m8, n8, rfl⟩ := H1.out.agg
    have T2_0 := T2.out.load.1
    have T2_f0 := T2.out.f0 0
    have T2_1 := T2.out.load.2.1
    have T2_f1 := T2.out.f0 1
    have T2_2 := T2.out.load.2.2
    have T2_f2 := T2.out.f0 2
    go_wp2_with fail
    clear T2_0 T2_f0 T2_1 T2_f1 T2_2 T2_f2
    have hu := upd3 w1 b2 (.bool s8) (.slice p8 k8 c8) (.slice e8 m8 n8)
    have HV := Lib.hid (HV.out.upd T2.out.noInt hu)
    have T0 := Lib.hid (T0.out.upd hu Hd02.out)
    have T1 := Lib.hid (T1.out.upd hu Hd12.out)
    have T2 := Lib.hid (T2.out.set (.bool s8) (.slice p8 k8 c8) (.slice e8 m8 n8))
    have G := Lib.hid (G.out.three Hb2.out (.bool s8) (.slice p8 k8 c8) (.slice e8 m8 n8))
    clear hu
    generalize ((w1.setCell _ _).setCell _ _).setCell _ _ = W1 at G T0 T1 T2 HV ⊢
    have T2_0 := T2.out.load.1
    have T2_1 := T2.out.load.2.1
    have T2_2 := T2.out.load.2.2
    refine bodyPost_ret (by simp [results, Tryz.results25, go_sem, T2_0, T2_1, T2_2]; rfl) rfl ?_
    exact ⟨_, rfl, G.out, HV.out⟩

theorem q_Add (w : World) (va vb : Value) (x y s : Rat) (L M : Nat) (ha : RatV w va x L) (hb : RatV w vb y M) (hs : x + y = s) (hL : L ≤ 1000) (hM : M ≤ 1000) :
    Calls Tryz.prog 24 #[va, vb] w (Ret w fun r w' => RatC w' r s) := by
  obtain ⟨z, q, ha2, rfl⟩ := ha.p
  obtain ⟨z', q', hb2, rfl⟩ := hb.p
  subst hs
  exact p_Add w va vb z z' q q' L M ha2 hb2 hL hM
theorem q_Mul (w : World) (va vb : Value) (x y s : Rat) (L M : Nat) (ha : RatV w va x L) (hb : RatV w vb y M) (hs : x * y = s) (hL : L ≤ 1000) (hM : M ≤ 1000) :
    Calls Tryz.prog 25 #[va, vb] w (Ret w fun r w' => RatC w' r s) := by
  obtain ⟨z, q, ha2, rfl⟩ := ha.p
  obtain ⟨z', q', hb2, rfl⟩ := hb.p
  subst hs
  exact p_Mul w va vb z z' q q' L M ha2 hb2 hL hM

set_option maxRecDepth 100000 in
set_option maxHeartbeats 3200000 in
theorem p_Neg (w : World) (va : Value) (z : Int) (q L : Nat) (ha : RatP w va z q L) (hL : L ≤ 1000) :
    Calls Tryz.prog 28 #[va] w (Ret w fun r w' => RatC w' r (- mkRat z q)) := by
  have HA := Lib.hid ha
  obtain ⟨s0, p0, k0, c0, e0, m0, n0, rfl⟩ := ha.agg
  have HN := Lib.hid (ha.num)
  have Hq := Lib.hid ha.ne
  clear ha
  have B := box33 w (.bool s0) (.slice p0 k0 c0) (.slice e0 m0 n0) (.bool false) (.slice none 0 0) (.slice none 0 0) 27 27
  have Hb1 := Lib.hid (show ¬ w.heap.size + 1 < w.heap.size by omega)
  have Hd01 := Lib.hid (show w.heap.size ≠ w.heap.size + 1 by omega)
  go_enter Tryz.func28, Tryz.ntmps28
  go_wp2_with fail
  generalize (w.alloc _).alloc _ = W at B ⊢
  obtain ⟨G0, t0, t1⟩ := B
  generalize w.heap.size + 1 = b1 at t1 Hb1 Hd01 ⊢
  generalize hb0 : w.heap.size = b0 at t0 Hd01 ⊢
  have Hb0 := Lib.hid (show ¬ b0 < w.heap.size by omega)
  have G := Lib.hid G0
  have T0 := Lib.hid t0
  have T1 := Lib.hid t1
  clear hb0 G0 t0 t1
  have HA := Lib.hid (HA.out.grow G.out)
  have HN := Lib.hid (HN.out.grow G.out)
  refine wp_region_fast [(0, true), (1, true), (3, true), (2, false), (4, false), (5, false), (6, false)] (by kernel_rfl) (by kernel_rfl) rfl (by kernel_rfl) (fun _ _ d _ _ h => by cases d <;> exact h) ?_
  have T0_0 := T0.out.c0
  have T0_1 := T0.out.c1
  have T0_2 := T0.out.c2
  have T1_0 := T1.out.c0
  have T1_1 := T1.out.c1
  have T1_2 := T1.out.c2
  have g0 : Gr W W.drew := (Gr.refl _).drew
  have G := Lib.hid (G.out.trans g0)
  have T0 := Lib.hid (T0.out.grow g0)
  have T1 := Lib.hid (T1.out.grow g0)
  have HA := Lib.hid (HA.out.grow g0)
  have HN := Lib.hid (HN.out.grow g0)
  repeat (refine wpE_readB (v := ?_) g0 rfl rfl (fun w' hg => ?_) (fun K hK => ?_); rotate_left; (go_simp; rfl); go_simp; refine hK _ _ ?_; clear hK K)
  refine wpE_fn (args := ?_) rfl rfl rfl rfl rfl rfl (by kernel_rfl) (by kernel_rfl) ?_ (fun K hK => ?_)
  rotate_left
  · go_simp; rfl
  refine (v_Neg _ _ z _ L HN.out rfl (by omega)).mono ?_
  rintro _ w1 ⟨r1, rfl, g1, h1⟩
  refine ⟨_, rfl, g1, ?_⟩
  go_simp
  refine hK _ _ ?_
  clear hK K
  have G := Lib.hid (G.out.trans g1)
  have T0 := Lib.hid (T0.out.grow g1)
  have T1 := Lib.hid (T1.out.grow g1)
  have HA := Lib.hid (HA.out.grow g1)
  have HN := Lib.hid (HN.out.grow g1)
  replace g0 := g0.trans g1
  clear g1
  have H1 := Lib.hid h1
  clear h1
  refine wpE_fn (args := ?_) rfl rfl rfl rfl rfl rfl (by kernel_rfl) (by kernel_rfl) ?_ (fun K hK => ?_)
  rotate_left
  · go_simp; rfl
  refine (p_den _ _ z q L HA.out (by omega)).mono ?_
  rintro _ w2 ⟨r2, rfl, g2, h2⟩
  refine ⟨_, rfl, g2, ?_⟩
  go_simp
  refine hK _ _ ?_
  clear hK K
  have G := Lib.hid (G.out.trans g2)
  have T0 := Lib.hid (T0.out.grow g2)
  have T1 := Lib.hid (T1.out.grow g2)
  have HA := Lib.hid (HA.out.grow g2)
  have HN := Lib.hid (HN.out.grow g2)
  have H1 := Lib.hid (H1.out.grow g2)
  replace g0 := g0.trans g2
  clear g2
  have H2 := Lib.hid h2
  clear h2
  refine wpE_fn (args := ?_) rfl rfl rfl rfl rfl rfl (by kernel_rfl) (by kernel_rfl) ?_ (fun K hK => ?_)
  rotate_left
  · go_simp; rfl
  refine (rat_reduced _ _ _ (-z) q L (L + 1) H1.out.2 H2.out (by have := Hq.out; omega) (by omega) (by omega)).mono ?_
  rintro _ w3 ⟨r3, rfl, g3, h3⟩
  refine ⟨_, rfl, g3, ?_⟩
  go_simp
  refine hK _ _ ?_
  clear hK K
  have G := Lib.hid (G.out.trans g3)
  have T0 := Lib.hid (T0.out.grow g3)
  have T1 := Lib.hid (T1.out.grow g3)
  have HA := Lib.hid (HA.out.grow g3)
  have HN := Lib.hid (HN.out.grow g3)
  have H1 := Lib.hid (H1.out.grow g3)
  have H2 := Lib.hid (H2.out.grow g3)
  replace g0 := g0.trans g3
  clear g3
  have H3 := Lib.hid h3
  clear h3
  have HV := Lib.hid (show RatC _ _ (- mkRat z q) by have h := H3.out; rw [Rat.divInt_ofNat, mk_neg] at h; exact h)
  obtain ⟨s8, p8, k8, c8, e8, m8, n8, rfl⟩ := H3.out.agg
  clear T1_0 T1_1 T1_2
  have T1_0 := T1.out.load.1
  have T1_f0 := T1.out.f0 0
  have T1_1 := T1.out.load.2.1
  have T1_f1 := T1.out.f0 1
  have T1_2 := T1.out.load.2.2
  have T1_f2 := T1.out.f0 2
  refine wpE_do rfl rfl (fun K hK => ?_)
  go_simp
  refine ⟨fun h => Bool.noConfusion h, hK _ _ ?_⟩
  clear hK K
  clear T0_0 T0_1 T0_2 T1_0 T1_1 T1_2 T1_f0 T1_f1 T1_f2
  have hu := upd3 w3 b1 (.bool s8) (.slice p8 k8 c8) (.slice e8 m8 n8)
  have HV := Lib.hid (HV.out.upd T1.out.noInt hu)
  have T0 := Lib.hid (T0.out.upd hu Hd01.out)
  have T1 := Lib.hid (T1.out.set (.bool s8) (.slice p8 k8 c8) (.slice e8 m8 n8))
  have G := Lib.hid (G.out.three Hb1.out (.bool s8) (.slice p8 k8 c8) (.slice e8 m8 n8))
  clear hu
  generalize ((w3.setCell _ _).setCell _ _).setCell _ _ = W1 at G T0 T1 HV ⊢
  refine wpE_nil ?_
  clear g0
  go_wp2_with fail
  have T1_0 := T1.out.load.1
  have T1_1 := T1.out.load.2.1
  have T1_2 := T1.out.load.2.2
  refine bodyPost_ret (by simp [results, Tryz.results28, go_sem, T1_0, T1_1, T1_2]; rfl) rfl ?_
  exact ⟨_, rfl, G.out, HV.out⟩
theorem q_Neg (w : World) (va : Value) (x s : Rat) (L : Nat) (ha : RatV w va x L) (hs : - x = s) (hL : L ≤ 1000) :
    Calls Tryz.prog 28 #[va] w (Ret w fun r w' => RatC w' r s) := by
  obtain ⟨z, q, ha2, rfl⟩ := ha.p
  subst hs
  exact p_Neg w va z q L ha2 hL
theorem RatV.agg {w : World} {v : Value} {x : Rat} {L : Nat} (h : RatV w v x L) : ∃ s p k c p' m e, v = .agg #[.bool s, .slice p k c, .slice p' m e] := by
  obtain ⟨z, q, h, -⟩ := h.p; exact h.agg

set_option maxRecDepth 100000 in
set_option maxHeartbeats 3200000 in
theorem q_Sub (w : World) (va vb : Value) (x y s : Rat) (L M : Nat) (ha : RatV w va x L) (hb : RatV w vb y M) (hsy : Sz M (- y)) (hs : x - y = s) (hL : L ≤ 1000) (hM : M ≤ 1000) :
    Calls Tryz.prog 27 #[va, vb] w (Ret w fun r w' => RatC w' r s) := by
  have HA := Lib.hid ha
  have HB := Lib.hid hb
  obtain ⟨s0, p0, k0, c0, e0, m0, n0, rfl⟩ := ha.agg
  obtain ⟨s1, p1, k1, c1, e1, m1, n1, rfl⟩ := hb.agg
  clear ha hb
  have B := box333 w (.bool s0) (.slice p0 k0 c0) (.slice e0 m0 n0) (.bool s1) (.slice p1 k1 c1) (.slice e1 m1 n1) (.bool false) (.slice none 0 0) (.slice none 0 0) 27 27 27
  have Hb1 := Lib.hid (show ¬ w.heap.size + 1 < w.heap.size by omega)
  have Hb2 := Lib.hid (show ¬ w.heap.size + 1 + 1 < w.heap.size by omega)
  have Hd01 := Lib.hid (show w.heap.size ≠ w.heap.size + 1 by omega)
  have Hd02 := Lib.hid (show w.heap.size ≠ w.heap.size + 1 + 1 by omega)
  have Hd12 := Lib.hid (show w.heap.size + 1 ≠ w.heap.size + 1 + 1 by omega)
  go_enter Tryz.func27, Tryz.ntmps27
  go_wp2_with fail
  generalize ((w.alloc _).alloc _).alloc _ = W at B ⊢
  obtain ⟨G0, t0, t1, t2⟩ := B
  generalize w.heap.size + 1 + 1 = b2 at t2 Hb2 Hd02 Hd12 ⊢
  generalize w.heap.size + 1 = b1 at t1 Hb1 Hd01 Hd12 ⊢
  generalize hb0 : w.heap.size = b0 at t0 Hd01 Hd02 ⊢
  have Hb0 := Lib.hid (show ¬ b0 < w.heap.size by omega)
  have G := Lib.hid G0
  have T0 := Lib.hid t0
  have T1 := Lib.hid t1
  have T2 := Lib.hid t2
  clear hb0 G0 t0 t1 t2
  have HA := Lib.hid (HA.out.grow G.out)
  have HB := Lib.hid (HB.out.grow G.out)
  refine wp_region_fast [(0, true), (1, true), (2, false), (3, false), (4, false)] (by kernel_rfl) (by kernel_rfl) rfl (by kernel_rfl) (fun _ _ d _ _ h => by cases d <;> exact h) ?_
  have T0_0 := T0.out.c0
  have T0_1 := T0.out.c1
  have T0_2 := T0.out.c2
  have T1_0 := T1.out.c0
  have T1_1 := T1.out.c1
  have T1_2 := T1.out.c2
  have T2_0 := T2.out.c0
  have T2_1 := T2.out.c1
  have T2_2 := T2.out.c2
  have g0 : Gr W W.drew := (Gr.refl _).drew
  have G := Lib.hid (G.out.trans g0)
  have T0 := Lib.hid (T0.out.grow g0)
  have T1 := Lib.hid (T1.out.grow g0)
  have T2 := Lib.hid (T2.out.grow g0)
  have HA := Lib.hid (HA.out.grow g0)
  have HB := Lib.hid (HB.out.grow g0)
  repeat (refine wpE_readB (v := ?_) g0 rfl rfl (fun w' hg => ?_) (fun K hK => ?_); rotate_left; (go_simp; rfl); go_simp; refine hK _ _ ?_; clear hK K)
  refine wpE_fn (args := ?_) rfl rfl rfl rfl rfl rfl (by kernel_rfl) (by kernel_rfl) ?_ (fun K hK => ?_)
  rotate_left
  · go_simp; rfl
  refine (q_Neg _ _ y _ M HB.out rfl hM).mono ?_
  rintro _ w1 ⟨r1, rfl, g1, h1⟩
  refine ⟨_, rfl, g1, ?_⟩
  go_simp
  refine hK _ _ ?_
  clear hK K
  have G := Lib.hid (G.out.trans g1)
  have T0 := Lib.hid (T0.out.grow g1)
  have T1 := Lib.hid (T1.out.grow g1)
  have T2 := Lib.hid (T2.out.grow g1)
  have HA := Lib.hid (HA.out.grow g1)
  have HB := Lib.hid (HB.out.grow g1)
  replace g0 := g0.trans g1
  clear g1
  have H1 := Lib.hid h1
  clear h1
  refine wpE_fn (args := ?_) rfl rfl rfl rfl rfl rfl (by kernel_rfl) (by kernel_rfl) ?_ (fun K hK => ?_)
  rotate_left
  · go_simp; rfl
  refine (q_Add _ _ _ x (- y) s L M HA.out (H1.out.v hsy) (by rw [← hs, Rat.sub_eq_add_neg]) hL hM).mono ?_
  rintro _ w2 ⟨r2, rfl, g2, h2⟩
  refine ⟨_, rfl, g2, ?_⟩
  go_simp
  refine hK _ _ ?_
  clear hK K
  have G := Lib.hid (G.out.trans g2)
  have T0 := Lib.hid (T0.out.grow g2)
  have T1 := Lib.hid (T1.out.grow g2)
  have T2 := Lib.hid (T2.out.grow g2)
  have HA := Lib.hid (HA.out.grow g2)
  have HB := Lib.hid (HB.out.grow g2)
  have H1 := Lib.hid (H1.out.grow g2)
  replace g0 := g0.trans g2
  clear g2
  have H2 := Lib.hid h2
  clear h2
  obtain ⟨s8, p8, k8, c8, e8, m8, n8, rfl⟩ := H2.out.agg
  clear T2_0 T2_1 T2_2
  have T2_0 := T2.out.load.1
  have T2_f0 := T2.out.f0 0
  have T2_1 := T2.out.load.2.1
  have T2_f1 := T2.out.f0 1
  have T2_2 := T2.out.load.2.2
  have T2_f2 := T2.out.f0 2
  refine wpE_do rfl rfl (fun K hK => ?_)
  go_simp
  refine ⟨fun h => Bool.noConfusion h, hK _ _ ?_⟩
  clear hK K
  clear T0_0 T0_1 T0_2 T1_0 T1_1 T1_2 T2_0 T2_1 T2_2 T2_f0 T2_f1 T2_f2
  have hu := upd3 w2 b2 (.bool s8) (.slice p8 k8 c8) (.slice e8 m8 n8)
  have H2 := Lib.hid (H2.out.upd T2.out.noInt hu)
  have T0 := Lib.hid (T0.out.upd hu Hd02.out)
  have T1 := Lib.hid (T1.out.upd hu Hd12.out)
  have T2 := Lib.hid (T2.out.set (.bool s8) (.slice p8 k8 c8) (.slice e8 m8 n8))
  have G := Lib.hid (G.out.three Hb2.out (.bool s8) (.slice p8 k8 c8) (.slice e8 m8 n8))
  clear hu
  generalize ((w2.setCell _ _).setCell _ _).setCell _ _ = W1 at G T0 T1 T2 H2 ⊢
  refine wpE_nil ?_
  clear g0
  go_wp2_with fail
  have T2_0 := T2.out.load.1
  have T2_1 := T2.out.load.2.1
  have T2_2 := T2.out.load.2.2
  refine bodyPost_ret (by simp [results, Tryz.results27, go_sem, T2_0, T2_1, T2_2]; rfl) rfl ?_
  exact ⟨_, rfl, G.out, H2.out⟩
end Go.Proofs.YtmcgkglmlfbijaaGreatDoor

/-
  Fractions: comparison, quotients, making, rounding.
-/
import Derived.Test.YtmcgkglmlfbijaaGreatDoorRatE
namespace Go.Proofs.YtmcgkglmlfbijaaGreatDoor
open Go.RowKit Go.Lib
set_option linter.unusedVariables false
set_option linter.unusedSimpArgs false

set_option maxRecDepth 100000 in
set_option maxHeartbeats 3200000 in
theorem p_Cmp (w : World) (va vb : Value) (z z' : Int) (q q' L M : Nat) (ha : RatP w va z q L) (hb : RatP w vb z' q' M) (hL : L ≤ 1000) (hM : M ≤ 1000) :
    Calls Tryz.prog 23 #[va, vb] w (Ret w fun r w' => r = .int .i64 (cmpQ (mkRat z q) (mkRat z' q'))) := by
  have HA := Lib.hid ha
  have HB := Lib.hid hb
  obtain ⟨s0, p0, k0, c0, e0, m0, n0, rfl⟩ := ha.agg
  obtain ⟨s1, p1, k1, c1, e1, m1, n1, rfl⟩ := hb.agg
  have HN := Lib.hid (ha.num)
  have HM := Lib.hid (hb.num)
  have HR := Lib.hid (cmp_mk z z' ha.ne hb.ne)
  clear ha hb
  have B := box33 w (.bool s0) (.slice p0 k0 c0) (.slice e0 m0 n0) (.bool s1) (.slice p1 k1 c1) (.slice e1 m1 n1) 27 27
  have Hb1 := Lib.hid (show ¬ w.heap.size + 1 < w.heap.size by omega)
  have Hd01 := Lib.hid (show w.heap.size ≠ w.heap.size + 1 by omega)
  go_enter Tryz.func23, Tryz.ntmps23
  go_wp2_with fail
  generalize (w.alloc _).alloc _ = W at B ⊢
  obtain ⟨G0, t0, t1⟩ := B
  generalize w.heap.size + 1 = b1 at t1 Hb1 Hd01 ⊢
  generalize hb0 : w.heap.size = b0 at t0 Hd01 ⊢
  have Hb0 := Lib.hid (show ¬ b0 < w.heap.size by omega)
  have G := Lib.hid G0
  have T0 := Lib.hid t0
  have T1 := Lib.hid t1
  clear hb0 G0 t0 t1
  have HA := Lib.hid (HA.out.grow G.out)
  have HB := Lib.hid (HB.out.grow G.out)
  have HN := Lib.hid (HN.out.grow G.out)
  have HM := Lib.hid (HM.out.grow G.out)
  refine wp_region_fast [(0, true), (1, true), (2, true), (5, true), (6, true), (7, true), (3, false), (4, false), (8, false), (9, false), (10, false), (11, true)] (by kernel_rfl) (by kernel_rfl) rfl (by kernel_rfl) (fun _ _ d _ _ h => by cases d <;> exact h) ?_
  have T0_0 := T0.out.c0
  have T0_1 := T0.out.c1
  have T0_2 := T0.out.c2
  have T1_0 := T1.out.c0
  have T1_1 := T1.out.c1
  have T1_2 := T1.out.c2
  have g0 : Gr W W.drew := (Gr.refl _).drew
  have G := Lib.hid (G.out.trans g0)
  have T0 := Lib.hid (T0.out.grow g0)
  have T1 := Lib.hid (T1.out.grow g0)
  have HA := Lib.hid (HA.out.grow g0)
  have HB := Lib.hid (HB.out.grow g0)
  have HN := Lib.hid (HN.out.grow g0)
  have HM := Lib.hid (HM.out.grow g0)
  repeat (refine wpE_readB (v := ?_) g0 rfl rfl (fun w' hg => ?_) (fun K hK => ?_); rotate_left; (go_simp; rfl); go_simp; refine hK _ _ ?_; clear hK K)
  refine wpE_fn (args := ?_) rfl rfl rfl rfl rfl rfl (by kernel_rfl) (by kernel_rfl) ?_ (fun K hK => ?_)
  rotate_left
  · go_simp; rfl
  refine (p_den _ _ z' q' M HB.out (by omega)).mono ?_
  rintro _ w1 ⟨r1, rfl, g1, h1⟩
  refine ⟨_, rfl, g1, ?_⟩
  go_simp
  refine hK _ _ ?_
  clear hK K
  have G := Lib.hid (G.out.trans g1)
  have T0 := Lib.hid (T0.out.grow g1)
  have T1 := Lib.hid (T1.out.grow g1)
  have HA := Lib.hid (HA.out.grow g1)
  have HB := Lib.hid (HB.out.grow g1)
  have HN := Lib.hid (HN.out.grow g1)
  have HM := Lib.hid (HM.out.grow g1)
  replace g0 := g0.trans g1
  clear g1
  have H1 := Lib.hid h1
  clear h1
  refine wpE_fn (args := ?_) rfl rfl rfl rfl rfl rfl (by kernel_rfl) (by kernel_rfl) ?_ (fun K hK => ?_)
  rotate_left
  · go_simp; rfl
  refine (v_Mul _ _ _ z q' _ L (M + 1) HN.out H1.out rfl (by omega) (by omega)).mono ?_
  rintro _ w2 ⟨r2, rfl, g2, h2⟩
  refine ⟨_, rfl, g2, ?_⟩
  go_simp
  refine hK _ _ ?_
  clear hK K
  have G := Lib.hid (G.out.trans g2)
  have T0 := Lib.hid (T0.out.grow g2)
  have T1 := Lib.hid (T1.out.grow g2)
  have HA := Lib.hid (HA.out.grow g2)
  have HB := Lib.hid (HB.out.grow g2)
  have HN := Lib.hid (HN.out.grow g2)
  have HM := Lib.hid (HM.out.grow g2)
  have H1 := Lib.hid (H1.out.grow g2)
  replace g0 := g0.trans g2
  clear g2
  have H2 := Lib.hid h2
  clear h2
  refine wpE_fn (args := ?_) rfl rfl rfl rfl rfl rfl (by kernel_rfl) (by kernel_rfl) ?_ (fun K hK => ?_)
  rotate_left
  · go_simp; rfl
  refine (p_den _ _ z q L HA.out (by omega)).mono ?_
  rintro _ w3 ⟨r3, rfl, g3, h3⟩
  refine ⟨_, rfl, g3, ?_⟩
  go_simp
  refine hK _ _ ?_
  clear hK K
  have G := Lib.hid (G.out.trans g3)
  have T0 := Lib.hid (T0.out.grow g3)
  have T1 := Lib.hid (T1.out.grow g3)
  have HA := Lib.hid (HA.out.grow g3)
  have HB := Lib.hid (HB.out.grow g3)
  have HN := Lib.hid (HN.out.grow g3)
  have HM := Lib.hid (HM.out.grow g3)
  have H1 := Lib.hid (H1.out.grow g3)
  have H2 := Lib.hid (H2.out.grow g3)
  replace g0 := g0.trans g3
  clear g3
  have H3 := Lib.hid h3
  clear h3
  refine wpE_fn (args := ?_) rfl rfl rfl rfl rfl rfl (by kernel_rfl) (by kernel_rfl) ?_ (fun K hK => ?_)
  rotate_left
  · go_simp; rfl
  refine (v_Mul _ _ _ z' q _ M (L + 1) HM.out H3.out rfl (by omega) (by omega)).mono ?_
  rintro _ w4 ⟨r4, rfl, g4, h4⟩
  refine ⟨_, rfl, g4, ?_⟩
  go_simp
  refine hK _ _ ?_
  clear hK K
  have G := Lib.hid (G.out.trans g4)
  have T0 := Lib.hid (T0.out.grow g4)
  have T1 := Lib.hid (T1.out.grow g4)
  have HA := Lib.hid (HA.out.grow g4)
  have HB := Lib.hid (HB.out.grow g4)
  have HN := Lib.hid (HN.out.grow g4)
  have HM := Lib.hid (HM.out.grow g4)
  have H1 := Lib.hid (H1.out.grow g4)
  have H2 := Lib.hid (H2.out.grow g4)
  have H3 := Lib.hid (H3.out.grow g4)
  replace g0 := g0.trans g4
  clear g4
  have H4 := Lib.hid h4
  clear h4
  refine wpE_fn (args := ?_) rfl rfl rfl rfl rfl rfl (by kernel_rfl) (by kernel_rfl) ?_ (fun K hK => ?_)
  rotate_left
  · go_simp; rfl
  refine (v_Cmp _ _ _ (z * q') (z' * q) _ (L + (M + 1) + 1) (M + (L + 1) + 1) H2.out.2 H4.out.2 HR.out (by omega) (by omega)).mono ?_
  rintro _ w5 ⟨_, rfl, g5, rfl⟩
  refine ⟨_, rfl, g5, ?_⟩
  go_simp
  refine hK _ _ ?_
  clear hK K
  have G := Lib.hid (G.out.trans g5)
  have T0 := Lib.hid (T0.out.grow g5)
  have T1 := Lib.hid (T1.out.grow g5)
  have HA := Lib.hid (HA.out.grow g5)
  have HB := Lib.hid (HB.out.grow g5)
  have HN := Lib.hid (HN.out.grow g5)
  have HM := Lib.hid (HM.out.grow g5)
  have H1 := Lib.hid (H1.out.grow g5)
  have H2 := Lib.hid (H2.out.grow g5)
  have H3 := Lib.hid (H3.out.grow g5)
  have H4 := Lib.hid (H4.out.grow g5)
  replace g0 := g0.trans g5
  clear g5
  repeat (refine wpE_readB (v := ?_) g0 rfl rfl (fun w' hg => ?_) (fun K hK => ?_); rotate_left; (go_simp; rfl); go_simp; refine hK _ _ ?_; clear hK K)
  refine wpE_nil ?_
  clear g0
  clear T0_0 T0_1 T0_2 T1_0 T1_1 T1_2
  go_wp2_with fail
  go_ret
  exact ⟨_, rfl, G.out, rfl⟩
theorem q_Cmp (w : World) (va vb : Value) (x y : Rat) (c : Int) (L M : Nat) (ha : RatV w va x L) (hb : RatV w vb y M) (hc : cmpQ x y = c) (hL : L ≤ 1000) (hM : M ≤ 1000) :
    Calls Tryz.prog 23 #[va, vb] w (Ret w fun r w' => r = .int .i64 c) := by
  obtain ⟨z, q, ha2, rfl⟩ := ha.p
  obtain ⟨z', q', hb2, rfl⟩ := hb.p
  subst hc
  exact p_Cmp w va vb z z' q q' L M ha2 hb2 hL hM

set_option maxRecDepth 100000 in
theorem q_Sign (w : World) (va : Value) (x : Rat) (c : Int) (L : Nat) (ha : RatV w va x L) (hc : sgn x.num = c) (hL : L ≤ 1000) :
    Calls Tryz.prog 26 #[va] w (Ret w fun r w' => r = .int .i64 c) := by
  obtain ⟨z, q, ha2, rfl⟩ := ha.p
  obtain ⟨s0, p0, k0, c0, e0, m0, n0, rfl⟩ := ha2.agg
  have HN := Lib.hid (ha2.num)
  have hs := sgn_mk z ha2.ne
  rw [hc] at hs
  clear ha ha2 hc
  have B := box3 w (.bool s0) (.slice p0 k0 c0) (.slice e0 m0 n0) 27
  go_enter Tryz.func26, Tryz.ntmps26
  go_wp2_with fail
  generalize w.alloc _ = W at B ⊢
  obtain ⟨G0, t0⟩ := B
  generalize hb0 : w.heap.size = b0 at t0  ⊢
  have Hb0 := Lib.hid (show ¬ b0 < w.heap.size by omega)
  have G := Lib.hid G0
  have T0 := Lib.hid t0
  clear hb0 G0 t0
  have HN := Lib.hid (HN.out.grow G.out)
  refine (v_Sign W _ z c L HN.out hs (by omega)).mono ?_
  rintro _ w1 ⟨_, rfl, g1, rfl⟩
  have G := Lib.hid (G.out.trans g1)
  have T0 := Lib.hid (T0.out.grow g1)
  have HN := Lib.hid (HN.out.grow g1)
  clear g1
  go_wp2_with fail
  go_ret
  exact ⟨_, rfl, G.out, rfl⟩

set_option maxRecDepth 100000 in
set_option maxHeartbeats 1600000 in
theorem q_MakeOk (w : World) (va vb : Value) (x y : Int) (L M : Nat) (hx : IntV w va x L) (hy : IntV w vb y M) (h0 : y ≠ 0) (hL : L ≤ 1000) (hM : M ≤ 1000) :
    Calls Tryz.prog 36 #[va, vb] w (Ret w fun r w' => ∃ u, r = .tuple #[u, .int .i64 0] ∧ RatC w' u (Rat.divInt x y)) := by
  have HX := Lib.hid hx
  have HY := Lib.hid hy
  obtain ⟨s0, p0, k0, c0, rfl⟩ := hx.agg
  obtain ⟨s1, p1, k1, c1, rfl⟩ := hy.agg
  clear hx hy
  obtain ⟨sy, hsy⟩ : ∃ sy, sgn y = sy := ⟨_, rfl⟩
  have hs0 : ¬ sy = 0 := by rw [← hsy]; unfold sgn; split <;> simp_all
  have B := box223 w (.bool s0) (.slice p0 k0 c0) (.bool s1) (.slice p1 k1 c1) (.bool false) (.slice none 0 0) (.slice none 0 0) 25 25 27
  have Hb1 := Lib.hid (show ¬ w.heap.size + 1 < w.heap.size by omega)
  have Hb2 := Lib.hid (show ¬ w.heap.size + 1 + 1 < w.heap.size by omega)
  have Hd01 := Lib.hid (show w.heap.size ≠ w.heap.size + 1 by omega)
  have Hd02 := Lib.hid (show w.heap.size ≠ w.heap.size + 1 + 1 by omega)
  have Hd12 := Lib.hid (show w.heap.size + 1 ≠ w.heap.size + 1 + 1 by omega)
  go_enter Tryz.func36, Tryz.ntmps36
  go_wp2_with fail
  generalize ((w.alloc _).alloc _).alloc _ = W at B ⊢
  obtain ⟨G0, t0, t1, t2⟩ := B
  generalize w.heap.size + 1 + 1 = b2 at t2 Hb2 Hd02 Hd12 ⊢
  generalize w.heap.size + 1 = b1 at t1 Hb1 Hd01 Hd12 ⊢
  generalize hb0 : w.heap.size = b0 at t0 Hd01 Hd02 ⊢
  have Hb0 := Lib.hid (show ¬ b0 < w.heap.size by omega)
  have G := Lib.hid G0
  have T0 := Lib.hid t0
  have T1 := Lib.hid t1
  have T2 := Lib.hid t2
  clear hb0 G0 t0 t1 t2
  have HX := Lib.hid (HX.out.grow G.out)
  have HY := Lib.hid (HY.out.grow G.out)
  refine (v_Sign W _ y sy M HY.out hsy (by omega)).mono ?_
  rintro _ w1 ⟨_, rfl, g1, rfl⟩
  have G := Lib.hid (G.out.trans g1)
  have T0 := Lib.hid (T0.out.grow g1)
  have T1 := Lib.hid (T1.out.grow g1)
  have T2 := Lib.hid (T2.out.grow g1)
  have HX := Lib.hid (HX.out.grow g1)
  have HY := Lib.hid (HY.out.grow g1)
  clear g1
  have T0_0 := T0.out.load.1
  have T0_1 := T0.out.load.2
  have T1_0 := T1.out.load.1
  have T1_1 := T1.out.load.2
  go_wp2_with fail
  refine (rat_reduced w1 _ _ x y L M HX.out HY.out h0 (by omega) (by omega)).mono ?_
  rintro _ w2 ⟨r2, rfl, g2, h2⟩
  clear T0_0 T0_1 T1_0 T1_1
  have G := Lib.hid (G.out.trans g2)
  have T0 := Lib.hid (T0.out.grow g2)
  have T1 := Lib.hid (T1.out.grow g2)
  have T2 := Lib.hid (T2.out.grow g2)
  have HX := Lib.hid (HX.out.grow g2)
  have HY := Lib.hid (HY.out.grow g2)
  clear g2
  have H2 := Lib.hid h2
  clear h2
  obtain ⟨s8, p8, k8, c8, e8, m8, n8, rfl⟩ := H2.out.agg
  have T2_0 := T2.out.load.1
  have T2_f0 := T2.out.f0 0
  have T2_1 := T2.out.load.2.1
  have T2_f1 := T2.out.f0 1
  have T2_2 := T2.out.load.2.2
  have T2_f2 := T2.out.f0 2
  go_wp2_with fail
  clear T2_0 T2_f0 T2_1 T2_f1 T2_2 T2_f2
  have hu := upd3 w2 b2 (.bool s8) (.slice p8 k8 c8) (.slice e8 m8 n8)
  have H2 := Lib.hid (H2.out.upd T2.out.noInt hu)
  have T0 := Lib.hid (T0.out.upd hu Hd02.out)
  have T1 := Lib.hid (T1.out.upd hu Hd12.out)
  have T2 := Lib.hid (T2.out.set (.bool s8) (.slice p8 k8 c8) (.slice e8 m8 n8))
  have G := Lib.hid (G.out.three Hb2.out (.bool s8) (.slice p8 k8 c8) (.slice e8 m8 n8))
  clear hu
  generalize ((w2.setCell _ _).setCell _ _).setCell _ _ = W1 at G T0 T1 T2 H2 ⊢
  have T2_0 := T2.out.load.1
  have T2_1 := T2.out.load.2.1
  have T2_2 := T2.out.load.2.2
  refine bodyPost_ret (by simp [results, Tryz.results36, go_sem, T2_0, T2_1, T2_2]; rfl) rfl ?_
  exact ⟨_, rfl, G.out, _, rfl, H2.out⟩
set_option maxRecDepth 100000 in
set_option maxHeartbeats 1600000 in
theorem q_MakeNo (w : World) (va vb : Value) (x : Int) (L M : Nat) (hx : IntV w va x L) (hy : IntV w vb 0 M) (hL : L ≤ 1000) (hM : M ≤ 1000) :
    Calls Tryz.prog 36 #[va, vb] w (Ret w fun r w' => r = .tuple #[.agg #[.bool false, .slice none 0 0, .slice none 0 0], .int .i64 2]) := by
  have HY := Lib.hid hy
  obtain ⟨s0, p0, k0, c0, rfl⟩ := hx.agg
  obtain ⟨s1, p1, k1, c1, rfl⟩ := hy.agg
  clear hx hy
  have B := box223 w (.bool s0) (.slice p0 k0 c0) (.bool s1) (.slice p1 k1 c1) (.bool false) (.slice none 0 0) (.slice none 0 0) 25 25 27
  have Hb1 := Lib.hid (show ¬ w.heap.size + 1 < w.heap.size by omega)
  have Hb2 := Lib.hid (show ¬ w.heap.size + 1 + 1 < w.heap.size by omega)
  have Hd01 := Lib.hid (show w.heap.size ≠ w.heap.size + 1 by omega)
  have Hd02 := Lib.hid (show w.heap.size ≠ w.heap.size + 1 + 1 by omega)
  have Hd12 := Lib.hid (show w.heap.size + 1 ≠ w.heap.size + 1 + 1 by omega)
  go_enter Tryz.func36, Tryz.ntmps36
  go_wp2_with fail
  generalize ((w.alloc _).alloc _).alloc _ = W at B ⊢
  obtain ⟨G0, t0, t1, t2⟩ := B
  generalize w.heap.size + 1 + 1 = b2 at t2 Hb2 Hd02 Hd12 ⊢
  generalize w.heap.size + 1 = b1 at t1 Hb1 Hd01 Hd12 ⊢
  generalize hb0 : w.heap.size = b0 at t0 Hd01 Hd02 ⊢
  have Hb0 := Lib.hid (show ¬ b0 < w.heap.size by omega)
  have G := Lib.hid G0
  have T0 := Lib.hid t0
  have T1 := Lib.hid t1
  have T2 := Lib.hid t2
  clear hb0 G0 t0 t1 t2
  have HY := Lib.hid (HY.out.grow G.out)
  refine (v_Sign W _ 0 0 M HY.out (by decide) (by omega)).mono ?_
  rintro _ w1 ⟨_, rfl, g1, rfl⟩
  have G := Lib.hid (G.out.trans g1)
  have T0 := Lib.hid (T0.out.grow g1)
  have T1 := Lib.hid (T1.out.grow g1)
  have T2 := Lib.hid (T2.out.grow g1)
  have HY := Lib.hid (HY.out.grow g1)
  clear g1
  have T2_0 := T2.out.load.1
  have T2_f0 := T2.out.f0 0
  have T2_1 := T2.out.load.2.1
  have T2_f1 := T2.out.f0 1
  have T2_2 := T2.out.load.2.2
  have T2_f2 := T2.out.f0 2
  go_wp2_with fail
  clear T2_0 T2_f0 T2_1 T2_f1 T2_2 T2_f2
  have hu := upd3 w1 b2 (.bool false) (.slice none 0 0) (.slice none 0 0)
  have HY := Lib.hid (HY.out.upd T2.out.noInt hu)
  have T0 := Lib.hid (T0.out.upd hu Hd02.out)
  have T1 := Lib.hid (T1.out.upd hu Hd12.out)
  have T2 := Lib.hid (T2.out.set (.bool false) (.slice none 0 0) (.slice none 0 0))
  have G := Lib.hid (G.out.three Hb2.out (.bool false) (.slice none 0 0) (.slice none 0 0))
  clear hu
  generalize ((w1.setCell _ _).setCell _ _).setCell _ _ = W1 at G T0 T1 T2 HY ⊢
  have T2_0 := T2.out.load.1
  have T2_1 := T2.out.load.2.1
  have T2_2 := T2.out.load.2.2
  refine bodyPost_ret (by simp [results, Tryz.results36, go_sem, T2_0, T2_1, T2_2]; rfl) rfl ?_
  exact ⟨_, rfl, G.out, rfl⟩

set_option maxRecDepth 100000 in
set_option maxHeartbeats 1600000 in
theorem q_From (w : World) (z : Int) (h1 : -9223372036854775808 ≤ z) (h2 : z ≤ 9223372036854775807) :
    Calls Tryz.prog 41 #[.int .i64 z] w (Ret w fun r w' => RatC w' r (z : Rat)) := by
  have B := box3 w (.bool false) (.slice none 0 0) (.slice none 0 0) 27
  go_enter Tryz.func41, Tryz.ntmps41
  go_wp2_with fail
  generalize w.alloc _ = W at B ⊢
  obtain ⟨G0, t0⟩ := B
  generalize hb0 : w.heap.size = b0 at t0  ⊢
  have Hb0 := Lib.hid (show ¬ b0 < w.heap.size by omega)
  have G := Lib.hid G0
  have T0 := Lib.hid t0
  clear hb0 G0 t0
  refine (int_From W z h1 h2).mono ?_
  rintro _ w1 ⟨r1, rfl, g1, h1⟩
  have G := Lib.hid (G.out.trans g1)
  have T0 := Lib.hid (T0.out.grow g1)
  clear g1
  have H1 := Lib.hid h1
  clear h1
  obtain ⟨p2, k2, c2, rfl⟩ := H1.out.agg
  generalize decide (z < 0) = s2 at H1 ⊢
  have HV := Lib.hid (RatC.ofInt H1.out)
  have T0_0 := T0.out.load.1
  have T0_f0 := T0.out.f0 0
  have T0_1 := T0.out.load.2.1
  have T0_f1 := T0.out.f0 1
  have T0_2 := T0.out.load.2.2
  have T0_f2 := T0.out.f0 2
  go_wp2_with fail
  clear T0_0 T0_f0 T0_1 T0_f1 T0_2 T0_f2
  have hu := upd3 w1 b0 (.bool s2) (.slice p2 k2 c2) (.slice none 0 0)
  have HV := Lib.hid (HV.out.upd T0.out.noInt hu)
  have T0 := Lib.hid (T0.out.set (.bool s2) (.slice p2 k2 c2) (.slice none 0 0))
  have G := Lib.hid (G.out.three Hb0.out (.bool s2) (.slice p2 k2 c2) (.slice none 0 0))
  clear hu
  generalize ((w1.setCell _ _).setCell _ _).setCell _ _ = W1 at G T0 HV ⊢
  have T0_0 := T0.out.load.1
  have T0_1 := T0.out.load.2.1
  have T0_2 := T0.out.load.2.2
  refine bodyPost_ret (by simp [results, Tryz.results41, go_sem, T0_0, T0_1, T0_2]; rfl) rfl ?_
  exact ⟨_, rfl, G.out, HV.out⟩

theorem i64_len (z : Int) (h1 : -9223372036854775808 ≤ z) (h2 : z ≤ 9223372036854775807) : (digs z.natAbs).length ≤ 2 := digs_two.2 (by omega)
set_option maxRecDepth 100000 in
set_option maxHeartbeats 1600000 in
theorem q_FracOk (w : World) (x y : Int) (x1 : -9223372036854775808 ≤ x) (x2 : x ≤ 9223372036854775807) (y1 : -9223372036854775808 ≤ y) (y2 : y ≤ 9223372036854775807) (h0 : y ≠ 0) :
    Calls Tryz.prog 20 #[.int .i64 x, .int .i64 y] w (Ret w fun r w' => ∃ u, r = .tuple #[u, .int .i64 0] ∧ RatC w' u (Rat.divInt x y)) := by
  have B := box3 w (.bool false) (.slice none 0 0) (.slice none 0 0) 27
  go_enter Tryz.func20, Tryz.ntmps20
  go_wp2_with fail
  generalize w.alloc _ = W at B ⊢
  obtain ⟨G0, t0⟩ := B
  generalize hb0 : w.heap.size = b0 at t0  ⊢
  have Hb0 := Lib.hid (show ¬ b0 < w.heap.size by omega)
  have G := Lib.hid G0
  have T0 := Lib.hid t0
  clear hb0 G0 t0
  refine (int_From W x x1 x2).mono ?_
  rintro _ w1 ⟨r1, rfl, g1, h1⟩
  have G := Lib.hid (G.out.trans g1)
  have T0 := Lib.hid (T0.out.grow g1)
  clear g1
  have H1 := Lib.hid h1
  clear h1
  go_wp2_with fail
  refine (int_From w1 y y1 y2).mono ?_
  rintro _ w2 ⟨r2, rfl, g2, h2⟩
  have G := Lib.hid (G.out.trans g2)
  have T0 := Lib.hid (T0.out.grow g2)
  have H1 := Lib.hid (H1.out.grow g2)
  clear g2
  have H2 := Lib.hid h2
  clear h2
  go_wp2_with fail
  refine (q_MakeOk w2 _ _ x y 2 2 (H1.out.v (i64_len x x1 x2)) (H2.out.v (i64_len y y1 y2)) h0 (by decide) (by decide)).mono ?_
  rintro _ w3 ⟨_, rfl, g3, u, rfl, hu⟩
  have G := Lib.hid (G.out.trans g3)
  have T0 := Lib.hid (T0.out.grow g3)
  have H1 := Lib.hid (H1.out.grow g3)
  have H2 := Lib.hid (H2.out.grow g3)
  clear g3
  have H3 := Lib.hid hu
  clear hu
  obtain ⟨s8, p8, k8, c8, e8, m8, n8, rfl⟩ := H3.out.agg
  have T0_0 := T0.out.load.1
  have T0_f0 := T0.out.f0 0
  have T0_1 := T0.out.load.2.1
  have T0_f1 := T0.out.f0 1
  have T0_2 := T0.out.load.2.2
  have T0_f2 := T0.out.f0 2
  go_wp2_with fail
  clear T0_0 T0_f0 T0_1 T0_f1 T0_2 T0_f2
  have hu := upd3 w3 b0 (.bool s8) (.slice p8 k8 c8) (.slice e8 m8 n8)
  have H3 := Lib.hid (H3.out.upd T0.out.noInt hu)
  have T0 := Lib.hid (T0.out.set (.bool s8) (.slice p8 k8 c8) (.slice e8 m8 n8))
  have G := Lib.hid (G.out.three Hb0.out (.bool s8) (.slice p8 k8 c8) (.slice e8 m8 n8))
  clear hu
  generalize ((w3.setCell _ _).setCell _ _).setCell _ _ = W1 at G T0 H3 ⊢
  have T0_0 := T0.out.load.1
  have T0_1 := T0.out.load.2.1
  have T0_2 := T0.out.load.2.2
  refine bodyPost_ret (by simp [results, Tryz.results20, go_sem, T0_0, T0_1, T0_2]; rfl) rfl ?_
  exact ⟨_, rfl, G.out, _, rfl, H3.out⟩
set_option maxRecDepth 100000 in
set_option maxHeartbeats 1600000 in
theorem q_FracNo (w : World) (x : Int) (x1 : -9223372036854775808 ≤ x) (x2 : x ≤ 9223372036854775807) :
    Calls Tryz.prog 20 #[.int .i64 x, .int .i64 0] w (Ret w fun r w' => r = .tuple #[.agg #[.bool false, .slice none 0 0, .slice none 0 0], .int .i64 2]) := by
  have B := box3 w (.bool false) (.slice none 0 0) (.slice none 0 0) 27
  go_enter Tryz.func20, Tryz.ntmps20
  go_wp2_with fail
  generalize w.alloc _ = W at B ⊢
  obtain ⟨G0, t0⟩ := B
  generalize hb0 : w.heap.size = b0 at t0  ⊢
  have Hb0 := Lib.hid (show ¬ b0 < w.heap.size by omega)
  have G := Lib.hid G0
  have T0 := Lib.hid t0
  clear hb0 G0 t0
  refine (int_From W x x1 x2).mono ?_
  rintro _ w1 ⟨r1, rfl, g1, h1⟩
  have G := Lib.hid (G.out.trans g1)
  have T0 := Lib.hid (T0.out.grow g1)
  clear g1
  have H1 := Lib.hid h1
  clear h1
  go_wp2_with fail
  refine (int_From w1 0 (by decide) (by decide)).mono ?_
  rintro _ w2 ⟨r2, rfl, g2, h2⟩
  have G := Lib.hid (G.out.trans g2)
  have T0 := Lib.hid (T0.out.grow g2)
  have H1 := Lib.hid (H1.out.grow g2)
  clear g2
  have H2 := Lib.hid h2
  clear h2
  go_wp2_with fail
  refine (q_MakeNo w2 _ _ x 2 2 (H1.out.v (i64_len x x1 x2)) (H2.out.v (by decide +kernel)) (by decide) (by decide)).mono ?_
  rintro _ w3 ⟨_, rfl, g3, rfl⟩
  have G := Lib.hid (G.out.trans g3)
  have T0 := Lib.hid (T0.out.grow g3)
  have H1 := Lib.hid (H1.out.grow g3)
  have H2 := Lib.hid (H2.out.grow g3)
  clear g3
  have T0_0 := T0.out.load.1
  have T0_f0 := T0.out.f0 0
  have T0_1 := T0.out.load.2.1
  have T0_f1 := T0.out.f0 1
  have T0_2 := T0.out.load.2.2
  have T0_f2 := T0.out.f0 2
  go_wp2_with fail
  clear T0_0 T0_f0 T0_1 T0_f1 T0_2 T0_f2
  have hu := upd3 w3 b0 (.bool false) (.slice none 0 0) (.slice none 0 0)
  have H1 := Lib.hid (H1.out.upd T0.out.noInt hu)
  have H2 := Lib.hid (H2.out.upd T0.out.noInt hu)
  have T0 := Lib.hid (T0.out.set (.bool false) (.slice none 0 0) (.slice none 0 0))
  have G := Lib.hid (G.out.three Hb0.out (.bool false) (.slice none 0 0) (.slice none 0 0))
  clear hu
  generalize ((w3.setCell _ _).setCell _ _).setCell _ _ = W1 at G T0 H1 H2 ⊢
  have T0_0 := T0.out.load.1
  have T0_1 := T0.out.load.2.1
  have T0_2 := T0.out.load.2.2
  refine bodyPost_ret (by simp [results, Tryz.results20, go_sem, T0_0, T0_1, T0_2]; rfl) rfl ?_
  exact ⟨_, rfl, G.out, rfl⟩
end Go.Proofs.YtmcgkglmlfbijaaGreatDoor

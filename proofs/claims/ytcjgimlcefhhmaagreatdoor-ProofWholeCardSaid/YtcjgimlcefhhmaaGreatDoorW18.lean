/- Texts: RatE RatF RatG. -/
import Derived.Test.YtcjgimlcefhhmaaGreatDoorW1
import Derived.Test.YtcjgimlcefhhmaaGreatDoorW17
set_option linter.unusedVariables false
set_option linter.unusedSimpArgs false
set_option maxRecDepth 100000
set_option maxHeartbeats 12800000
namespace Go.Proofs.YtcjgimlcefhhmaaGreatDoor
open Go.RowKit Go.Lib
theorem ξ70 (w : World) (va vb : Value) (z z' : Int) (q q' : Nat) (N D : Int) (KK L M : Nat) (ha : RatP w va z q L) (hb : RatP w vb z' q' M) (hL : L ≤ 100000) (hM : M ≤ 100000) (hKK : KK ≤ 1000000) (hD : D ≠ 0)
  (hF : ∀ w' v1 v2 v3 v4, IntV w' v1 z (L + 1) → IntV w' v2 q (L + 1) → IntV w' v3 z' (M + 1) → IntV w' v4 q' (M + 1) → Calls Tryz.prog 201 #[v1, v2, v3, v4] w' (Ret w' fun x w'' => ∃ u v, x = .tuple #[u, v] ∧ IntV w'' u N KK ∧ IntV w'' v D KK)) :
  Calls Tryz.prog 200 #[va, vb, .func (.func 201) #[] #[]] w (Ret w fun r w' => RatC w' r (Rat.divInt N D)) := by
 have HA := ξ ha
 have HB := ξ hb
 have HF := ξ hF
 obtain ⟨s0, p0, k0, c0, e0, m0, n0, rfl⟩ := ha.agg
 obtain ⟨s1, p1, k1, c1, e1, m1, n1, rfl⟩ := hb.agg
 have HN := ξ (ha.num)
 have HM := ξ (hb.num)
 clear ha hb hF
 have B := box333 w (.bool s0) (.slice p0 k0 c0) (.slice e0 m0 n0) (.bool s1) (.slice p1 k1 c1) (.slice e1 m1 n1) (.bool false) (.slice none 0 0) (.slice none 0 0) 68 68 68
 have Hb1 := ξ (show ¬ w.heap.size + 1 < w.heap.size by omega)
 have Hb2 := ξ (show ¬ w.heap.size + 1 + 1 < w.heap.size by omega)
 have Hd01 := ξ (show w.heap.size ≠ w.heap.size + 1 by omega)
 have Hd02 := ξ (show w.heap.size ≠ w.heap.size + 1 + 1 by omega)
 have Hd12 := ξ (show w.heap.size + 1 ≠ w.heap.size + 1 + 1 by omega)
 go_enter Tryz.func200, Tryz.ntmps200
 go_wp2_with fail
 generalize ((w.alloc _).alloc _).alloc _ = W at B ⊢
 obtain ⟨G0, t0, t1, t2⟩ := B
 generalize w.heap.size + 1 + 1 = b2 at t2 Hb2 Hd02 Hd12 ⊢
 generalize w.heap.size + 1 = b1 at t1 Hb1 Hd01 Hd12 ⊢
 generalize hb0 : w.heap.size = b0 at t0 Hd01 Hd02 ⊢
 have Hb0 := ξ (show ¬ b0 < w.heap.size by omega)
 have G := ξ G0
 have T0 := ξ t0
 have T1 := ξ t1
 have T2 := ξ t2
 clear hb0 G0 t0 t1 t2
 have HA := ξ (HA.out.grow G.out)
 have HB := ξ (HB.out.grow G.out)
 have HN := ξ (HN.out.grow G.out)
 have HM := ξ (HM.out.grow G.out)
 refine ξ3 [(0, true), (1, true), (2, true), (3, true), (5, true), (6, true), (7, true), (4, false), (8, false), (9, false), (10, true), (11, true), (12, false), (13, false)] (by kernel_rfl) (by kernel_rfl) rfl (by kernel_rfl) (fun _ _ d _ _ h => by cases d <;> exact h) ?_
 have T0_0 := T0.out.c0
 have T0_1 := T0.out.c1
 have T0_2 := T0.out.c2
 have T1_0 := T1.out.c0
 have T1_1 := T1.out.c1
 have T1_2 := T1.out.c2
 have T2_0 := T2.out.c0
 have T2_1 := T2.out.c1
 have T2_2 := T2.out.c2
 have g0 : Gr W W.drew := (Gr.refl _).drew
 have G := ξ (G.out.trans g0)
 have T0 := ξ (T0.out.grow g0)
 have T1 := ξ (T1.out.grow g0)
 have T2 := ξ (T2.out.grow g0)
 have HA := ξ (HA.out.grow g0)
 have HB := ξ (HB.out.grow g0)
 have HN := ξ (HN.out.grow g0)
 have HM := ξ (HM.out.grow g0)
 repeat (refine ξ2 (v := ?_) g0 rfl rfl (fun w' hg => ?_) (fun K hK => ?_); rotate_left; (go_simp; rfl); go_simp; refine hK _ _ ?_; clear hK K)
 refine ξ7 (args := ?_) rfl rfl rfl rfl rfl rfl (by kernel_rfl) (by kernel_rfl) ?_ (fun K hK => ?_)
 rotate_left
 ·go_simp; rfl
 refine (ξ1Y _ _ z q L HA.out hL).mono ?_
 rintro _ w1 ⟨r1, rfl, g1, h1⟩
 refine ⟨_, rfl, g1, ?_⟩
 go_simp
 refine hK _ _ ?_
 clear hK K
 have G := ξ (G.out.trans g1)
 have T0 := ξ (T0.out.grow g1)
 have T1 := ξ (T1.out.grow g1)
 have T2 := ξ (T2.out.grow g1)
 have HA := ξ (HA.out.grow g1)
 have HB := ξ (HB.out.grow g1)
 have HN := ξ (HN.out.grow g1)
 have HM := ξ (HM.out.grow g1)
 replace g0 := g0.trans g1
 clear g1
 have H1 := ξ h1
 clear h1
 refine ξ7 (args := ?_) rfl rfl rfl rfl rfl rfl (by kernel_rfl) (by kernel_rfl) ?_ (fun K hK => ?_)
 rotate_left
 ·go_simp; rfl
 refine (ξ1Y _ _ z' q' M HB.out hM).mono ?_
 rintro _ w2 ⟨r2, rfl, g2, h2⟩
 refine ⟨_, rfl, g2, ?_⟩
 go_simp
 refine hK _ _ ?_
 clear hK K
 have G := ξ (G.out.trans g2)
 have T0 := ξ (T0.out.grow g2)
 have T1 := ξ (T1.out.grow g2)
 have T2 := ξ (T2.out.grow g2)
 have HA := ξ (HA.out.grow g2)
 have HB := ξ (HB.out.grow g2)
 have HN := ξ (HN.out.grow g2)
 have HM := ξ (HM.out.grow g2)
 have H1 := ξ (H1.out.grow g2)
 replace g0 := g0.trans g2
 clear g2
 have H2 := ξ h2
 clear h2
 refine ξ7 (args := ?_) rfl rfl rfl rfl rfl rfl (by kernel_rfl) (by kernel_rfl) ?_ (fun K hK => ?_)
 rotate_left
 ·go_simp; rfl
 refine (HF.out _ _ _ _ _ (HN.out.mono (Nat.le_succ L)) H1.out (HM.out.mono (Nat.le_succ M)) H2.out).mono ?_
 rintro _ w3 ⟨_, rfl, g3, u, v, rfl, hu, hv⟩
 refine ⟨_, rfl, g3, ?_⟩
 go_simp
 refine hK _ _ ?_
 clear hK K
 have G := ξ (G.out.trans g3)
 have T0 := ξ (T0.out.grow g3)
 have T1 := ξ (T1.out.grow g3)
 have T2 := ξ (T2.out.grow g3)
 have HA := ξ (HA.out.grow g3)
 have HB := ξ (HB.out.grow g3)
 have HN := ξ (HN.out.grow g3)
 have HM := ξ (HM.out.grow g3)
 have H1 := ξ (H1.out.grow g3)
 have H2 := ξ (H2.out.grow g3)
 replace g0 := g0.trans g3
 clear g3
 have HU := ξ hu
 have HV := ξ hv
 clear hu hv
 repeat (refine ξ2 (v := ?_) g0 rfl rfl (fun w' hg => ?_) (fun K hK => ?_); rotate_left; (go_simp; rfl); go_simp; refine hK _ _ ?_; clear hK K)
 refine ξ7 (args := ?_) rfl rfl rfl rfl rfl rfl (by kernel_rfl) (by kernel_rfl) ?_ (fun K hK => ?_)
 rotate_left
 ·go_simp; rfl
 refine (ξ1Z _ _ _ N D KK KK HU.out HV.out hD hKK hKK).mono ?_
 rintro _ w4 ⟨r4, rfl, g4, h4⟩
 refine ⟨_, rfl, g4, ?_⟩
 go_simp
 refine hK _ _ ?_
 clear hK K
 have G := ξ (G.out.trans g4)
 have T0 := ξ (T0.out.grow g4)
 have T1 := ξ (T1.out.grow g4)
 have T2 := ξ (T2.out.grow g4)
 have HU := ξ (HU.out.grow g4)
 have HV := ξ (HV.out.grow g4)
 replace g0 := g0.trans g4
 clear g4
 have H4 := ξ h4
 clear h4
 obtain ⟨s8, p8, k8, c8, e8, m8, n8, rfl⟩ := H4.out.agg
 clear T2_0 T2_1 T2_2
 have T2_0 := T2.out.load.1
 have T2_f0 := T2.out.f0 0
 have T2_1 := T2.out.load.2.1
 have T2_f1 := T2.out.f0 1
 have T2_2 := T2.out.load.2.2
 have T2_f2 := T2.out.f0 2
 refine ξi rfl rfl (fun K hK => ?_)
 go_simp
 refine ⟨fun h => Bool.noConfusion h, hK _ _ ?_⟩
 clear hK K
 clear T0_0 T0_1 T0_2 T1_0 T1_1 T1_2 T2_0 T2_1 T2_2 T2_f0 T2_f1 T2_f2
 have hu := upd3 w4 b2 (.bool s8) (.slice p8 k8 c8) (.slice e8 m8 n8)
 have H4 := ξ (H4.out.upd T2.out.noInt hu)
 have T0 := ξ (T0.out.upd hu Hd02.out)
 have T1 := ξ (T1.out.upd hu Hd12.out)
 have T2 := ξ (T2.out.set (.bool s8) (.slice p8 k8 c8) (.slice e8 m8 n8))
 have G := ξ (G.out.three Hb2.out (.bool s8) (.slice p8 k8 c8) (.slice e8 m8 n8))
 clear hu
 generalize ((w4.setCell _ _).setCell _ _).setCell _ _ = W1 at G T0 T1 T2 H4 ⊢
 refine ξ9 ?_
 clear g0
 go_wp2_with fail
 have T2_0 := T2.out.load.1
 have T2_1 := T2.out.load.2.1
 have T2_2 := T2.out.load.2.2
 refine bodyPost_ret (by simp [results, Tryz.results200, go_sem, T2_0, T2_1, T2_2]; rfl) rfl ?_
 exact ⟨_, rfl, G.out, H4.out⟩
theorem ξ7k (w : World) (va vb : Value) (z z' : Int) (q q' : Nat) (N D : Int) (KK L M : Nat) (ha : RatP w va z q L) (hb : RatP w vb z' q' M) (hL : L ≤ 100000) (hM : M ≤ 100000) (hKK : KK ≤ 1000000) (hD : D ≠ 0)
  (hF : ∀ w' v1 v2 v3 v4, IntV w' v1 z (L + 1) → IntV w' v2 q (L + 1) → IntV w' v3 z' (M + 1) → IntV w' v4 q' (M + 1) → Calls Tryz.prog 202 #[v1, v2, v3, v4] w' (Ret w' fun x w'' => ∃ u v, x = .tuple #[u, v] ∧ IntV w'' u N KK ∧ IntV w'' v D KK)) :
  Calls Tryz.prog 200 #[va, vb, .func (.func 202) #[] #[]] w (Ret w fun r w' => RatC w' r (Rat.divInt N D)) := by
 have HA := ξ ha
 have HB := ξ hb
 have HF := ξ hF
 obtain ⟨s0, p0, k0, c0, e0, m0, n0, rfl⟩ := ha.agg
 obtain ⟨s1, p1, k1, c1, e1, m1, n1, rfl⟩ := hb.agg
 have HN := ξ (ha.num)
 have HM := ξ (hb.num)
 clear ha hb hF
 have B := box333 w (.bool s0) (.slice p0 k0 c0) (.slice e0 m0 n0) (.bool s1) (.slice p1 k1 c1) (.slice e1 m1 n1) (.bool false) (.slice none 0 0) (.slice none 0 0) 68 68 68
 have Hb1 := ξ (show ¬ w.heap.size + 1 < w.heap.size by omega)
 have Hb2 := ξ (show ¬ w.heap.size + 1 + 1 < w.heap.size by omega)
 have Hd01 := ξ (show w.heap.size ≠ w.heap.size + 1 by omega)
 have Hd02 := ξ (show w.heap.size ≠ w.heap.size + 1 + 1 by omega)
 have Hd12 := ξ (show w.heap.size + 1 ≠ w.heap.size + 1 + 1 by omega)
 go_enter Tryz.func200, Tryz.ntmps200
 go_wp2_with fail
 generalize ((w.alloc _).alloc _).alloc _ = W at B ⊢
 obtain ⟨G0, t0, t1, t2⟩ := B
 generalize w.heap.size + 1 + 1 = b2 at t2 Hb2 Hd02 Hd12 ⊢
 generalize w.heap.size + 1 = b1 at t1 Hb1 Hd01 Hd12 ⊢
 generalize hb0 : w.heap.size = b0 at t0 Hd01 Hd02 ⊢
 have Hb0 := ξ (show ¬ b0 < w.heap.size by omega)
 have G := ξ G0
 have T0 := ξ t0
 have T1 := ξ t1
 have T2 := ξ t2
 clear hb0 G0 t0 t1 t2
 have HA := ξ (HA.out.grow G.out)
 have HB := ξ (HB.out.grow G.out)
 have HN := ξ (HN.out.grow G.out)
 have HM := ξ (HM.out.grow G.out)
 refine ξ3 [(0, true), (1, true), (2, true), (3, true), (5, true), (6, true), (7, true), (4, false), (8, false), (9, false), (10, true), (11, true), (12, false), (13, false)] (by kernel_rfl) (by kernel_rfl) rfl (by kernel_rfl) (fun _ _ d _ _ h => by cases d <;> exact h) ?_
 have T0_0 := T0.out.c0
 have T0_1 := T0.out.c1
 have T0_2 := T0.out.c2
 have T1_0 := T1.out.c0
 have T1_1 := T1.out.c1
 have T1_2 := T1.out.c2
 have T2_0 := T2.out.c0
 have T2_1 := T2.out.c1
 have T2_2 := T2.out.c2
 have g0 : Gr W W.drew := (Gr.refl _).drew
 have G := ξ (G.out.trans g0)
 have T0 := ξ (T0.out.grow g0)
 have T1 := ξ (T1.out.grow g0)
 have T2 := ξ (T2.out.grow g0)
 have HA := ξ (HA.out.grow g0)
 have HB := ξ (HB.out.grow g0)
 have HN := ξ (HN.out.grow g0)
 have HM := ξ (HM.out.grow g0)
 repeat (refine ξ2 (v := ?_) g0 rfl rfl (fun w' hg => ?_) (fun K hK => ?_); rotate_left; (go_simp; rfl); go_simp; refine hK _ _ ?_; clear hK K)
 refine ξ7 (args := ?_) rfl rfl rfl rfl rfl rfl (by kernel_rfl) (by kernel_rfl) ?_ (fun K hK => ?_)
 rotate_left
 ·go_simp; rfl
 refine (ξ1Y _ _ z q L HA.out hL).mono ?_
 rintro _ w1 ⟨r1, rfl, g1, h1⟩
 refine ⟨_, rfl, g1, ?_⟩
 go_simp
 refine hK _ _ ?_
 clear hK K
 have G := ξ (G.out.trans g1)
 have T0 := ξ (T0.out.grow g1)
 have T1 := ξ (T1.out.grow g1)
 have T2 := ξ (T2.out.grow g1)
 have HA := ξ (HA.out.grow g1)
 have HB := ξ (HB.out.grow g1)
 have HN := ξ (HN.out.grow g1)
 have HM := ξ (HM.out.grow g1)
 replace g0 := g0.trans g1
 clear g1
 have H1 := ξ h1
 clear h1
 refine ξ7 (args := ?_) rfl rfl rfl rfl rfl rfl (by kernel_rfl) (by kernel_rfl) ?_ (fun K hK => ?_)
 rotate_left
 ·go_simp; rfl
 refine (ξ1Y _ _ z' q' M HB.out hM).mono ?_
 rintro _ w2 ⟨r2, rfl, g2, h2⟩
 refine ⟨_, rfl, g2, ?_⟩
 go_simp
 refine hK _ _ ?_
 clear hK K
 have G := ξ (G.out.trans g2)
 have T0 := ξ (T0.out.grow g2)
 have T1 := ξ (T1.out.grow g2)
 have T2 := ξ (T2.out.grow g2)
 have HA := ξ (HA.out.grow g2)
 have HB := ξ (HB.out.grow g2)
 have HN := ξ (HN.out.grow g2)
 have HM := ξ (HM.out.grow g2)
 have H1 := ξ (H1.out.grow g2)
 replace g0 := g0.trans g2
 clear g2
 have H2 := ξ h2
 clear h2
 refine ξ7 (args := ?_) rfl rfl rfl rfl rfl rfl (by kernel_rfl) (by kernel_rfl) ?_ (fun K hK => ?_)
 rotate_left
 ·go_simp; rfl
 refine (HF.out _ _ _ _ _ (HN.out.mono (Nat.le_succ L)) H1.out (HM.out.mono (Nat.le_succ M)) H2.out).mono ?_
 rintro _ w3 ⟨_, rfl, g3, u, v, rfl, hu, hv⟩
 refine ⟨_, rfl, g3, ?_⟩
 go_simp
 refine hK _ _ ?_
 clear hK K
 have G := ξ (G.out.trans g3)
 have T0 := ξ (T0.out.grow g3)
 have T1 := ξ (T1.out.grow g3)
 have T2 := ξ (T2.out.grow g3)
 have HA := ξ (HA.out.grow g3)
 have HB := ξ (HB.out.grow g3)
 have HN := ξ (HN.out.grow g3)
 have HM := ξ (HM.out.grow g3)
 have H1 := ξ (H1.out.grow g3)
 have H2 := ξ (H2.out.grow g3)
 replace g0 := g0.trans g3
 clear g3
 have HU := ξ hu
 have HV := ξ hv
 clear hu hv
 repeat (refine ξ2 (v := ?_) g0 rfl rfl (fun w' hg => ?_) (fun K hK => ?_); rotate_left; (go_simp; rfl); go_simp; refine hK _ _ ?_; clear hK K)
 refine ξ7 (args := ?_) rfl rfl rfl rfl rfl rfl (by kernel_rfl) (by kernel_rfl) ?_ (fun K hK => ?_)
 rotate_left
 ·go_simp; rfl
 refine (ξ1Z _ _ _ N D KK KK HU.out HV.out hD hKK hKK).mono ?_
 rintro _ w4 ⟨r4, rfl, g4, h4⟩
 refine ⟨_, rfl, g4, ?_⟩
 go_simp
 refine hK _ _ ?_
 clear hK K
 have G := ξ (G.out.trans g4)
 have T0 := ξ (T0.out.grow g4)
 have T1 := ξ (T1.out.grow g4)
 have T2 := ξ (T2.out.grow g4)
 have HU := ξ (HU.out.grow g4)
 have HV := ξ (HV.out.grow g4)
 replace g0 := g0.trans g4
 clear g4
 have H4 := ξ h4
 clear h4
 obtain ⟨s8, p8, k8, c8, e8, m8, n8, rfl⟩ := H4.out.agg
 clear T2_0 T2_1 T2_2
 have T2_0 := T2.out.load.1
 have T2_f0 := T2.out.f0 0
 have T2_1 := T2.out.load.2.1
 have T2_f1 := T2.out.f0 1
 have T2_2 := T2.out.load.2.2
 have T2_f2 := T2.out.f0 2
 refine ξi rfl rfl (fun K hK => ?_)
 go_simp
 refine ⟨fun h => Bool.noConfusion h, hK _ _ ?_⟩
 clear hK K
 clear T0_0 T0_1 T0_2 T1_0 T1_1 T1_2 T2_0 T2_1 T2_2 T2_f0 T2_f1 T2_f2
 have hu := upd3 w4 b2 (.bool s8) (.slice p8 k8 c8) (.slice e8 m8 n8)
 have H4 := ξ (H4.out.upd T2.out.noInt hu)
 have T0 := ξ (T0.out.upd hu Hd02.out)
 have T1 := ξ (T1.out.upd hu Hd12.out)
 have T2 := ξ (T2.out.set (.bool s8) (.slice p8 k8 c8) (.slice e8 m8 n8))
 have G := ξ (G.out.three Hb2.out (.bool s8) (.slice p8 k8 c8) (.slice e8 m8 n8))
 clear hu
 generalize ((w4.setCell _ _).setCell _ _).setCell _ _ = W1 at G T0 T1 T2 H4 ⊢
 refine ξ9 ?_
 clear g0
 go_wp2_with fail
 have T2_0 := T2.out.load.1
 have T2_1 := T2.out.load.2.1
 have T2_2 := T2.out.load.2.2
 refine bodyPost_ret (by simp [results, Tryz.results200, go_sem, T2_0, T2_1, T2_2]; rfl) rfl ?_
 exact ⟨_, rfl, G.out, H4.out⟩
theorem ξbf {q q' : Nat} (h : q ≠ 0) (h' : q' ≠ 0) : ((q : Int) * (q' : Int)) ≠ 0 := Int.mul_ne_zero (by omega) (by omega)
theorem ξ65 (N : Int) (q q' : Nat) : Rat.divInt N ((q : Int) * (q' : Int)) = mkRat N (q * q') := by
 rw [← Rat.divInt_ofNat, Int.natCast_mul]
theorem ξcR (w : World) (va vb : Value) (z z' : Int) (q q' L M : Nat) (ha : RatP w va z q L) (hb : RatP w vb z' q' M) (hL : L ≤ 1000) (hM : M ≤ 1000) :
  Calls Tryz.prog 142 #[va, vb] w (Ret w fun r w' => RatC w' r (mkRat z q + mkRat z' q')) := by
 have HA := ξ ha
 have HB := ξ hb
 obtain ⟨s0, p0, k0, c0, e0, m0, n0, rfl⟩ := ha.agg
 obtain ⟨s1, p1, k1, c1, e1, m1, n1, rfl⟩ := hb.agg
 have HN := ξ (ha.num)
 have HM := ξ (hb.num)
 obtain ⟨d, hd1, hd2, hd3⟩ := ha.den
 obtain ⟨d', hd1', hd2', hd3'⟩ := hb.den
 have hld := hd1.len
 have hld' := hd1'.len
 have Hq := ξ ha.ne
 have Hq' := ξ hb.ne
 have hm0 : (m0 : Int) ≤ 1000 := by omega
 have hm1 : (m1 : Int) ≤ 1000 := by omega
 clear ha hb hd1 hd1'
 by_cases h0 : m0 = 0 ∧ m1 = 0
 ·obtain ⟨rfl, rfl⟩ := h0
  have hq : q = 1 := by rw [← hd2, List.eq_nil_of_length_eq_zero hld]; rfl
  have hq' : q' = 1 := by rw [← hd2', List.eq_nil_of_length_eq_zero hld']; rfl
  have HR := ξ (show ((z + z' : Int) : Rat) = mkRat z q + mkRat z' q' by rw [hq, hq', ξ4O, ξ4O]; exact Rat.intCast_add _ _)
  rw [← HR.out]
  clear hq hq' hd2 hd2' hd3 hd3' hld hld' hm0 hm1
  have B := box333 w (.bool s0) (.slice p0 k0 c0) (.slice e0 0 n0) (.bool s1) (.slice p1 k1 c1) (.slice e1 0 n1) (.bool false) (.slice none 0 0) (.slice none 0 0) 68 68 68
  have Hb1 := ξ (show ¬ w.heap.size + 1 < w.heap.size by omega)
  have Hb2 := ξ (show ¬ w.heap.size + 1 + 1 < w.heap.size by omega)
  have Hd01 := ξ (show w.heap.size ≠ w.heap.size + 1 by omega)
  have Hd02 := ξ (show w.heap.size ≠ w.heap.size + 1 + 1 by omega)
  have Hd12 := ξ (show w.heap.size + 1 ≠ w.heap.size + 1 + 1 by omega)
  go_enter Tryz.func142, Tryz.ntmps142
  go_wp2_with fail
  generalize ((w.alloc _).alloc _).alloc _ = W at B ⊢
  obtain ⟨G0, t0, t1, t2⟩ := B
  generalize w.heap.size + 1 + 1 = b2 at t2 Hb2 Hd02 Hd12 ⊢
  generalize w.heap.size + 1 = b1 at t1 Hb1 Hd01 Hd12 ⊢
  generalize hb0 : w.heap.size = b0 at t0 Hd01 Hd02 ⊢
  have Hb0 := ξ (show ¬ b0 < w.heap.size by omega)
  have G := ξ G0
  have T0 := ξ t0
  have T1 := ξ t1
  have T2 := ξ t2
  clear hb0 G0 t0 t1 t2
  have HA := ξ (HA.out.grow G.out)
  have HB := ξ (HB.out.grow G.out)
  have HN := ξ (HN.out.grow G.out)
  have HM := ξ (HM.out.grow G.out)
  refine (ξ8p W _ _ z z' _ L M HN.out HM.out rfl (by omega) (by omega)).mono ?_
  rintro _ w1 ⟨r1, rfl, g1, h1⟩
  have G := ξ (G.out.trans g1)
  have T0 := ξ (T0.out.grow g1)
  have T1 := ξ (T1.out.grow g1)
  have T2 := ξ (T2.out.grow g1)
  have HA := ξ (HA.out.grow g1)
  have HB := ξ (HB.out.grow g1)
  have HN := ξ (HN.out.grow g1)
  have HM := ξ (HM.out.grow g1)
  clear g1
  have H1 := ξ h1
  clear h1
  have HC := ξ H1.out.1
  obtain ⟨p2, k2, c2, rfl⟩ := HC.out.agg
  generalize decide (z + z' < 0) = s2 at HC H1 ⊢
  have HV := ξ (RatC.ofInt HC.out)
  have T2_0 := T2.out.load.1
  have T2_f0 := T2.out.f0 0
  have T2_1 := T2.out.load.2.1
  have T2_f1 := T2.out.f0 1
  have T2_2 := T2.out.load.2.2
  have T2_f2 := T2.out.f0 2
  go_wp2_with fail
  clear T2_0 T2_f0 T2_1 T2_f1 T2_2 T2_f2
  have hu := upd3 w1 b2 (.bool s2) (.slice p2 k2 c2) (.slice none 0 0)
  have HV := ξ (HV.out.upd T2.out.noInt hu)
  have T0 := ξ (T0.out.upd hu Hd02.out)
  have T1 := ξ (T1.out.upd hu Hd12.out)
  have T2 := ξ (T2.out.set (.bool s2) (.slice p2 k2 c2) (.slice none 0 0))
  have G := ξ (G.out.three Hb2.out (.bool s2) (.slice p2 k2 c2) (.slice none 0 0))
  clear hu
  generalize ((w1.setCell _ _).setCell _ _).setCell _ _ = W1 at G T0 T1 T2 HV ⊢
  have T2_0 := T2.out.load.1
  have T2_1 := T2.out.load.2.1
  have T2_2 := T2.out.load.2.2
  refine bodyPost_ret (by simp [results, Tryz.results142, go_sem, T2_0, T2_1, T2_2]; rfl) rfl ?_
  exact ⟨_, rfl, G.out, HV.out⟩
 ·have h1 : ¬ (m0 : Int) + (m1 : Int) = 0 := by omega
  clear hd2 hd2' hd3 hd3' hld hld'
  have B := box333 w (.bool s0) (.slice p0 k0 c0) (.slice e0 m0 n0) (.bool s1) (.slice p1 k1 c1) (.slice e1 m1 n1) (.bool false) (.slice none 0 0) (.slice none 0 0) 68 68 68
  have Hb1 := ξ (show ¬ w.heap.size + 1 < w.heap.size by omega)
  have Hb2 := ξ (show ¬ w.heap.size + 1 + 1 < w.heap.size by omega)
  have Hd01 := ξ (show w.heap.size ≠ w.heap.size + 1 by omega)
  have Hd02 := ξ (show w.heap.size ≠ w.heap.size + 1 + 1 by omega)
  have Hd12 := ξ (show w.heap.size + 1 ≠ w.heap.size + 1 + 1 by omega)
  go_enter Tryz.func142, Tryz.ntmps142
  go_wp2_with fail
  generalize ((w.alloc _).alloc _).alloc _ = W at B ⊢
  obtain ⟨G0, t0, t1, t2⟩ := B
  generalize w.heap.size + 1 + 1 = b2 at t2 Hb2 Hd02 Hd12 ⊢
  generalize w.heap.size + 1 = b1 at t1 Hb1 Hd01 Hd12 ⊢
  generalize hb0 : w.heap.size = b0 at t0 Hd01 Hd02 ⊢
  have Hb0 := ξ (show ¬ b0 < w.heap.size by omega)
  have G := ξ G0
  have T0 := ξ t0
  have T1 := ξ t1
  have T2 := ξ t2
  clear hb0 G0 t0 t1 t2
  have HA := ξ (HA.out.grow G.out)
  have HB := ξ (HB.out.grow G.out)
  have HN := ξ (HN.out.grow G.out)
  have HM := ξ (HM.out.grow G.out)
  refine (ξ70 W _ _ z z' q q' (z * (q' : Int) + z' * (q : Int)) ((q : Int) * q') (2 * (L + 1) + 2 * (M + 1) + 4) L M HA.out HB.out (by omega) (by omega) (by omega) (ξbf Hq.out Hq'.out) (fun w' v1 v2 v3 v4 i1 i2 i3 i4 => ξbz w' v1 v2 v3 v4 z q z' q' (L + 1) (M + 1) i1 i2 i3 i4 (by omega) (by omega))).mono ?_
  rintro _ w1 ⟨r1, rfl, g1, h1⟩
  have G := ξ (G.out.trans g1)
  have T0 := ξ (T0.out.grow g1)
  have T1 := ξ (T1.out.grow g1)
  have T2 := ξ (T2.out.grow g1)
  have HA := ξ (HA.out.grow g1)
  have HB := ξ (HB.out.grow g1)
  have HN := ξ (HN.out.grow g1)
  have HM := ξ (HM.out.grow g1)
  clear g1
  have H1 := ξ h1
  clear h1
  have HV := ξ (show RatC _ _ (mkRat z q + mkRat z' q') by have h := H1.out; rw [ξ65] at h; rw [ξck _ _ Hq.out Hq'.out]; exact h)
  obtain ⟨s8, p8, k8, c8, e8, m8, n8, rfl⟩ := H1.out.agg
  have T2_0 := T2.out.load.1
  have T2_f0 := T2.out.f0 0
  have T2_1 := T2.out.load.2.1
  have T2_f1 := T2.out.f0 1
  have T2_2 := T2.out.load.2.2
  have T2_f2 := T2.out.f0 2
  go_wp2_with fail
  clear T2_0 T2_f0 T2_1 T2_f1 T2_2 T2_f2
  have hu := upd3 w1 b2 (.bool s8) (.slice p8 k8 c8) (.slice e8 m8 n8)
  have HV := ξ (HV.out.upd T2.out.noInt hu)
  have T0 := ξ (T0.out.upd hu Hd02.out)
  have T1 := ξ (T1.out.upd hu Hd12.out)
  have T2 := ξ (T2.out.set (.bool s8) (.slice p8 k8 c8) (.slice e8 m8 n8))
  have G := ξ (G.out.three Hb2.out (.bool s8) (.slice p8 k8 c8) (.slice e8 m8 n8))
  clear hu
  generalize ((w1.setCell _ _).setCell _ _).setCell _ _ = W1 at G T0 T1 T2 HV ⊢
  have T2_0 := T2.out.load.1
  have T2_1 := T2.out.load.2.1
  have T2_2 := T2.out.load.2.2
  refine bodyPost_ret (by simp [results, Tryz.results142, go_sem, T2_0, T2_1, T2_2]; rfl) rfl ?_
  exact ⟨_, rfl, G.out, HV.out⟩
theorem ξcY (w : World) (va vb : Value) (z z' : Int) (q q' L M : Nat) (ha : RatP w va z q L) (hb : RatP w vb z' q' M) (hL : L ≤ 1000) (hM : M ≤ 1000) :
  Calls Tryz.prog 143 #[va, vb] w (Ret w fun r w' => RatC w' r (mkRat z q * mkRat z' q')) := by
 have HA := ξ ha
 have HB := ξ hb
 obtain ⟨s0, p0, k0, c0, e0, m0, n0, rfl⟩ := ha.agg
 obtain ⟨s1, p1, k1, c1, e1, m1, n1, rfl⟩ := hb.agg
 have HN := ξ (ha.num)
 have HM := ξ (hb.num)
 obtain ⟨d, hd1, hd2, hd3⟩ := ha.den
 obtain ⟨d', hd1', hd2', hd3'⟩ := hb.den
 have hld := hd1.len
 have hld' := hd1'.len
 have Hq := ξ ha.ne
 have Hq' := ξ hb.ne
 have hm0 : (m0 : Int) ≤ 1000 := by omega
 have hm1 : (m1 : Int) ≤ 1000 := by omega
 clear ha hb hd1 hd1'
 by_cases h0 : m0 = 0 ∧ m1 = 0
 ·obtain ⟨rfl, rfl⟩ := h0
  have hq : q = 1 := by rw [← hd2, List.eq_nil_of_length_eq_zero hld]; rfl
  have hq' : q' = 1 := by rw [← hd2', List.eq_nil_of_length_eq_zero hld']; rfl
  have HR := ξ (show ((z * z' : Int) : Rat) = mkRat z q * mkRat z' q' by rw [hq, hq', ξ4O, ξ4O]; exact Rat.intCast_mul _ _)
  rw [← HR.out]
  clear hq hq' hd2 hd2' hd3 hd3' hld hld' hm0 hm1
  have B := box333 w (.bool s0) (.slice p0 k0 c0) (.slice e0 0 n0) (.bool s1) (.slice p1 k1 c1) (.slice e1 0 n1) (.bool false) (.slice none 0 0) (.slice none 0 0) 68 68 68
  have Hb1 := ξ (show ¬ w.heap.size + 1 < w.heap.size by omega)
  have Hb2 := ξ (show ¬ w.heap.size + 1 + 1 < w.heap.size by omega)
  have Hd01 := ξ (show w.heap.size ≠ w.heap.size + 1 by omega)
  have Hd02 := ξ (show w.heap.size ≠ w.heap.size + 1 + 1 by omega)
  have Hd12 := ξ (show w.heap.size + 1 ≠ w.heap.size + 1 + 1 by omega)
  go_enter Tryz.func143, Tryz.ntmps143
  go_wp2_with fail
  generalize ((w.alloc _).alloc _).alloc _ = W at B ⊢
  obtain ⟨G0, t0, t1, t2⟩ := B
  generalize w.heap.size + 1 + 1 = b2 at t2 Hb2 Hd02 Hd12 ⊢
  generalize w.heap.size + 1 = b1 at t1 Hb1 Hd01 Hd12 ⊢
  generalize hb0 : w.heap.size = b0 at t0 Hd01 Hd02 ⊢
  have Hb0 := ξ (show ¬ b0 < w.heap.size by omega)
  have G := ξ G0
  have T0 := ξ t0
  have T1 := ξ t1
  have T2 := ξ t2
  clear hb0 G0 t0 t1 t2
  have HA := ξ (HA.out.grow G.out)
  have HB := ξ (HB.out.grow G.out)
  have HN := ξ (HN.out.grow G.out)
  have HM := ξ (HM.out.grow G.out)
  refine (ξ2U W _ _ z z' _ L M HN.out HM.out rfl (by omega) (by omega)).mono ?_
  rintro _ w1 ⟨r1, rfl, g1, h1⟩
  have G := ξ (G.out.trans g1)
  have T0 := ξ (T0.out.grow g1)
  have T1 := ξ (T1.out.grow g1)
  have T2 := ξ (T2.out.grow g1)
  have HA := ξ (HA.out.grow g1)
  have HB := ξ (HB.out.grow g1)
  have HN := ξ (HN.out.grow g1)
  have HM := ξ (HM.out.grow g1)
  clear g1
  have H1 := ξ h1
  clear h1
  have HC := ξ H1.out.1
  obtain ⟨p2, k2, c2, rfl⟩ := HC.out.agg
  generalize decide (z * z' < 0) = s2 at HC H1 ⊢
  have HV := ξ (RatC.ofInt HC.out)
  have T2_0 := T2.out.load.1
  have T2_f0 := T2.out.f0 0
  have T2_1 := T2.out.load.2.1
  have T2_f1 := T2.out.f0 1
  have T2_2 := T2.out.load.2.2
  have T2_f2 := T2.out.f0 2
  go_wp2_with fail
  clear T2_0 T2_f0 T2_1 T2_f1 T2_2 T2_f2
  have hu := upd3 w1 b2 (.bool s2) (.slice p2 k2 c2) (.slice none 0 0)
  have HV := ξ (HV.out.upd T2.out.noInt hu)
  have T0 := ξ (T0.out.upd hu Hd02.out)
  have T1 := ξ (T1.out.upd hu Hd12.out)
  have T2 := ξ (T2.out.set (.bool s2) (.slice p2 k2 c2) (.slice none 0 0))
  have G := ξ (G.out.three Hb2.out (.bool s2) (.slice p2 k2 c2) (.slice none 0 0))
  clear hu
  generalize ((w1.setCell _ _).setCell _ _).setCell _ _ = W1 at G T0 T1 T2 HV ⊢
  have T2_0 := T2.out.load.1
  have T2_1 := T2.out.load.2.1
  have T2_2 := T2.out.load.2.2
  refine bodyPost_ret (by simp [results, Tryz.results143, go_sem, T2_0, T2_1, T2_2]; rfl) rfl ?_
  exact ⟨_, rfl, G.out, HV.out⟩
 ·have h1 : ¬ (m0 : Int) + (m1 : Int) = 0 := by omega
  clear hd2 hd2' hd3 hd3' hld hld'
  have B := box333 w (.bool s0) (.slice p0 k0 c0) (.slice e0 m0 n0) (.bool s1) (.slice p1 k1 c1) (.slice e1 m1 n1) (.bool false) (.slice none 0 0) (.slice none 0 0) 68 68 68
  have Hb1 := ξ (show ¬ w.heap.size + 1 < w.heap.size by omega)
  have Hb2 := ξ (show ¬ w.heap.size + 1 + 1 < w.heap.size by omega)
  have Hd01 := ξ (show w.heap.size ≠ w.heap.size + 1 by omega)
  have Hd02 := ξ (show w.heap.size ≠ w.heap.size + 1 + 1 by omega)
  have Hd12 := ξ (show w.heap.size + 1 ≠ w.heap.size + 1 + 1 by omega)
  go_enter Tryz.func143, Tryz.ntmps143
  go_wp2_with fail
  generalize ((w.alloc _).alloc _).alloc _ = W at B ⊢
  obtain ⟨G0, t0, t1, t2⟩ := B
  generalize w.heap.size + 1 + 1 = b2 at t2 Hb2 Hd02 Hd12 ⊢
  generalize w.heap.size + 1 = b1 at t1 Hb1 Hd01 Hd12 ⊢
  generalize hb0 : w.heap.size = b0 at t0 Hd01 Hd02 ⊢
  have Hb0 := ξ (show ¬ b0 < w.heap.size by omega)
  have G := ξ G0
  have T0 := ξ t0
  have T1 := ξ t1
  have T2 := ξ t2
  clear hb0 G0 t0 t1 t2
  have HA := ξ (HA.out.grow G.out)
  have HB := ξ (HB.out.grow G.out)
  have HN := ξ (HN.out.grow G.out)
  have HM := ξ (HM.out.grow G.out)
  refine (ξ7k W _ _ z z' q q' (z * z') ((q : Int) * q') (2 * (L + 1) + 2 * (M + 1) + 4) L M HA.out HB.out (by omega) (by omega) (by omega) (ξbf Hq.out Hq'.out) (fun w' v1 v2 v3 v4 i1 i2 i3 i4 => ξbJ w' v1 v2 v3 v4 z q z' q' (L + 1) (M + 1) i1 i2 i3 i4 (by omega) (by omega))).mono ?_
  rintro _ w1 ⟨r1, rfl, g1, h1⟩
  have G := ξ (G.out.trans g1)
  have T0 := ξ (T0.out.grow g1)
  have T1 := ξ (T1.out.grow g1)
  have T2 := ξ (T2.out.grow g1)
  have HA := ξ (HA.out.grow g1)
  have HB := ξ (HB.out.grow g1)
  have HN := ξ (HN.out.grow g1)
  have HM := ξ (HM.out.grow g1)
  clear g1
  have H1 := ξ h1
  clear h1
  have HV := ξ (show RatC _ _ (mkRat z q * mkRat z' q') by have h := H1.out; rw [ξ65] at h; rw [ξcy]; exact h)
  obtain ⟨s8, p8, k8, c8, e8, m8, n8, rfl⟩ := H1.out.agg
  have T2_0 := T2.out.load.1
  have T2_f0 := T2.out.f0 0
  have T2_1 := T2.out.load.2.1
  have T2_f1 := T2.out.f0 1
  have T2_2 := T2.out.load.2.2
  have T2_f2 := T2.out.f0 2
  go_wp2_with fail
  clear T2_0 T2_f0 T2_1 T2_f1 T2_2 T2_f2
  have hu := upd3 w1 b2 (.bool s8) (.slice p8 k8 c8) (.slice e8 m8 n8)
  have HV := ξ (HV.out.upd T2.out.noInt hu)
  have T0 := ξ (T0.out.upd hu Hd02.out)
  have T1 := ξ (T1.out.upd hu Hd12.out)
  have T2 := ξ (T2.out.set (.bool s8) (.slice p8 k8 c8) (.slice e8 m8 n8))
  have G := ξ (G.out.three Hb2.out (.bool s8) (.slice p8 k8 c8) (.slice e8 m8 n8))
  clear hu
  generalize ((w1.setCell _ _).setCell _ _).setCell _ _ = W1 at G T0 T1 T2 HV ⊢
  have T2_0 := T2.out.load.1
  have T2_1 := T2.out.load.2.1
  have T2_2 := T2.out.load.2.2
  refine bodyPost_ret (by simp [results, Tryz.results143, go_sem, T2_0, T2_1, T2_2]; rfl) rfl ?_
  exact ⟨_, rfl, G.out, HV.out⟩
theorem ξ6n (w : World) (va vb : Value) (x y s : Rat) (L M : Nat) (ha : RatV w va x L) (hb : RatV w vb y M) (hs : x + y = s) (hL : L ≤ 1000) (hM : M ≤ 1000) :
  Calls Tryz.prog 142 #[va, vb] w (Ret w fun r w' => RatC w' r s) := by
 obtain ⟨z, q, ha2, rfl⟩ := ha.p
 obtain ⟨z', q', hb2, rfl⟩ := hb.p
 subst hs
 exact ξcR w va vb z z' q q' L M ha2 hb2 hL hM
theorem ξ2P (w : World) (va vb : Value) (x y s : Rat) (L M : Nat) (ha : RatV w va x L) (hb : RatV w vb y M) (hs : x * y = s) (hL : L ≤ 1000) (hM : M ≤ 1000) :
  Calls Tryz.prog 143 #[va, vb] w (Ret w fun r w' => RatC w' r s) := by
 obtain ⟨z, q, ha2, rfl⟩ := ha.p
 obtain ⟨z', q', hb2, rfl⟩ := hb.p
 subst hs
 exact ξcY w va vb z z' q q' L M ha2 hb2 hL hM
theorem ξcW (w : World) (va : Value) (z : Int) (q L : Nat) (ha : RatP w va z q L) (hL : L ≤ 1000) :
  Calls Tryz.prog 94 #[va] w (Ret w fun r w' => RatC w' r (- mkRat z q)) := by
 have HA := ξ ha
 obtain ⟨s0, p0, k0, c0, e0, m0, n0, rfl⟩ := ha.agg
 have HN := ξ (ha.num)
 have Hq := ξ ha.ne
 clear ha
 have B := box33 w (.bool s0) (.slice p0 k0 c0) (.slice e0 m0 n0) (.bool false) (.slice none 0 0) (.slice none 0 0) 68 68
 have Hb1 := ξ (show ¬ w.heap.size + 1 < w.heap.size by omega)
 have Hd01 := ξ (show w.heap.size ≠ w.heap.size + 1 by omega)
 go_enter Tryz.func94, Tryz.ntmps94
 go_wp2_with fail
 generalize (w.alloc _).alloc _ = W at B ⊢
 obtain ⟨G0, t0, t1⟩ := B
 generalize w.heap.size + 1 = b1 at t1 Hb1 Hd01 ⊢
 generalize hb0 : w.heap.size = b0 at t0 Hd01 ⊢
 have Hb0 := ξ (show ¬ b0 < w.heap.size by omega)
 have G := ξ G0
 have T0 := ξ t0
 have T1 := ξ t1
 clear hb0 G0 t0 t1
 have HA := ξ (HA.out.grow G.out)
 have HN := ξ (HN.out.grow G.out)
 refine ξ3 [(0, true), (1, true), (3, true), (2, false), (4, false), (5, false), (6, false)] (by kernel_rfl) (by kernel_rfl) rfl (by kernel_rfl) (fun _ _ d _ _ h => by cases d <;> exact h) ?_
 have T0_0 := T0.out.c0
 have T0_1 := T0.out.c1
 have T0_2 := T0.out.c2
 have T1_0 := T1.out.c0
 have T1_1 := T1.out.c1
 have T1_2 := T1.out.c2
 have g0 : Gr W W.drew := (Gr.refl _).drew
 have G := ξ (G.out.trans g0)
 have T0 := ξ (T0.out.grow g0)
 have T1 := ξ (T1.out.grow g0)
 have HA := ξ (HA.out.grow g0)
 have HN := ξ (HN.out.grow g0)
 repeat (refine ξ2 (v := ?_) g0 rfl rfl (fun w' hg => ?_) (fun K hK => ?_); rotate_left; (go_simp; rfl); go_simp; refine hK _ _ ?_; clear hK K)
 refine ξ7 (args := ?_) rfl rfl rfl rfl rfl rfl (by kernel_rfl) (by kernel_rfl) ?_ (fun K hK => ?_)
 rotate_left
 ·go_simp; rfl
 refine (ξ6m _ _ z _ L HN.out rfl (by omega)).mono ?_
 rintro _ w1 ⟨r1, rfl, g1, h1⟩
 refine ⟨_, rfl, g1, ?_⟩
 go_simp
 refine hK _ _ ?_
 clear hK K
 have G := ξ (G.out.trans g1)
 have T0 := ξ (T0.out.grow g1)
 have T1 := ξ (T1.out.grow g1)
 have HA := ξ (HA.out.grow g1)
 have HN := ξ (HN.out.grow g1)
 replace g0 := g0.trans g1
 clear g1
 have H1 := ξ h1
 clear h1
 refine ξ7 (args := ?_) rfl rfl rfl rfl rfl rfl (by kernel_rfl) (by kernel_rfl) ?_ (fun K hK => ?_)
 rotate_left
 ·go_simp; rfl
 refine (ξ1Y _ _ z q L HA.out (by omega)).mono ?_
 rintro _ w2 ⟨r2, rfl, g2, h2⟩
 refine ⟨_, rfl, g2, ?_⟩
 go_simp
 refine hK _ _ ?_
 clear hK K
 have G := ξ (G.out.trans g2)
 have T0 := ξ (T0.out.grow g2)
 have T1 := ξ (T1.out.grow g2)
 have HA := ξ (HA.out.grow g2)
 have HN := ξ (HN.out.grow g2)
 have H1 := ξ (H1.out.grow g2)
 replace g0 := g0.trans g2
 clear g2
 have H2 := ξ h2
 clear h2
 refine ξ7 (args := ?_) rfl rfl rfl rfl rfl rfl (by kernel_rfl) (by kernel_rfl) ?_ (fun K hK => ?_)
 rotate_left
 ·go_simp; rfl
 refine (ξ1Z _ _ _ (-z) q L (L + 1) H1.out.2 H2.out (by have := Hq.out; omega) (by omega) (by omega)).mono ?_
 rintro _ w3 ⟨r3, rfl, g3, h3⟩
 refine ⟨_, rfl, g3, ?_⟩
 go_simp
 refine hK _ _ ?_
 clear hK K
 have G := ξ (G.out.trans g3)
 have T0 := ξ (T0.out.grow g3)
 have T1 := ξ (T1.out.grow g3)
 have HA := ξ (HA.out.grow g3)
 have HN := ξ (HN.out.grow g3)
 have H1 := ξ (H1.out.grow g3)
 have H2 := ξ (H2.out.grow g3)
 replace g0 := g0.trans g3
 clear g3
 have H3 := ξ h3
 clear h3
 have HV := ξ (show RatC _ _ (- mkRat z q) by have h := H3.out; rw [Rat.divInt_ofNat, ξcC] at h; exact h)
 obtain ⟨s8, p8, k8, c8, e8, m8, n8, rfl⟩ := H3.out.agg
 clear T1_0 T1_1 T1_2
 have T1_0 := T1.out.load.1
 have T1_f0 := T1.out.f0 0
 have T1_1 := T1.out.load.2.1
 have T1_f1 := T1.out.f0 1
 have T1_2 := T1.out.load.2.2
 have T1_f2 := T1.out.f0 2
 refine ξi rfl rfl (fun K hK => ?_)
 go_simp
 refine ⟨fun h => Bool.noConfusion h, hK _ _ ?_⟩
 clear hK K
 clear T0_0 T0_1 T0_2 T1_0 T1_1 T1_2 T1_f0 T1_f1 T1_f2
 have hu := upd3 w3 b1 (.bool s8) (.slice p8 k8 c8) (.slice e8 m8 n8)
 have HV := ξ (HV.out.upd T1.out.noInt hu)
 have T0 := ξ (T0.out.upd hu Hd01.out)
 have T1 := ξ (T1.out.set (.bool s8) (.slice p8 k8 c8) (.slice e8 m8 n8))
 have G := ξ (G.out.three Hb1.out (.bool s8) (.slice p8 k8 c8) (.slice e8 m8 n8))
 clear hu
 generalize ((w3.setCell _ _).setCell _ _).setCell _ _ = W1 at G T0 T1 HV ⊢
 refine ξ9 ?_
 clear g0
 go_wp2_with fail
 have T1_0 := T1.out.load.1
 have T1_1 := T1.out.load.2.1
 have T1_2 := T1.out.load.2.2
 refine bodyPost_ret (by simp [results, Tryz.results94, go_sem, T1_0, T1_1, T1_2]; rfl) rfl ?_
 exact ⟨_, rfl, G.out, HV.out⟩
theorem ξ6o (w : World) (va : Value) (x s : Rat) (L : Nat) (ha : RatV w va x L) (hs : - x = s) (hL : L ≤ 1000) :
  Calls Tryz.prog 94 #[va] w (Ret w fun r w' => RatC w' r s) := by
 obtain ⟨z, q, ha2, rfl⟩ := ha.p
 subst hs
 exact ξcW w va z q L ha2 hL
theorem RatV.agg {w : World} {v : Value} {x : Rat} {L : Nat} (h : RatV w v x L) : ∃ s p k c p' m e, v = .agg #[.bool s, .slice p k c, .slice p' m e] := by
 obtain ⟨z, q, h, -⟩ := h.p; exact h.agg
theorem ξd5 (w : World) (va vb : Value) (x y s : Rat) (L M : Nat) (ha : RatV w va x L) (hb : RatV w vb y M) (hsy : Sz M (- y)) (hs : x - y = s) (hL : L ≤ 1000) (hM : M ≤ 1000) :
  Calls Tryz.prog 253 #[va, vb] w (Ret w fun r w' => RatC w' r s) := by
 have HA := ξ ha
 have HB := ξ hb
 obtain ⟨s0, p0, k0, c0, e0, m0, n0, rfl⟩ := ha.agg
 obtain ⟨s1, p1, k1, c1, e1, m1, n1, rfl⟩ := hb.agg
 clear ha hb
 have B := box333 w (.bool s0) (.slice p0 k0 c0) (.slice e0 m0 n0) (.bool s1) (.slice p1 k1 c1) (.slice e1 m1 n1) (.bool false) (.slice none 0 0) (.slice none 0 0) 68 68 68
 have Hb1 := ξ (show ¬ w.heap.size + 1 < w.heap.size by omega)
 have Hb2 := ξ (show ¬ w.heap.size + 1 + 1 < w.heap.size by omega)
 have Hd01 := ξ (show w.heap.size ≠ w.heap.size + 1 by omega)
 have Hd02 := ξ (show w.heap.size ≠ w.heap.size + 1 + 1 by omega)
 have Hd12 := ξ (show w.heap.size + 1 ≠ w.heap.size + 1 + 1 by omega)
 go_enter Tryz.func253, Tryz.ntmps253
 go_wp2_with fail
 generalize ((w.alloc _).alloc _).alloc _ = W at B ⊢
 obtain ⟨G0, t0, t1, t2⟩ := B
 generalize w.heap.size + 1 + 1 = b2 at t2 Hb2 Hd02 Hd12 ⊢
 generalize w.heap.size + 1 = b1 at t1 Hb1 Hd01 Hd12 ⊢
 generalize hb0 : w.heap.size = b0 at t0 Hd01 Hd02 ⊢
 have Hb0 := ξ (show ¬ b0 < w.heap.size by omega)
 have G := ξ G0
 have T0 := ξ t0
 have T1 := ξ t1
 have T2 := ξ t2
 clear hb0 G0 t0 t1 t2
 have HA := ξ (HA.out.grow G.out)
 have HB := ξ (HB.out.grow G.out)
 refine ξ3 [(0, true), (1, true), (2, false), (3, false), (4, false)] (by kernel_rfl) (by kernel_rfl) rfl (by kernel_rfl) (fun _ _ d _ _ h => by cases d <;> exact h) ?_
 have T0_0 := T0.out.c0
 have T0_1 := T0.out.c1
 have T0_2 := T0.out.c2
 have T1_0 := T1.out.c0
 have T1_1 := T1.out.c1
 have T1_2 := T1.out.c2
 have T2_0 := T2.out.c0
 have T2_1 := T2.out.c1
 have T2_2 := T2.out.c2
 have g0 : Gr W W.drew := (Gr.refl _).drew
 have G := ξ (G.out.trans g0)
 have T0 := ξ (T0.out.grow g0)
 have T1 := ξ (T1.out.grow g0)
 have T2 := ξ (T2.out.grow g0)
 have HA := ξ (HA.out.grow g0)
 have HB := ξ (HB.out.grow g0)
 repeat (refine ξ2 (v := ?_) g0 rfl rfl (fun w' hg => ?_) (fun K hK => ?_); rotate_left; (go_simp; rfl); go_simp; refine hK _ _ ?_; clear hK K)
 refine ξ7 (args := ?_) rfl rfl rfl rfl rfl rfl (by kernel_rfl) (by kernel_rfl) ?_ (fun K hK => ?_)
 rotate_left
 ·go_simp; rfl
 refine (ξ6o _ _ y _ M HB.out rfl hM).mono ?_
 rintro _ w1 ⟨r1, rfl, g1, h1⟩
 refine ⟨_, rfl, g1, ?_⟩
 go_simp
 refine hK _ _ ?_
 clear hK K
 have G := ξ (G.out.trans g1)
 have T0 := ξ (T0.out.grow g1)
 have T1 := ξ (T1.out.grow g1)
 have T2 := ξ (T2.out.grow g1)
 have HA := ξ (HA.out.grow g1)
 have HB := ξ (HB.out.grow g1)
 replace g0 := g0.trans g1
 clear g1
 have H1 := ξ h1
 clear h1
 refine ξ7 (args := ?_) rfl rfl rfl rfl rfl rfl (by kernel_rfl) (by kernel_rfl) ?_ (fun K hK => ?_)
 rotate_left
 ·go_simp; rfl
 refine (ξ6n _ _ _ x (- y) s L M HA.out (H1.out.v hsy) (by rw [← hs, Rat.sub_eq_add_neg]) hL hM).mono ?_
 rintro _ w2 ⟨r2, rfl, g2, h2⟩
 refine ⟨_, rfl, g2, ?_⟩
 go_simp
 refine hK _ _ ?_
 clear hK K
 have G := ξ (G.out.trans g2)
 have T0 := ξ (T0.out.grow g2)
 have T1 := ξ (T1.out.grow g2)
 have T2 := ξ (T2.out.grow g2)
 have HA := ξ (HA.out.grow g2)
 have HB := ξ (HB.out.grow g2)
 have H1 := ξ (H1.out.grow g2)
 replace g0 := g0.trans g2
 clear g2
 have H2 := ξ h2
 clear h2
 obtain ⟨s8, p8, k8, c8, e8, m8, n8, rfl⟩ := H2.out.agg
 clear T2_0 T2_1 T2_2
 have T2_0 := T2.out.load.1
 have T2_f0 := T2.out.f0 0
 have T2_1 := T2.out.load.2.1
 have T2_f1 := T2.out.f0 1
 have T2_2 := T2.out.load.2.2
 have T2_f2 := T2.out.f0 2
 refine ξi rfl rfl (fun K hK => ?_)
 go_simp
 refine ⟨fun h => Bool.noConfusion h, hK _ _ ?_⟩
 clear hK K
 clear T0_0 T0_1 T0_2 T1_0 T1_1 T1_2 T2_0 T2_1 T2_2 T2_f0 T2_f1 T2_f2
 have hu := upd3 w2 b2 (.bool s8) (.slice p8 k8 c8) (.slice e8 m8 n8)
 have H2 := ξ (H2.out.upd T2.out.noInt hu)
 have T0 := ξ (T0.out.upd hu Hd02.out)
 have T1 := ξ (T1.out.upd hu Hd12.out)
 have T2 := ξ (T2.out.set (.bool s8) (.slice p8 k8 c8) (.slice e8 m8 n8))
 have G := ξ (G.out.three Hb2.out (.bool s8) (.slice p8 k8 c8) (.slice e8 m8 n8))
 clear hu
 generalize ((w2.setCell _ _).setCell _ _).setCell _ _ = W1 at G T0 T1 T2 H2 ⊢
 refine ξ9 ?_
 clear g0
 go_wp2_with fail
 have T2_0 := T2.out.load.1
 have T2_1 := T2.out.load.2.1
 have T2_2 := T2.out.load.2.2
 refine bodyPost_ret (by simp [results, Tryz.results253, go_sem, T2_0, T2_1, T2_2]; rfl) rfl ?_
 exact ⟨_, rfl, G.out, H2.out⟩
theorem ξcZ (w : World) (va vb : Value) (z z' : Int) (q q' L M : Nat) (ha : RatP w va z q L) (hb : RatP w vb z' q' M) (hL : L ≤ 1000) (hM : M ≤ 1000) :
  Calls Tryz.prog 80 #[va, vb] w (Ret w fun r w' => r = .int .i64 (cmpQ (mkRat z q) (mkRat z' q'))) := by
 have HA := ξ ha
 have HB := ξ hb
 obtain ⟨s0, p0, k0, c0, e0, m0, n0, rfl⟩ := ha.agg
 obtain ⟨s1, p1, k1, c1, e1, m1, n1, rfl⟩ := hb.agg
 have HN := ξ (ha.num)
 have HM := ξ (hb.num)
 have HR := ξ (ξcg z z' ha.ne hb.ne)
 clear ha hb
 have B := box33 w (.bool s0) (.slice p0 k0 c0) (.slice e0 m0 n0) (.bool s1) (.slice p1 k1 c1) (.slice e1 m1 n1) 68 68
 have Hb1 := ξ (show ¬ w.heap.size + 1 < w.heap.size by omega)
 have Hd01 := ξ (show w.heap.size ≠ w.heap.size + 1 by omega)
 go_enter Tryz.func80, Tryz.ntmps80
 go_wp2_with fail
 generalize (w.alloc _).alloc _ = W at B ⊢
 obtain ⟨G0, t0, t1⟩ := B
 generalize w.heap.size + 1 = b1 at t1 Hb1 Hd01 ⊢
 generalize hb0 : w.heap.size = b0 at t0 Hd01 ⊢
 have Hb0 := ξ (show ¬ b0 < w.heap.size by omega)
 have G := ξ G0
 have T0 := ξ t0
 have T1 := ξ t1
 clear hb0 G0 t0 t1
 have HA := ξ (HA.out.grow G.out)
 have HB := ξ (HB.out.grow G.out)
 have HN := ξ (HN.out.grow G.out)
 have HM := ξ (HM.out.grow G.out)
 refine ξ3 [(0, true), (1, true), (2, true), (5, true), (6, true), (7, true), (3, false), (4, false), (8, false), (9, false), (10, false), (11, true)] (by kernel_rfl) (by kernel_rfl) rfl (by kernel_rfl) (fun _ _ d _ _ h => by cases d <;> exact h) ?_
 have T0_0 := T0.out.c0
 have T0_1 := T0.out.c1
 have T0_2 := T0.out.c2
 have T1_0 := T1.out.c0
 have T1_1 := T1.out.c1
 have T1_2 := T1.out.c2
 have g0 : Gr W W.drew := (Gr.refl _).drew
 have G := ξ (G.out.trans g0)
 have T0 := ξ (T0.out.grow g0)
 have T1 := ξ (T1.out.grow g0)
 have HA := ξ (HA.out.grow g0)
 have HB := ξ (HB.out.grow g0)
 have HN := ξ (HN.out.grow g0)
 have HM := ξ (HM.out.grow g0)
 repeat (refine ξ2 (v := ?_) g0 rfl rfl (fun w' hg => ?_) (fun K hK => ?_); rotate_left; (go_simp; rfl); go_simp; refine hK _ _ ?_; clear hK K)
 refine ξ7 (args := ?_) rfl rfl rfl rfl rfl rfl (by kernel_rfl) (by kernel_rfl) ?_ (fun K hK => ?_)
 rotate_left
 ·go_simp; rfl
 refine (ξ1Y _ _ z' q' M HB.out (by omega)).mono ?_
 rintro _ w1 ⟨r1, rfl, g1, h1⟩
 refine ⟨_, rfl, g1, ?_⟩
 go_simp
 refine hK _ _ ?_
 clear hK K
 have G := ξ (G.out.trans g1)
 have T0 := ξ (T0.out.grow g1)
 have T1 := ξ (T1.out.grow g1)
 have HA := ξ (HA.out.grow g1)
 have HB := ξ (HB.out.grow g1)
 have HN := ξ (HN.out.grow g1)
 have HM := ξ (HM.out.grow g1)
 replace g0 := g0.trans g1
 clear g1
 have H1 := ξ h1
 clear h1
 refine ξ7 (args := ?_) rfl rfl rfl rfl rfl rfl (by kernel_rfl) (by kernel_rfl) ?_ (fun K hK => ?_)
 rotate_left
 ·go_simp; rfl
 refine (ξ2U _ _ _ z q' _ L (M + 1) HN.out H1.out rfl (by omega) (by omega)).mono ?_
 rintro _ w2 ⟨r2, rfl, g2, h2⟩
 refine ⟨_, rfl, g2, ?_⟩
 go_simp
 refine hK _ _ ?_
 clear hK K
 have G := ξ (G.out.trans g2)
 have T0 := ξ (T0.out.grow g2)
 have T1 := ξ (T1.out.grow g2)
 have HA := ξ (HA.out.grow g2)
 have HB := ξ (HB.out.grow g2)
 have HN := ξ (HN.out.grow g2)
 have HM := ξ (HM.out.grow g2)
 have H1 := ξ (H1.out.grow g2)
 replace g0 := g0.trans g2
 clear g2
 have H2 := ξ h2
 clear h2
 refine ξ7 (args := ?_) rfl rfl rfl rfl rfl rfl (by kernel_rfl) (by kernel_rfl) ?_ (fun K hK => ?_)
 rotate_left
 ·go_simp; rfl
 refine (ξ1Y _ _ z q L HA.out (by omega)).mono ?_
 rintro _ w3 ⟨r3, rfl, g3, h3⟩
 refine ⟨_, rfl, g3, ?_⟩
 go_simp
 refine hK _ _ ?_
 clear hK K
 have G := ξ (G.out.trans g3)
 have T0 := ξ (T0.out.grow g3)
 have T1 := ξ (T1.out.grow g3)
 have HA := ξ (HA.out.grow g3)
 have HB := ξ (HB.out.grow g3)
 have HN := ξ (HN.out.grow g3)
 have HM := ξ (HM.out.grow g3)
 have H1 := ξ (H1.out.grow g3)
 have H2 := ξ (H2.out.grow g3)
 replace g0 := g0.trans g3
 clear g3
 have H3 := ξ h3
 clear h3
 refine ξ7 (args := ?_) rfl rfl rfl rfl rfl rfl (by kernel_rfl) (by kernel_rfl) ?_ (fun K hK => ?_)
 rotate_left
 ·go_simp; rfl
 refine (ξ2U _ _ _ z' q _ M (L + 1) HM.out H3.out rfl (by omega) (by omega)).mono ?_
 rintro _ w4 ⟨r4, rfl, g4, h4⟩
 refine ⟨_, rfl, g4, ?_⟩
 go_simp
 refine hK _ _ ?_
 clear hK K
 have G := ξ (G.out.trans g4)
 have T0 := ξ (T0.out.grow g4)
 have T1 := ξ (T1.out.grow g4)
 have HA := ξ (HA.out.grow g4)
 have HB := ξ (HB.out.grow g4)
 have HN := ξ (HN.out.grow g4)
 have HM := ξ (HM.out.grow g4)
 have H1 := ξ (H1.out.grow g4)
 have H2 := ξ (H2.out.grow g4)
 have H3 := ξ (H3.out.grow g4)
 replace g0 := g0.trans g4
 clear g4
 have H4 := ξ h4
 clear h4
 refine ξ7 (args := ?_) rfl rfl rfl rfl rfl rfl (by kernel_rfl) (by kernel_rfl) ?_ (fun K hK => ?_)
 rotate_left
 ·go_simp; rfl
 refine (ξda _ _ _ (z * q') (z' * q) _ (L + (M + 1) + 1) (M + (L + 1) + 1) H2.out.2 H4.out.2 HR.out (by omega) (by omega)).mono ?_
 rintro _ w5 ⟨_, rfl, g5, rfl⟩
 refine ⟨_, rfl, g5, ?_⟩
 go_simp
 refine hK _ _ ?_
 clear hK K
 have G := ξ (G.out.trans g5)
 have T0 := ξ (T0.out.grow g5)
 have T1 := ξ (T1.out.grow g5)
 have HA := ξ (HA.out.grow g5)
 have HB := ξ (HB.out.grow g5)
 have HN := ξ (HN.out.grow g5)
 have HM := ξ (HM.out.grow g5)
 have H1 := ξ (H1.out.grow g5)
 have H2 := ξ (H2.out.grow g5)
 have H3 := ξ (H3.out.grow g5)
 have H4 := ξ (H4.out.grow g5)
 replace g0 := g0.trans g5
 clear g5
 repeat (refine ξ2 (v := ?_) g0 rfl rfl (fun w' hg => ?_) (fun K hK => ?_); rotate_left; (go_simp; rfl); go_simp; refine hK _ _ ?_; clear hK K)
 refine ξ9 ?_
 clear g0
 clear T0_0 T0_1 T0_2 T1_0 T1_1 T1_2
 go_wp2_with fail
 go_ret
 exact ⟨_, rfl, G.out, rfl⟩
theorem ξ8t (w : World) (va vb : Value) (x y : Rat) (c : Int) (L M : Nat) (ha : RatV w va x L) (hb : RatV w vb y M) (hc : cmpQ x y = c) (hL : L ≤ 1000) (hM : M ≤ 1000) :
  Calls Tryz.prog 80 #[va, vb] w (Ret w fun r w' => r = .int .i64 c) := by
 obtain ⟨z, q, ha2, rfl⟩ := ha.p
 obtain ⟨z', q', hb2, rfl⟩ := hb.p
 subst hc
 exact ξcZ w va vb z z' q q' L M ha2 hb2 hL hM
theorem ξ3T (w : World) (va : Value) (x : Rat) (c : Int) (L : Nat) (ha : RatV w va x L) (hc : sgn x.num = c) (hL : L ≤ 1000) :
  Calls Tryz.prog 141 #[va] w (Ret w fun r w' => r = .int .i64 c) := by
 obtain ⟨z, q, ha2, rfl⟩ := ha.p
 obtain ⟨s0, p0, k0, c0, e0, m0, n0, rfl⟩ := ha2.agg
 have HN := ξ (ha2.num)
 have hs := ξcF z ha2.ne
 rw [hc] at hs
 clear ha ha2 hc
 have B := box3 w (.bool s0) (.slice p0 k0 c0) (.slice e0 m0 n0) 68
 go_enter Tryz.func141, Tryz.ntmps141
 go_wp2_with fail
 generalize w.alloc _ = W at B ⊢
 obtain ⟨G0, t0⟩ := B
 generalize hb0 : w.heap.size = b0 at t0  ⊢
 have Hb0 := ξ (show ¬ b0 < w.heap.size by omega)
 have G := ξ G0
 have T0 := ξ t0
 clear hb0 G0 t0
 have HN := ξ (HN.out.grow G.out)
 refine (ξ6G W _ z c L HN.out hs (by omega)).mono ?_
 rintro _ w1 ⟨_, rfl, g1, rfl⟩
 have G := ξ (G.out.trans g1)
 have T0 := ξ (T0.out.grow g1)
 have HN := ξ (HN.out.grow g1)
 clear g1
 go_wp2_with fail
 go_ret
 exact ⟨_, rfl, G.out, rfl⟩
theorem ξ0W (w : World) (z : Int) (h1 : -9223372036854775808 ≤ z) (h2 : z ≤ 9223372036854775807) :
  Calls Tryz.prog 77 #[.int .i64 z] w (Ret w fun r w' => RatC w' r (z : Rat)) := by
 have B := box3 w (.bool false) (.slice none 0 0) (.slice none 0 0) 68
 go_enter Tryz.func77, Tryz.ntmps77
 go_wp2_with fail
 generalize w.alloc _ = W at B ⊢
 obtain ⟨G0, t0⟩ := B
 generalize hb0 : w.heap.size = b0 at t0  ⊢
 have Hb0 := ξ (show ¬ b0 < w.heap.size by omega)
 have G := ξ G0
 have T0 := ξ t0
 clear hb0 G0 t0
 refine (ξ7q W z h1 h2).mono ?_
 rintro _ w1 ⟨r1, rfl, g1, h1⟩
 have G := ξ (G.out.trans g1)
 have T0 := ξ (T0.out.grow g1)
 clear g1
 have H1 := ξ h1
 clear h1
 obtain ⟨p2, k2, c2, rfl⟩ := H1.out.agg
 generalize decide (z < 0) = s2 at H1 ⊢
 have HV := ξ (RatC.ofInt H1.out)
 have T0_0 := T0.out.load.1
 have T0_f0 := T0.out.f0 0
 have T0_1 := T0.out.load.2.1
 have T0_f1 := T0.out.f0 1
 have T0_2 := T0.out.load.2.2
 have T0_f2 := T0.out.f0 2
 go_wp2_with fail
 clear T0_0 T0_f0 T0_1 T0_f1 T0_2 T0_f2
 have hu := upd3 w1 b0 (.bool s2) (.slice p2 k2 c2) (.slice none 0 0)
 have HV := ξ (HV.out.upd T0.out.noInt hu)
 have T0 := ξ (T0.out.set (.bool s2) (.slice p2 k2 c2) (.slice none 0 0))
 have G := ξ (G.out.three Hb0.out (.bool s2) (.slice p2 k2 c2) (.slice none 0 0))
 clear hu
 generalize ((w1.setCell _ _).setCell _ _).setCell _ _ = W1 at G T0 HV ⊢
 have T0_0 := T0.out.load.1
 have T0_1 := T0.out.load.2.1
 have T0_2 := T0.out.load.2.2
 refine bodyPost_ret (by simp [results, Tryz.results77, go_sem, T0_0, T0_1, T0_2]; rfl) rfl ?_
 exact ⟨_, rfl, G.out, HV.out⟩
theorem ξbY (z : Int) (h1 : -9223372036854775808 ≤ z) (h2 : z ≤ 9223372036854775807) : (digs z.natAbs).length ≤ 2 := ξ1o.2 (by omega)
theorem ξ2s {a : Int} (h : 0 < a) : sgn a = 1 := by unfold sgn; rw [if_neg (by omega), if_neg (by omega)]
theorem ξ2i {a : Int} (h : a < 0) : sgn a = -1 := by unfold sgn; rw [if_pos h]
theorem ξb6 (x y : Int) : quoZ false x y = x.tdiv y := by
 unfold quoZ
 simp only [Bool.false_and, Bool.false_eq_true, if_false, Nat.add_zero]
 have key : ∀ (m n : Nat), (((m / n : Nat) : Int)) = Int.tdiv m n := fun m n => rfl
 rcases Int.lt_trichotomy x 0 with hx | hx | hx <;> rcases Int.lt_trichotomy y 0 with hy | hy | hy
 all_goals (try subst hx) <;> (try subst hy)
 ·obtain ⟨m, rfl⟩ : ∃ m : Nat, x = -m := ⟨x.natAbs, by omega⟩
  obtain ⟨n, rfl⟩ : ∃ n : Nat, y = -n := ⟨y.natAbs, by omega⟩
  rw [ξ2i hx, ξ2i hy, if_neg (by decide), Int.neg_tdiv, Int.tdiv_neg, Int.neg_neg, Int.natAbs_neg, Int.natAbs_neg]
  rfl
 ·simp [sgn]
 ·obtain ⟨m, rfl⟩ : ∃ m : Nat, x = -m := ⟨x.natAbs, by omega⟩
  obtain ⟨n, rfl⟩ : ∃ n : Nat, y = n := ⟨y.natAbs, by omega⟩
  rw [ξ2i hx, ξ2s hy, if_pos (by decide), Int.neg_tdiv, Int.natAbs_neg]
  rfl
 ·simp [sgn]
 ·simp [sgn]
 ·simp [sgn]
 ·obtain ⟨m, rfl⟩ : ∃ m : Nat, x = m := ⟨x.natAbs, by omega⟩
  obtain ⟨n, rfl⟩ : ∃ n : Nat, y = -n := ⟨y.natAbs, by omega⟩
  rw [ξ2s hx, ξ2i hy, if_pos (by decide), Int.tdiv_neg, Int.natAbs_neg]
  rfl
 ·simp [sgn]
 ·obtain ⟨m, rfl⟩ : ∃ m : Nat, x = m := ⟨x.natAbs, by omega⟩
  obtain ⟨n, rfl⟩ : ∃ n : Nat, y = n := ⟨y.natAbs, by omega⟩
  rw [ξ2s hx, ξ2s hy, if_neg (by decide)]
  rfl
theorem ξd6 (x y : Int) : x - quoZ false x y * y = x.tmod y := by
 rw [ξb6, Int.tmod_def, Int.mul_comm]
theorem ξ5l (z : Int) {q : Nat} (hq : q ≠ 0) : (mkRat z q).den = 1 ↔ z.tmod (q : Int) = 0 := by
 have hg : 0 < Nat.gcd z.natAbs q := Nat.gcd_pos_of_pos_right _ (by omega)
 rw [ξ2w z q hq, ← Int.dvd_iff_tmod_eq_zero, Int.ofNat_dvd_left]
 constructor
 ·intro h
  have h2 : Nat.gcd z.natAbs q = q := by
   have h3 := Nat.div_mul_cancel (Nat.gcd_dvd_right z.natAbs q)
   rw [h, Nat.one_mul] at h3
   exact h3
  rw [← h2]; exact Nat.gcd_dvd_left _ _
 ·intro h
  rw [Nat.gcd_eq_right h]
  exact Nat.div_self (by omega)
theorem ξc5 (z : Int) {q : Nat} (hq : q ≠ 0) (h : z.tmod (q : Int) = 0) : (mkRat z q).num = z.tdiv (q : Int) := by
 have hd := (ξ5l z hq).2 h
 rw [ξ2w z q hq] at hd
 have h2 : Nat.gcd z.natAbs q = q := by
  have h3 := Nat.div_mul_cancel (Nat.gcd_dvd_right z.natAbs q)
  rw [hd, Nat.one_mul] at h3
  exact h3
 rw [ξ3p z q hq, h2, Int.tdiv_eq_ediv_of_dvd (Int.dvd_of_tmod_eq_zero h)]
theorem ξ8W (p : Int) {q : Nat} (hq : q ≠ 0) : quoZ true p (q : Int) = p / (q : Int) := by
 have e := Nat.div_add_mod p.natAbs q
 have l := Nat.mod_lt p.natAbs (show 0 < q by omega)
 unfold quoZ
 have h1 : sgn (q : Int) = 1 := by unfold sgn; rw [if_neg (by omega), if_neg (by omega)]
 rw [h1, Int.natAbs_natCast]
 generalize p.natAbs / q = d at e ⊢
 generalize p.natAbs % q = m at e l ⊢
 have e' : (p.natAbs : Int) = (q : Int) * d + m := by exact_mod_cast e.symm
 by_cases hp : p < 0
 ·have hs : sgn p * 1 < 0 := by unfold sgn; rw [if_pos hp]; decide
  have hpe : p = -((q : Int) * d + m) := by omega
  symm
  by_cases hm : 0 < m
  ·simp only [hs, hm, if_true, decide_true, Bool.and_self]
   refine (Int.ediv_emod_unique (b := (q : Int)) (r := q - m) (by omega)).2 ⟨?_, by omega, by omega⟩ |>.1
   rw [hpe, Int.natCast_add, Int.mul_neg, Int.mul_add]
   simp only [Int.natCast_one, Int.mul_one]
   omega
  ·have hm0 : m = 0 := by omega
   subst hm0
   simp only [hs, if_true, decide_true, Nat.lt_irrefl, decide_false, Bool.and_false, Bool.false_eq_true, if_false, Nat.add_zero]
   refine (Int.ediv_emod_unique (b := (q : Int)) (r := 0) (by omega)).2 ⟨?_, by omega, by omega⟩ |>.1
   rw [hpe, Int.mul_neg]
   simp
 ·have hs : ¬ sgn p * 1 < 0 := by unfold sgn; rw [if_neg hp]; split <;> decide
  have hpe : p = ((q : Int) * d + m) := by omega
  symm
  simp only [hs, if_false, decide_false, Bool.and_false, Bool.false_and, Bool.false_eq_true, Nat.add_zero]
  refine (Int.ediv_emod_unique (b := (q : Int)) (r := m) (by omega)).2 ⟨?_, by omega, by omega⟩ |>.1
  rw [hpe]; omega
theorem ξ8i (w : World) (va : Value) (x : Rat) (f : Int) (L : Nat) (ha : RatV w va x L) (hf : x.floor = f) (hL : L ≤ 1000) :
  Calls Tryz.prog 255 #[va] w (Ret w fun r w' => IntC w' r f) := by
 obtain ⟨z, q, ha2, rfl⟩ := ha.p
 clear ha
 have HA := ξ ha2
 obtain ⟨s0, p0, k0, c0, e0, m0, n0, rfl⟩ := ha2.agg
 have HN := ξ ha2.num
 have Hq := ξ ha2.ne
 have HF := ξ (show quoZ true z q = f by rw [ξ8W z ha2.ne, ξaE z ha2.ne, hf])
 clear ha2 hf
 have B := box32 w (.bool s0) (.slice p0 k0 c0) (.slice e0 m0 n0) (.bool false) (.slice none 0 0) 68 66
 have Hb1 := ξ (show ¬ w.heap.size + 1 < w.heap.size by omega)
 have Hd01 := ξ (show w.heap.size ≠ w.heap.size + 1 by omega)
 go_enter Tryz.func255, Tryz.ntmps255
 go_wp2_with fail
 generalize (w.alloc _).alloc _ = W at B ⊢
 obtain ⟨G0, t0, t1⟩ := B
 generalize w.heap.size + 1 = b1 at t1 Hb1 Hd01 ⊢
 generalize hb0 : w.heap.size = b0 at t0 Hd01 ⊢
 have Hb0 := ξ (show ¬ b0 < w.heap.size by omega)
 have G := ξ G0
 have T0 := ξ t0
 have T1 := ξ t1
 clear hb0 G0 t0 t1
 have HA := ξ (HA.out.grow G.out)
 have HN := ξ (HN.out.grow G.out)
 have g0 : Gr W W.drew := (Gr.refl _).drew
 have T0_0 := T0.out.c0
 have T0_1 := T0.out.c1
 have T0_2 := T0.out.c2
 refine ξ3e zcI 60 [(0, 1), (1, 1), (2, 1), (3, 0), (4, 0), (5, 1), (6, 1), (7, 1), (8, 1), (9, 2), (10, 2), (11, 0), (12, 0), (13, 1)] (by kernel_rfl) (by kernel_rfl) rfl (by kernel_rfl) (fun _ _ d _ _ h => by cases d <;> exact h) (fun _ _ d _ _ h => by cases d <;> exact h) (by intro i hi; simp at hi; rcases hi with rfl | rfl <;> exact ⟨_, _, rfl, rfl, rfl, allocI⟩) ?_
 repeat (refine ξ1p (v := ?_) g0 rfl rfl (fun w' hg => ?_) (fun K hK => ?_); rotate_left; (go_simp; rfl); go_simp; refine hK _ _ ?_; clear hK K)
 refine ξ2b rfl rfl (fun K hK w1 g1 => ?_)
 go_simp
 refine (ξ1Y _ _ z q L (HA.out.grow (g0.trans g1)) (by omega)).mono ?_
 rintro _ w2 ⟨r2, rfl, g2, h2⟩
 refine ⟨fun _ => g2, hK _ _ ?_⟩
 clear hK K
 have H2 := ξ h2
 have g2 := (g0.trans g1).trans g2
 clear g1 h2
 refine ξ2b rfl rfl (fun K hK w5 g5 => ?_)
 go_simp
 refine (ξbX _ _ _ z q f L (L + 1) (HN.out.grow (g2.trans g5)) (H2.out.grow g5) (by have := Hq.out; omega) HF.out (by omega) (by omega)).mono ?_
 rintro _ w6 ⟨_, rfl, g6, qa, qb, rfl, hq, hs⟩
 refine ⟨fun _ => g6, hK _ _ ?_⟩
 clear hK K
 have g7 := g2.trans (g5.trans g6)
 have HQ := ξ hq
 have HS := ξ hs
 obtain ⟨pa1, ka1, ca1, rfl, _⟩ := hq
 obtain ⟨pb1, kb1, cb1, rfl, _⟩ := hs
 clear g2 g5 g6
 repeat (refine ξ1p (v := ?_) g7 rfl rfl (fun w' hg => ?_) (fun K hK => ?_); rotate_left; (go_simp; rfl); go_simp; refine hK _ _ ?_; clear hK K)
 generalize decide (f < 0) = sa at HQ ⊢
 generalize decide (z - f * (q : Int) < 0) = sb at HS ⊢
 refine ξ46 rfl rfl (fun K w8 b12 g8 f2 n2 hK => hK _ _ ?_)
 clear hK K
 refine ξ46 rfl rfl (fun K w9 b13 g9 f3 n3 hK => hK _ _ ?_)
 clear hK K
 have T2' := f2.two
 have T3' := f3.two
 clear f2 f3
 refine ξ2b rfl rfl (fun K hK w10 g10 => ?_)
 have e2 := T2'.grow (g9.trans g10)
 have d0 := e2.c0 w10 (Gr.refl _)
 have d1 := e2.c1 w10 (Gr.refl _)
 have d2 := e2.f0 0
 have d3 := e2.f0 1
 go_simp
 refine ⟨fun h => Bool.noConfusion h, hK _ _ ?_⟩
 clear hK K
 have h11 := (g7.trans (g8.trans (g9.trans g10))).two n2 (.bool sa) (.slice pa1 ka1 ca1)
 have U2 := e2.set (.bool sa) (.slice pa1 ka1 ca1)
 have e3 := (T3'.grow g10).other (fun e => n3 (.inr e)) (.bool sa) (.slice pa1 ka1 ca1)
 have HQ := ξ ((HQ.out.grow (g8.trans (g9.trans g10))).keepBox e2 (.bool sa) (.slice pa1 ka1 ca1))
 have HS := ξ ((HS.out.grow (g8.trans (g9.trans g10))).keepBox e2 (.bool sa) (.slice pa1 ka1 ca1))
 clear d0 d1 d2 d3 e2 T2' T3'
 generalize (w10.setCell _ _).setCell _ _ = w11 at h11 U2 e3 HQ HS ⊢
 refine ξ2b rfl rfl (fun K hK w12 g12 => ?_)
 have e3 := e3.grow g12
 have d0 := e3.c0 w12 (Gr.refl _)
 have d1 := e3.c1 w12 (Gr.refl _)
 have d2 := e3.f0 0
 have d3 := e3.f0 1
 go_simp
 refine ⟨fun h => Bool.noConfusion h, hK _ _ ?_⟩
 clear hK K
 have h13 := (h11.trans g12).two (fun h => n3 (.inl h)) (.bool sb) (.slice pb1 kb1 cb1)
 have U3 := e3.set (.bool sb) (.slice pb1 kb1 cb1)
 have U2 := (U2.grow g12).other (fun e => n3 (.inr e.symm)) (.bool sb) (.slice pb1 kb1 cb1)
 have HQ := ξ ((HQ.out.grow g12).keepBox e3 (.bool sb) (.slice pb1 kb1 cb1))
 have HS := ξ ((HS.out.grow g12).keepBox e3 (.bool sb) (.slice pb1 kb1 cb1))
 clear d0 d1 d2 d3 e3
 generalize (w12.setCell _ _).setCell _ _ = W2 at h13 U2 U3 HQ HS ⊢
 repeat (refine ξ1p (v := ?_) h13 rfl rfl (fun w' hg => ?_) (fun K hK => ?_); rotate_left; (go_simp; rfl); go_simp; refine hK _ _ ?_; clear hK K)
 refine ξ8e ?_
 have TQ := ξ U2
 have TS := ξ U3
 clear h11 U2 U3 n2 n3 g7 g8 g9 g10 g12 g0
 clear T0_0 T0_1 T0_2
 have G := ξ (G.out.trans h13)
 have T0 := ξ (T0.out.grow h13)
 have T1 := ξ (T1.out.grow h13)
 clear h13
 have T1_0 := T1.out.load.1
 have T1_f0 := T1.out.f0 0
 have T1_1 := T1.out.load.2
 have T1_f1 := T1.out.f0 1
 have TQ_0 := TQ.out.load.1
 have TQ_f0 := TQ.out.f0 0
 have TQ_1 := TQ.out.load.2
 have TQ_f1 := TQ.out.f0 1
 go_wp2_with fail
 clear T1_0 T1_f0 T1_1 T1_f1 TQ_0 TQ_f0 TQ_1 TQ_f1
 have hu := upd2 W2 b1 (.bool sa) (.slice pa1 ka1 ca1)
 have HQ := ξ (HQ.out.upd T1.out.noInt hu)
 have T0 := ξ (T0.out.upd hu Hd01.out)
 have T1 := ξ (T1.out.set (.bool sa) (.slice pa1 ka1 ca1))
 have G := ξ (G.out.two Hb1.out (.bool sa) (.slice pa1 ka1 ca1))
 clear hu
 generalize (W2.setCell _ _).setCell _ _ = W3 at G T0 T1 HQ ⊢
 have T1_0 := T1.out.load.1
 have T1_1 := T1.out.load.2
 refine bodyPost_ret (by simp [results, Tryz.results255, go_sem, T1_0, T1_1]; rfl) rfl ?_
 exact ⟨_, rfl, G.out, HQ.out⟩
theorem RatV.sz {w : World} {v : Value} {x : Rat} {L : Nat} (h : RatV w v x L) (hL : 1 ≤ L) : Sz L x := by
 obtain ⟨n, l, d, ⟨p, k, c, q, m, e, rfl, h1, h2⟩, rfl, h3, h4⟩ := h
 refine ξbg (ξ5k d) ?_ ?_
 ·rw [ξ11]; exact Nat.le_trans (ξm h1.dig) h3
 ·unfold denV
  split
  ·exact Nat.le_trans (by decide +kernel) hL
  ·exact Nat.le_trans (ξm h2.dig) h4
theorem RatV.mono {w : World} {v : Value} {x : Rat} {L M : Nat} (h : RatV w v x L) (hM : L ≤ M) : RatV w v x M := by
 obtain ⟨n, l, d, h1, h2, h3, h4⟩ := h; exact ⟨n, l, d, h1, h2, Nat.le_trans h3 hM, Nat.le_trans h4 hM⟩
theorem ξ5R {x : Rat} {L : Nat} (h : Sz L x) : (digs x.floor.natAbs).length ≤ L + 1 := by
 rw [Rat.floor_def]
 have hd : (0 : Int) < x.den := by have := x.den_nz; omega
 have h0 : (x.num / (x.den : Int)).natAbs ≤ x.num.natAbs + 1 := by
  have a := Int.ediv_mul_le x.num (b := (x.den : Int)) (by omega)
  have b := Int.lt_ediv_add_one_mul_self x.num hd
  by_cases hn : 0 ≤ x.num
  ·have c := Int.ediv_le_self (x.den : Int) hn
   have d := Int.ediv_nonneg hn (by omega : (0 : Int) ≤ x.den)
   omega
  ·have c : x.num ≤ x.num / (x.den : Int) := by
    refine Int.le_ediv_of_mul_le hd ?_
    have := Int.mul_le_mul_of_nonpos_left (a := x.num) (b := x.den) (c := 1) (by omega) (by omega)
    omega
   have d : x.num / (x.den : Int) < 0 := Int.ediv_lt_of_lt_mul hd (by omega)
   omega
 exact Nat.le_trans (ξl h0) (ξ0A (k := L) h.1 (Nat.le_trans (by decide +kernel) (ξ7D x.den_nz h.2)))
theorem ξ9o (w : World) (va : Value) (x : Rat) (f : Int) (L : Nat) (ha : RatV w va x L) (hf : -(-x).floor = f) (hL : L ≤ 900) (h1 : 1 ≤ L) :
  Calls Tryz.prog 252 #[va] w (Ret w fun r w' => IntC w' r f) := by
 have HA := ξ ha
 have HZ := ξ (ξ42 (ha.sz h1))
 have HF := ξ hf
 obtain ⟨s0, p0, k0, c0, e0, m0, n0, rfl⟩ := ha.agg
 clear ha hf
 have B := box32 w (.bool s0) (.slice p0 k0 c0) (.slice e0 m0 n0) (.bool false) (.slice none 0 0) 68 66
 have Hb1 := ξ (show ¬ w.heap.size + 1 < w.heap.size by omega)
 have Hd01 := ξ (show w.heap.size ≠ w.heap.size + 1 by omega)
 go_enter Tryz.func252, Tryz.ntmps252
 go_wp2_with fail
 generalize (w.alloc _).alloc _ = W at B ⊢
 obtain ⟨G0, t0, t1⟩ := B
 generalize w.heap.size + 1 = b1 at t1 Hb1 Hd01 ⊢
 generalize hb0 : w.heap.size = b0 at t0 Hd01 ⊢
 have Hb0 := ξ (show ¬ b0 < w.heap.size by omega)
 have G := ξ G0
 have T0 := ξ t0
 have T1 := ξ t1
 clear hb0 G0 t0 t1
 have HA := ξ (HA.out.grow G.out)
 refine (ξ6o W _ x _ L HA.out rfl (by omega)).mono ?_
 rintro _ w1 ⟨r1, rfl, g1, h1⟩
 have G := ξ (G.out.trans g1)
 have T0 := ξ (T0.out.grow g1)
 have T1 := ξ (T1.out.grow g1)
 have HA := ξ (HA.out.grow g1)
 clear g1
 have H1 := ξ h1
 clear h1
 go_wp2_with fail
 refine (ξ8i w1 _ (-x) _ L (H1.out.v HZ.out) rfl (by omega)).mono ?_
 rintro _ w2 ⟨r2, rfl, g2, h2⟩
 have G := ξ (G.out.trans g2)
 have T0 := ξ (T0.out.grow g2)
 have T1 := ξ (T1.out.grow g2)
 have HA := ξ (HA.out.grow g2)
 have H1 := ξ (H1.out.grow g2)
 clear g2
 have H2 := ξ h2
 clear h2
 go_wp2_with fail
 refine (ξ6m w2 _ _ f (L + 1) (H2.out.v (ξ5R HZ.out)) HF.out (by omega)).mono ?_
 rintro _ w3 ⟨r3, rfl, g3, h3⟩
 have G := ξ (G.out.trans g3)
 have T0 := ξ (T0.out.grow g3)
 have T1 := ξ (T1.out.grow g3)
 have HA := ξ (HA.out.grow g3)
 have H1 := ξ (H1.out.grow g3)
 have H2 := ξ (H2.out.grow g3)
 clear g3
 have H3 := ξ h3
 clear h3
 have HV := ξ H3.out.1
 obtain ⟨p1, k1, c1, rfl⟩ := HV.out.agg
 generalize decide (f < 0) = sa at HV H3 ⊢
 have T1_0 := T1.out.load.1
 have T1_f0 := T1.out.f0 0
 have T1_1 := T1.out.load.2
 have T1_f1 := T1.out.f0 1
 go_wp2_with fail
 clear T1_0 T1_f0 T1_1 T1_f1
 have hu := upd2 w3 b1 (.bool sa) (.slice p1 k1 c1)
 have HV := ξ (HV.out.upd T1.out.noInt hu)
 have T0 := ξ (T0.out.upd hu Hd01.out)
 have T1 := ξ (T1.out.set (.bool sa) (.slice p1 k1 c1))
 have G := ξ (G.out.two Hb1.out (.bool sa) (.slice p1 k1 c1))
 clear hu
 generalize (w3.setCell _ _).setCell _ _ = W3 at G T0 T1 HV ⊢
 have T1_0 := T1.out.load.1
 have T1_1 := T1.out.load.2
 refine bodyPost_ret (by simp [results, Tryz.results252, go_sem, T1_0, T1_1]; rfl) rfl ?_
 exact ⟨_, rfl, G.out, HV.out⟩
theorem ξc8 (w : World) (va : Value) (x : Rat) (t : Bool) (L : Nat) (ha : RatV w va x L) (ht : (decide (x.den = 1) && fits x.num) = t) (hL : L ≤ 1000) :
  Calls Tryz.prog 285 #[va] w (Ret w fun r w' => r = .tuple #[.int .i64 (if t then x.num else 0), .bool t]) := by
 obtain ⟨z, q, ha2, rfl⟩ := ha.p
 clear ha
 have HA := ξ ha2
 obtain ⟨s0, p0, k0, c0, e0, m0, n0, rfl⟩ := ha2.agg
 have HN := ξ ha2.num
 have Hq := ξ ha2.ne
 obtain ⟨f, hf⟩ : ∃ f, quoZ false z q = f := ⟨_, rfl⟩
 have HF := ξ hf
 have HR := ξ (show z - f * (q : Int) = z.tmod q by rw [← hf, ξd6])
 have HT := ξ ht
 have HRl := ξ (show (digs (z - f * (q : Int)).natAbs).length ≤ L + 2 by
  rw [HR.out]
  have h := ha2.num.len
  refine Nat.le_trans (ξl (b := z.natAbs) ?_) (Nat.le_trans h (by omega))
  rw [Int.natAbs_tmod]; exact Nat.mod_le _ _)
 clear ha2 hf ht
 have B := box3 w (.bool s0) (.slice p0 k0 c0) (.slice e0 m0 n0) 68
 go_enter Tryz.func285, Tryz.ntmps285
 go_wp2_with fail
 generalize w.alloc _ = W at B ⊢
 obtain ⟨G0, t0⟩ := B
 generalize hb0 : w.heap.size = b0 at t0  ⊢
 have Hb0 := ξ (show ¬ b0 < w.heap.size by omega)
 have G := ξ G0
 have T0 := ξ t0
 clear hb0 G0 t0
 have HA := ξ (HA.out.grow G.out)
 have HN := ξ (HN.out.grow G.out)
 have g0 : Gr W W.drew := (Gr.refl _).drew
 have T0_0 := T0.out.c0
 have T0_1 := T0.out.c1
 have T0_2 := T0.out.c2
 refine ξ3e zcI 60 [(0, 1), (1, 1), (2, 1), (3, 0), (4, 0), (5, 1), (6, 1), (7, 1), (8, 1), (9, 2), (10, 2), (11, 0), (12, 0), (13, 1)] (by kernel_rfl) (by kernel_rfl) rfl (by kernel_rfl) (fun _ _ d _ _ h => by cases d <;> exact h) (fun _ _ d _ _ h => by cases d <;> exact h) (by intro i hi; simp at hi; rcases hi with rfl | rfl <;> exact ⟨_, _, rfl, rfl, rfl, allocI⟩) ?_
 repeat (refine ξ1p (v := ?_) g0 rfl rfl (fun w' hg => ?_) (fun K hK => ?_); rotate_left; (go_simp; rfl); go_simp; refine hK _ _ ?_; clear hK K)
 refine ξ2b rfl rfl (fun K hK w1 g1 => ?_)
 go_simp
 refine (ξ1Y _ _ z q L (HA.out.grow (g0.trans g1)) (by omega)).mono ?_
 rintro _ w2 ⟨r2, rfl, g2, h2⟩
 refine ⟨fun _ => g2, hK _ _ ?_⟩
 clear hK K
 have H2 := ξ h2
 have g2 := (g0.trans g1).trans g2
 clear g1 h2
 refine ξ2b rfl rfl (fun K hK w5 g5 => ?_)
 go_simp
 refine (ξ4V _ _ _ z q f L (L + 1) (HN.out.grow (g2.trans g5)) (H2.out.grow g5) (by have := Hq.out; omega) HF.out (by omega) (by omega)).mono ?_
 rintro _ w6 ⟨_, rfl, g6, qa, qb, rfl, hq, hs⟩
 refine ⟨fun _ => g6, hK _ _ ?_⟩
 clear hK K
 have g7 := g2.trans (g5.trans g6)
 have HQ := ξ hq
 have HS := ξ hs
 obtain ⟨pa1, ka1, ca1, rfl, _⟩ := hq
 obtain ⟨pb1, kb1, cb1, rfl, _⟩ := hs
 clear g2 g5 g6
 repeat (refine ξ1p (v := ?_) g7 rfl rfl (fun w' hg => ?_) (fun K hK => ?_); rotate_left; (go_simp; rfl); go_simp; refine hK _ _ ?_; clear hK K)
 obtain ⟨sa, hsa⟩ : ∃ sa, decide (f < 0) = sa := ⟨_, rfl⟩
 have HQ := ξ (show IntC _ (.agg #[.bool sa, .slice pa1 ka1 ca1]) f by rw [← hsa]; exact HQ.out)
 rw [hsa]
 clear hsa
 generalize decide (z - f * (q : Int) < 0) = sb at HS ⊢
 refine ξ46 rfl rfl (fun K w8 b12 g8 f2 n2 hK => hK _ _ ?_)
 clear hK K
 refine ξ46 rfl rfl (fun K w9 b13 g9 f3 n3 hK => hK _ _ ?_)
 clear hK K
 have T2' := f2.two
 have T3' := f3.two
 clear f2 f3
 refine ξ2b rfl rfl (fun K hK w10 g10 => ?_)
 have e2 := T2'.grow (g9.trans g10)
 have d0 := e2.c0 w10 (Gr.refl _)
 have d1 := e2.c1 w10 (Gr.refl _)
 have d2 := e2.f0 0
 have d3 := e2.f0 1
 go_simp
 refine ⟨fun h => Bool.noConfusion h, hK _ _ ?_⟩
 clear hK K
 have h11 := (g7.trans (g8.trans (g9.trans g10))).two n2 (.bool sa) (.slice pa1 ka1 ca1)
 have U2 := e2.set (.bool sa) (.slice pa1 ka1 ca1)
 have e3 := (T3'.grow g10).other (fun e => n3 (.inr e)) (.bool sa) (.slice pa1 ka1 ca1)
 have HQ := ξ ((HQ.out.grow (g8.trans (g9.trans g10))).keepBox e2 (.bool sa) (.slice pa1 ka1 ca1))
 have HS := ξ ((HS.out.grow (g8.trans (g9.trans g10))).keepBox e2 (.bool sa) (.slice pa1 ka1 ca1))
 clear d0 d1 d2 d3 e2 T2' T3'
 generalize (w10.setCell _ _).setCell _ _ = w11 at h11 U2 e3 HQ HS ⊢
 refine ξ2b rfl rfl (fun K hK w12 g12 => ?_)
 have e3 := e3.grow g12
 have d0 := e3.c0 w12 (Gr.refl _)
 have d1 := e3.c1 w12 (Gr.refl _)
 have d2 := e3.f0 0
 have d3 := e3.f0 1
 go_simp
 refine ⟨fun h => Bool.noConfusion h, hK _ _ ?_⟩
 clear hK K
 have h13 := (h11.trans g12).two (fun h => n3 (.inl h)) (.bool sb) (.slice pb1 kb1 cb1)
 have U3 := e3.set (.bool sb) (.slice pb1 kb1 cb1)
 have U2 := (U2.grow g12).other (fun e => n3 (.inr e.symm)) (.bool sb) (.slice pb1 kb1 cb1)
 have HQ := ξ ((HQ.out.grow g12).keepBox e3 (.bool sb) (.slice pb1 kb1 cb1))
 have HS := ξ ((HS.out.grow g12).keepBox e3 (.bool sb) (.slice pb1 kb1 cb1))
 clear d0 d1 d2 d3 e3
 generalize (w12.setCell _ _).setCell _ _ = W2 at h13 U2 U3 HQ HS ⊢
 repeat (refine ξ1p (v := ?_) h13 rfl rfl (fun w' hg => ?_) (fun K hK => ?_); rotate_left; (go_simp; rfl); go_simp; refine hK _ _ ?_; clear hK K)
 refine ξ8e ?_
 have TQ := ξ U2
 have TS := ξ U3
 clear h11 U2 U3 n2 n3 g7 g8 g9 g10 g12 g0
 clear T0_0 T0_1 T0_2
 have G := ξ (G.out.trans h13)
 have T0 := ξ (T0.out.grow h13)
 clear h13
 have TS_0 := TS.out.load.1
 have TS_1 := TS.out.load.2
 go_wp2_with fail
 obtain ⟨sr, hsr⟩ : ∃ sr, sgn (z - f * (q : Int)) = sr := ⟨_, rfl⟩
 refine (ξ6G W2 _ _ sr (L + 2) (HS.out.v HRl.out) hsr (by omega)).mono ?_
 rintro _ w8 ⟨_, rfl, g8, rfl⟩
 clear TS_0 TS_1
 have G := ξ (G.out.trans g8)
 have T0 := ξ (T0.out.grow g8)
 have TQ := ξ (TQ.out.grow g8)
 have TS := ξ (TS.out.grow g8)
 have HQ := ξ (HQ.out.grow g8)
 have HS := ξ (HS.out.grow g8)
 clear g8
 by_cases h0 : z - f * (q : Int) = 0
 ·have hs0 : sr = 0 := by rw [← hsr, h0]; rfl
  subst hs0
  have hm : z.tmod q = 0 := by rw [← HR.out]; exact h0
  have hfz : f = (mkRat z q).num := by rw [ξc5 z Hq.out hm, ← ξb6]; exact HF.out.symm
  have htf : fits f = t := by rw [← HT.out, (ξ5l z Hq.out).2 hm, hfz]; simp
  have HX := ξ hfz
  clear hsr h0 hm hfz
  have TQ_0 := TQ.out.load.1
  have TQ_1 := TQ.out.load.2
  go_wp2_with fail
  refine (ξa3 w8 _ _ _ f t (ξ4U f) htf HQ.out).mono ?_
  rintro _ w9 ⟨_, rfl, g9, rfl⟩
  clear TQ_0 TQ_1
  have G := ξ (G.out.trans g9)
  have T0 := ξ (T0.out.grow g9)
  have TQ := ξ (TQ.out.grow g9)
  have TS := ξ (TS.out.grow g9)
  have HQ := ξ (HQ.out.grow g9)
  have HS := ξ (HS.out.grow g9)
  clear g9
  clear htf
  cases t
  all_goals
   go_wp2_with fail
   go_ret2
   exact ⟨_, rfl, G.out, by first | rfl | (rw [← HX.out]; rfl)⟩
 ·have hs0 : ¬ sr = 0 := by rw [← hsr]; unfold sgn; split <;> simp_all
  have hm : ¬ z.tmod q = 0 := by rw [← HR.out]; exact h0
  have ht2 : t = false := by
   rw [← HT.out, decide_eq_false (fun e => hm ((ξ5l z Hq.out).1 e))]; rfl
  subst ht2
  clear hsr h0 hm
  go_wp2_with fail
  go_ret2
  exact ⟨_, rfl, G.out, rfl⟩
end Go.Proofs.YtcjgimlcefhhmaaGreatDoor

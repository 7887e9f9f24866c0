/-
  Fractions: the operations.
-/
import Derived.Test.YtmcgkglmlfbijaaGreatDoorRatC
namespace Go.Proofs.YtmcgkglmlfbijaaGreatDoor
open Go.RowKit Go.Lib
set_option linter.unusedVariables false
set_option linter.unusedSimpArgs false

/-- v is a fraction with numerator z and denominator q, of at most L digits -/
def RatP (w : World) (v : Value) (z : Int) (q L : Nat) : Prop := ∃ n l d, RatL w v n l d ∧ zval n l = z ∧ denV d = q ∧ l.length ≤ L ∧ d.length ≤ L
theorem RatP.grow {w w' : World} {v : Value} {z : Int} {q L : Nat} (h : RatP w v z q L) (g : Gr w w') : RatP w' v z q L := by
  obtain ⟨n, l, d, h1, h2⟩ := h; exact ⟨n, l, d, h1.grow g, h2⟩
theorem RatP.upd {w w' : World} {v : Value} {z : Int} {q L b : Nat} (h : RatP w v z q L) (hb : NoInt w b) (hu : Upd b w w') : RatP w' v z q L := by
  obtain ⟨n, l, d, h1, h2⟩ := h; exact ⟨n, l, d, h1.upd hb hu, h2⟩
theorem RatP.ne {w : World} {v : Value} {z : Int} {q L : Nat} (h : RatP w v z q L) : q ≠ 0 := by
  obtain ⟨n, l, d, h1, h2, rfl, h3⟩ := h; exact denV_ne d
theorem RatV.p {w : World} {v : Value} {x : Rat} {L : Nat} (h : RatV w v x L) : ∃ z q, RatP w v z q L ∧ mkRat z q = x := by
  obtain ⟨n, l, d, h1, h2, h3, h4⟩ := h
  exact ⟨_, _, ⟨n, l, d, h1, rfl, rfl, h3, h4⟩, h2⟩
theorem RatP.v {w : World} {v : Value} {z : Int} {q L : Nat} (h : RatP w v z q L) : RatV w v (mkRat z q) L := by
  obtain ⟨n, l, d, h1, rfl, rfl, h3, h4⟩ := h
  exact ⟨n, l, d, h1, rfl, h3, h4⟩
theorem RatP.agg {w : World} {v : Value} {z : Int} {q L : Nat} (h : RatP w v z q L) : ∃ s p k c p' m e, v = .agg #[.bool s, .slice p k c, .slice p' m e] := by
  obtain ⟨n, l, d, ⟨p, k, c, q, m, e, rfl, h1, h2⟩, h3⟩ := h
  exact ⟨_, _, _, _, _, _, _, rfl⟩
theorem RatP.num {w : World} {s : Bool} {p p' : Option Addr} {k c m e : Nat} {z : Int} {q L : Nat} (h : RatP w (.agg #[.bool s, .slice p k c, .slice p' m e]) z q L) : IntV w (.agg #[.bool s, .slice p k c]) z L := by
  obtain ⟨n, l, d, ⟨p1, k1, c1, q1, m1, e1, hv, h1, h2⟩, h3, h4, h5, h6⟩ := h
  simp only [Value.agg.injEq, Array.mk.injEq, List.cons.injEq, Value.bool.injEq, Value.slice.injEq, and_true] at hv
  obtain ⟨rfl, ⟨rfl, rfl, rfl⟩, rfl, rfl, rfl⟩ := hv
  exact ⟨_, l, ⟨_, _, _, rfl, h1⟩, h3, h5⟩
theorem RatP.den {w : World} {s : Bool} {p p' : Option Addr} {k c m e : Nat} {z : Int} {q L : Nat} (h : RatP w (.agg #[.bool s, .slice p k c, .slice p' m e]) z q L) : ∃ d, NatL w (.slice p' m e) d ∧ denV d = q ∧ d.length ≤ L := by
  obtain ⟨n, l, d, ⟨p1, k1, c1, q1, m1, e1, hv, h1, h2⟩, h3, h4, h5, h6⟩ := h
  simp only [Value.agg.injEq, Array.mk.injEq, List.cons.injEq, Value.bool.injEq, Value.slice.injEq, and_true] at hv
  obtain ⟨rfl, ⟨rfl, rfl, rfl⟩, rfl, rfl, rfl⟩ := hv
  exact ⟨d, h2, h4, h6⟩
theorem p_den (w : World) (va : Value) (z : Int) (q L : Nat) (h : RatP w va z q L) (hL : L ≤ 100000) : Calls Tryz.prog 50 #[va] w (Ret w fun r w' => IntV w' r (q : Int) (L + 1)) := by
  obtain ⟨n, l, d, h1, rfl, rfl, h3, h4⟩ := h
  exact rat_den w va n l d L h1 h4 (by omega)
theorem RatC.agg {w : World} {v : Value} {x : Rat} (h : RatC w v x) : ∃ s p k c p' m e, v = .agg #[.bool s, .slice p k c, .slice p' m e] := by
  obtain ⟨p, k, c, q, m, e, rfl, h1, h2⟩ := h
  exact ⟨_, _, _, _, _, _, _, rfl⟩

set_option maxRecDepth 100000 in
set_option maxHeartbeats 1600000 in
theorem clo_Add (w : World) (va vb vc vd : Value) (p q r s : Int) (L M : Nat) (ha : IntV w va p L) (hb : IntV w vb q L) (hc : IntV w vc r M) (hd : IntV w vd s M) (hL : L ≤ 100000) (hM : M ≤ 100000) :
    Calls Tryz.prog 71 #[va, vb, vc, vd] w (Ret w fun x w' => ∃ u v, x = .tuple #[u, v] ∧ IntV w' u (p * s + r * q) (2 * L + 2 * M + 4) ∧ IntV w' v (q * s) (2 * L + 2 * M + 4)) := by
  have HA := Lib.hid ha
  have HB := Lib.hid hb
  have HC := Lib.hid hc
  have HD := Lib.hid hd
  obtain ⟨s0, p0, k0, c0, rfl⟩ := ha.agg
  obtain ⟨s1, p1, k1, c1, rfl⟩ := hb.agg
  obtain ⟨s2, p2, k2, c2, rfl⟩ := hc.agg
  obtain ⟨s3, p3, k3, c3, rfl⟩ := hd.agg
  clear ha hb hc hd
  have B := box222222 w (.bool s0) (.slice p0 k0 c0) (.bool s1) (.slice p1 k1 c1) (.bool s2) (.slice p2 k2 c2) (.bool s3) (.slice p3 k3 c3) (.bool false) (.slice none 0 0) (.bool false) (.slice none 0 0) 25 25 25 25 25 25
  have Hb1 := Lib.hid (show ¬ w.heap.size + 1 < w.heap.size by omega)
  have Hb2 := Lib.hid (show ¬ w.heap.size + 1 + 1 < w.heap.size by omega)
  have Hb3 := Lib.hid (show ¬ w.heap.size + 1 + 1 + 1 < w.heap.size by omega)
  have Hb4 := Lib.hid (show ¬ w.heap.size + 1 + 1 + 1 + 1 < w.heap.size by omega)
  have Hb5 := Lib.hid (show ¬ w.heap.size + 1 + 1 + 1 + 1 + 1 < w.heap.size by omega)
  have Hd01 := Lib.hid (show w.heap.size ≠ w.heap.size + 1 by omega)
  have Hd02 := Lib.hid (show w.heap.size ≠ w.heap.size + 1 + 1 by omega)
  have Hd03 := Lib.hid (show w.heap.size ≠ w.heap.size + 1 + 1 + 1 by omega)
  have Hd04 := Lib.hid (show w.heap.size ≠ w.heap.size + 1 + 1 + 1 + 1 by omega)
  have Hd05 := Lib.hid (show w.heap.size ≠ w.heap.size + 1 + 1 + 1 + 1 + 1 by omega)
  have Hd12 := Lib.hid (show w.heap.size + 1 ≠ w.heap.size + 1 + 1 by omega)
  have Hd13 := Lib.hid (show w.heap.size + 1 ≠ w.heap.size + 1 + 1 + 1 by omega)
  have Hd14 := Lib.hid (show w.heap.size + 1 ≠ w.heap.size + 1 + 1 + 1 + 1 by omega)
  have Hd15 := Lib.hid (show w.heap.size + 1 ≠ w.heap.size + 1 + 1 + 1 + 1 + 1 by omega)
  have Hd23 := Lib.hid (show w.heap.size + 1 + 1 ≠ w.heap.size + 1 + 1 + 1 by omega)
  have Hd24 := Lib.hid (show w.heap.size + 1 + 1 ≠ w.heap.size + 1 + 1 + 1 + 1 by omega)
  have Hd25 := Lib.hid (show w.heap.size + 1 + 1 ≠ w.heap.size + 1 + 1 + 1 + 1 + 1 by omega)
  have Hd34 := Lib.hid (show w.heap.size + 1 + 1 + 1 ≠ w.heap.size + 1 + 1 + 1 + 1 by omega)
  have Hd35 := Lib.hid (show w.heap.size + 1 + 1 + 1 ≠ w.heap.size + 1 + 1 + 1 + 1 + 1 by omega)
  have Hd45 := Lib.hid (show w.heap.size + 1 + 1 + 1 + 1 ≠ w.heap.size + 1 + 1 + 1 + 1 + 1 by omega)
  go_enter Tryz.func71, Tryz.ntmps71
  go_wp2_with fail
  generalize (((((w.alloc _).alloc _).alloc _).alloc _).alloc _).alloc _ = W at B ⊢
  obtain ⟨G0, t0, t1, t2, t3, t4, t5⟩ := B
  generalize w.heap.size + 1 + 1 + 1 + 1 + 1 = b5 at t5 Hb5 Hd05 Hd15 Hd25 Hd35 Hd45 ⊢
  generalize w.heap.size + 1 + 1 + 1 + 1 = b4 at t4 Hb4 Hd04 Hd14 Hd24 Hd34 Hd45 ⊢
  generalize w.heap.size + 1 + 1 + 1 = b3 at t3 Hb3 Hd03 Hd13 Hd23 Hd34 Hd35 ⊢
  generalize w.heap.size + 1 + 1 = b2 at t2 Hb2 Hd02 Hd12 Hd23 Hd24 Hd25 ⊢
  generalize w.heap.size + 1 = b1 at t1 Hb1 Hd01 Hd12 Hd13 Hd14 Hd15 ⊢
  generalize hb0 : w.heap.size = b0 at t0 Hd01 Hd02 Hd03 Hd04 Hd05 ⊢
  have Hb0 := Lib.hid (show ¬ b0 < w.heap.size by omega)
  have G := Lib.hid G0
  have T0 := Lib.hid t0
  have T1 := Lib.hid t1
  have T2 := Lib.hid t2
  have T3 := Lib.hid t3
  have T4 := Lib.hid t4
  have T5 := Lib.hid t5
  clear hb0 G0 t0 t1 t2 t3 t4 t5
  have HA := Lib.hid (HA.out.grow G.out)
  have HB := Lib.hid (HB.out.grow G.out)
  have HC := Lib.hid (HC.out.grow G.out)
  have HD := Lib.hid (HD.out.grow G.out)
  refine wp_region_fast [(0, true), (1, true), (3, true), (4, true), (7, true), (8, true), (2, false), (5, false), (6, false), (9, false), (10, false), (11, false)] (by kernel_rfl) (by kernel_rfl) rfl (by kernel_rfl) (fun _ _ d _ _ h => by cases d <;> exact h) ?_
  have T0_0 := T0.out.c0
  have T0_1 := T0.out.c1
  have T1_0 := T1.out.c0
  have T1_1 := T1.out.c1
  have T2_0 := T2.out.c0
  have T2_1 := T2.out.c1
  have T3_0 := T3.out.c0
  have T3_1 := T3.out.c1
  have T4_0 := T4.out.c0
  have T4_1 := T4.out.c1
  have T5_0 := T5.out.c0
  have T5_1 := T5.out.c1
  have g0 : Gr W W.drew := (Gr.refl _).drew
  have G := Lib.hid (G.out.trans g0)
  have T0 := Lib.hid (T0.out.grow g0)
  have T1 := Lib.hid (T1.out.grow g0)
  have T2 := Lib.hid (T2.out.grow g0)
  have T3 := Lib.hid (T3.out.grow g0)
  have T4 := Lib.hid (T4.out.grow g0)
  have T5 := Lib.hid (T5.out.grow g0)
  have HA := Lib.hid (HA.out.grow g0)
  have HB := Lib.hid (HB.out.grow g0)
  have HC := Lib.hid (HC.out.grow g0)
  have HD := Lib.hid (HD.out.grow g0)
  repeat (refine wpE_readB (v := ?_) g0 rfl rfl (fun w' hg => ?_) (fun K hK => ?_); rotate_left; (go_simp; rfl); go_simp; refine hK _ _ ?_; clear hK K)
  refine wpE_fn (args := ?_) rfl rfl rfl rfl rfl rfl (by kernel_rfl) (by kernel_rfl) ?_ (fun K hK => ?_)
  rotate_left
  · go_simp; rfl
  refine (v_Mul _ _ _ p s _ L M HA.out HD.out rfl (by omega) (by omega)).mono ?_
  rintro _ w1 ⟨r1, rfl, g1, h1⟩
  refine ⟨_, rfl, g1, ?_⟩
  go_simp
  refine hK _ _ ?_
  clear hK K
  have G := Lib.hid (G.out.trans g1)
  have T0 := Lib.hid (T0.out.grow g1)
  have T1 := Lib.hid (T1.out.grow g1)
  have T2 := Lib.hid (T2.out.grow g1)
  have T3 := Lib.hid (T3.out.grow g1)
  have T4 := Lib.hid (T4.out.grow g1)
  have T5 := Lib.hid (T5.out.grow g1)
  have HA := Lib.hid (HA.out.grow g1)
  have HB := Lib.hid (HB.out.grow g1)
  have HC := Lib.hid (HC.out.grow g1)
  have HD := Lib.hid (HD.out.grow g1)
  replace g0 := g0.trans g1
  clear g1
  have H1 := Lib.hid h1
  clear h1
  refine wpE_fn (args := ?_) rfl rfl rfl rfl rfl rfl (by kernel_rfl) (by kernel_rfl) ?_ (fun K hK => ?_)
  rotate_left
  · go_simp; rfl
  refine (v_Mul _ _ _ r q _ M L HC.out HB.out rfl (by omega) (by omega)).mono ?_
  rintro _ w2 ⟨r2, rfl, g2, h2⟩
  refine ⟨_, rfl, g2, ?_⟩
  go_simp
  refine hK _ _ ?_
  clear hK K
  have G := Lib.hid (G.out.trans g2)
  have T0 := Lib.hid (T0.out.grow g2)
  have T1 := Lib.hid (T1.out.grow g2)
  have T2 := Lib.hid (T2.out.grow g2)
  have T3 := Lib.hid (T3.out.grow g2)
  have T4 := Lib.hid (T4.out.grow g2)
  have T5 := Lib.hid (T5.out.grow g2)
  have HA := Lib.hid (HA.out.grow g2)
  have HB := Lib.hid (HB.out.grow g2)
  have HC := Lib.hid (HC.out.grow g2)
  have HD := Lib.hid (HD.out.grow g2)
  have H1 := Lib.hid (H1.out.grow g2)
  replace g0 := g0.trans g2
  clear g2
  have H2 := Lib.hid h2
  clear h2
  refine wpE_fn (args := ?_) rfl rfl rfl rfl rfl rfl (by kernel_rfl) (by kernel_rfl) ?_ (fun K hK => ?_)
  rotate_left
  · go_simp; rfl
  refine (v_Add _ _ _ (p * s) (r * q) _ (L + M + 1) (M + L + 1) H1.out.2 H2.out.2 rfl (by omega) (by omega)).mono ?_
  rintro _ w3 ⟨r3, rfl, g3, h3⟩
  refine ⟨_, rfl, g3, ?_⟩
  go_simp
  refine hK _ _ ?_
  clear hK K
  have G := Lib.hid (G.out.trans g3)
  have T0 := Lib.hid (T0.out.grow g3)
  have T1 := Lib.hid (T1.out.grow g3)
  have T2 := Lib.hid (T2.out.grow g3)
  have T3 := Lib.hid (T3.out.grow g3)
  have T4 := Lib.hid (T4.out.grow g3)
  have T5 := Lib.hid (T5.out.grow g3)
  have HA := Lib.hid (HA.out.grow g3)
  have HB := Lib.hid (HB.out.grow g3)
  have HC := Lib.hid (HC.out.grow g3)
  have HD := Lib.hid (HD.out.grow g3)
  have H1 := Lib.hid (H1.out.grow g3)
  have H2 := Lib.hid (H2.out.grow g3)
  replace g0 := g0.trans g3
  clear g3
  have H3 := Lib.hid h3
  clear h3
  refine wpE_fn (args := ?_) rfl rfl rfl rfl rfl rfl (by kernel_rfl) (by kernel_rfl) ?_ (fun K hK => ?_)
  rotate_left
  · go_simp; rfl
  refine (v_Mul _ _ _ q s _ L M HB.out HD.out rfl (by omega) (by omega)).mono ?_
  rintro _ w4 ⟨r4, rfl, g4, h4⟩
  refine ⟨_, rfl, g4, ?_⟩
  go_simp
  refine hK _ _ ?_
  clear hK K
  have G := Lib.hid (G.out.trans g4)
  have T0 := Lib.hid (T0.out.grow g4)
  have T1 := Lib.hid (T1.out.grow g4)
  have T2 := Lib.hid (T2.out.grow g4)
  have T3 := Lib.hid (T3.out.grow g4)
  have T4 := Lib.hid (T4.out.grow g4)
  have T5 := Lib.hid (T5.out.grow g4)
  have HA := Lib.hid (HA.out.grow g4)
  have HB := Lib.hid (HB.out.grow g4)
  have HC := Lib.hid (HC.out.grow g4)
  have HD := Lib.hid (HD.out.grow g4)
  have H1 := Lib.hid (H1.out.grow g4)
  have H2 := Lib.hid (H2.out.grow g4)
  have H3 := Lib.hid (H3.out.grow g4)
  replace g0 := g0.trans g4
  clear g4
  have H4 := Lib.hid h4
  clear h4
  have HU := Lib.hid (show IntV _ _ (p * s + r * q) (2 * L + 2 * M + 4) from H3.out.2.mono (by omega))
  have HV := Lib.hid (show IntV _ _ (q * s) (2 * L + 2 * M + 4) from H4.out.2.mono (by omega))
  obtain ⟨s8, p8, k8, c8, rfl⟩ := HU.out.agg
  obtain ⟨s9, p9, k9, c9, rfl⟩ := HV.out.agg
  clear T4_0 T4_1
  have T4_0 := T4.out.load.1
  have T4_f0 := T4.out.f0 0
  have T4_1 := T4.out.load.2
  have T4_f1 := T4.out.f0 1
  refine wpE_do rfl rfl (fun K hK => ?_)
  go_simp
  refine ⟨fun h => Bool.noConfusion h, hK _ _ ?_⟩
  clear hK K
  clear T0_0 T0_1 T1_0 T1_1 T2_0 T2_1 T3_0 T3_1 T4_0 T4_1 T5_0 T5_1 T4_f0 T4_f1
  have hu := upd2 w4 b4 (.bool s8) (.slice p8 k8 c8)
  have HU := Lib.hid (HU.out.upd T4.out.noInt hu)
  have HV := Lib.hid (HV.out.upd T4.out.noInt hu)
  have T0 := Lib.hid (T0.out.upd hu Hd04.out)
  have T1 := Lib.hid (T1.out.upd hu Hd14.out)
  have T2 := Lib.hid (T2.out.upd hu Hd24.out)
  have T3 := Lib.hid (T3.out.upd hu Hd34.out)
  have T5 := Lib.hid (T5.out.upd hu Hd45.out.symm)
  have T4 := Lib.hid (T4.out.set (.bool s8) (.slice p8 k8 c8))
  have G := Lib.hid (G.out.two Hb4.out (.bool s8) (.slice p8 k8 c8))
  clear hu
  generalize (w4.setCell _ _).setCell _ _ = W1 at G T0 T1 T2 T3 T4 T5 HU HV ⊢
  have T5_0 := T5.out.load.1
  have T5_f0 := T5.out.f0 0
  have T5_1 := T5.out.load.2
  have T5_f1 := T5.out.f0 1
  refine wpE_do rfl rfl (fun K hK => ?_)
  go_simp
  refine ⟨fun h => Bool.noConfusion h, hK _ _ ?_⟩
  clear hK K
  clear T5_0 T5_f0 T5_1 T5_f1
  have hu := upd2 W1 b5 (.bool s9) (.slice p9 k9 c9)
  have HU := Lib.hid (HU.out.upd T5.out.noInt hu)
  have HV := Lib.hid (HV.out.upd T5.out.noInt hu)
  have T0 := Lib.hid (T0.out.upd hu Hd05.out)
  have T1 := Lib.hid (T1.out.upd hu Hd15.out)
  have T2 := Lib.hid (T2.out.upd hu Hd25.out)
  have T3 := Lib.hid (T3.out.upd hu Hd35.out)
  have T4 := Lib.hid (T4.out.upd hu Hd45.out)
  have T5 := Lib.hid (T5.out.set (.bool s9) (.slice p9 k9 c9))
  have G := Lib.hid (G.out.two Hb5.out (.bool s9) (.slice p9 k9 c9))
  clear hu
  generalize (W1.setCell _ _).setCell _ _ = W2 at G T0 T1 T2 T3 T4 T5 HU HV ⊢
  refine wpE_nil ?_
  clear g0
  go_wp2_with fail
  have T4_0 := T4.out.load.1
  have T4_1 := T4.out.load.2
  have T5_0 := T5.out.load.1
  have T5_1 := T5.out.load.2
  refine bodyPost_ret (by simp [results, Tryz.results71, go_sem, T4_0, T4_1, T5_0, T5_1]; rfl) rfl ?_
  exact ⟨_, rfl, G.out, _, _, rfl, HU.out, HV.out⟩
set_option maxRecDepth 100000 in
set_option maxHeartbeats 1600000 in
theorem clo_Mul (w : World) (va vb vc vd : Value) (p q r s : Int) (L M : Nat) (ha : IntV w va p L) (hb : IntV w vb q L) (hc : IntV w vc r M) (hd : IntV w vd s M) (hL : L ≤ 100000) (hM : M ≤ 100000) :
    Calls Tryz.prog 72 #[va, vb, vc, vd] w (Ret w fun x w' => ∃ u v, x = .tuple #[u, v] ∧ IntV w' u (p * r) (2 * L + 2 * M + 4) ∧ IntV w' v (q * s) (2 * L + 2 * M + 4)) := by
  have HA := Lib.hid ha
  have HB := Lib.hid hb
  have HC := Lib.hid hc
  have HD := Lib.hid hd
  obtain ⟨s0, p0, k0, c0, rfl⟩ := ha.agg
  obtain ⟨s1, p1, k1, c1, rfl⟩ := hb.agg
  obtain ⟨s2, p2, k2, c2, rfl⟩ := hc.agg
  obtain ⟨s3, p3, k3, c3, rfl⟩ := hd.agg
  clear ha hb hc hd
  have B := box222222 w (.bool s0) (.slice p0 k0 c0) (.bool s1) (.slice p1 k1 c1) (.bool s2) (.slice p2 k2 c2) (.bool s3) (.slice p3 k3 c3) (.bool false) (.slice none 0 0) (.bool false) (.slice none 0 0) 25 25 25 25 25 25
  have Hb1 := Lib.hid (show ¬ w.heap.size + 1 < w.heap.size by omega)
  have Hb2 := Lib.hid (show ¬ w.heap.size + 1 + 1 < w.heap.size by omega)
  have Hb3 := Lib.hid (show ¬ w.heap.size + 1 + 1 + 1 < w.heap.size by omega)
  have Hb4 := Lib.hid (show ¬ w.heap.size + 1 + 1 + 1 + 1 < w.heap.size by omega)
  have Hb5 := Lib.hid (show ¬ w.heap.size + 1 + 1 + 1 + 1 + 1 < w.heap.size by omega)
  have Hd01 := Lib.hid (show w.heap.size ≠ w.heap.size + 1 by omega)
  have Hd02 := Lib.hid (show w.heap.size ≠ w.heap.size + 1 + 1 by omega)
  have Hd03 := Lib.hid (show w.heap.size ≠ w.heap.size + 1 + 1 + 1 by omega)
  have Hd04 := Lib.hid (show w.heap.size ≠ w.heap.size + 1 + 1 + 1 + 1 by omega)
  have Hd05 := Lib.hid (show w.heap.size ≠ w.heap.size + 1 + 1 + 1 + 1 + 1 by omega)
  have Hd12 := Lib.hid (show w.heap.size + 1 ≠ w.heap.size + 1 + 1 by omega)
  have Hd13 := Lib.hid (show w.heap.size + 1 ≠ w.heap.size + 1 + 1 + 1 by omega)
  have Hd14 := Lib.hid (show w.heap.size + 1 ≠ w.heap.size + 1 + 1 + 1 + 1 by omega)
  have Hd15 := Lib.hid (show w.heap.size + 1 ≠ w.heap.size + 1 + 1 + 1 + 1 + 1 by omega)
  have Hd23 := Lib.hid (show w.heap.size + 1 + 1 ≠ w.heap.size + 1 + 1 + 1 by omega)
  have Hd24 := Lib.hid (show w.heap.size + 1 + 1 ≠ w.heap.size + 1 + 1 + 1 + 1 by omega)
  have Hd25 := Lib.hid (show w.heap.size + 1 + 1 ≠ w.heap.size + 1 + 1 + 1 + 1 + 1 by omega)
  have Hd34 := Lib.hid (show w.heap.size + 1 + 1 + 1 ≠ w.heap.size + 1 + 1 + 1 + 1 by omega)
  have Hd35 := Lib.hid (show w.heap.size + 1 + 1 + 1 ≠ w.heap.size + 1 + 1 + 1 + 1 + 1 by omega)
  have Hd45 := Lib.hid (show w.heap.size + 1 + 1 + 1 + 1 ≠ w.heap.size + 1 + 1 + 1 + 1 + 1 by omega)
  go_enter Tryz.func72, Tryz.ntmps72
  go_wp2_with fail
  generalize (((((w.alloc _).alloc _).alloc _).alloc _).alloc _).alloc _ = W at B ⊢
  obtain ⟨G0, t0, t1, t2, t3, t4, t5⟩ := B
  generalize w.heap.size + 1 + 1 + 1 + 1 + 1 = b5 at t5 Hb5 Hd05 Hd15 Hd25 Hd35 Hd45 ⊢
  generalize w.heap.size + 1 + 1 + 1 + 1 = b4 at t4 Hb4 Hd04 Hd14 Hd24 Hd34 Hd45 ⊢
  generalize w.heap.size + 1 + 1 + 1 = b3 at t3 Hb3 Hd03 Hd13 Hd23 Hd34 Hd35 ⊢
  generalize w.heap.size + 1 + 1 = b2 at t2 Hb2 Hd02 Hd12 Hd23 Hd24 Hd25 ⊢
  generalize w.heap.size + 1 = b1 at t1 Hb1 Hd01 Hd12 Hd13 Hd14 Hd15 ⊢
  generalize hb0 : w.heap.size = b0 at t0 Hd01 Hd02 Hd03 Hd04 Hd05 ⊢
  have Hb0 := Lib.hid (show ¬ b0 < w.heap.size by omega)
  have G := Lib.hid G0
  have T0 := Lib.hid t0
  have T1 := Lib.hid t1
  have T2 := Lib.hid t2
  have T3 := Lib.hid t3
  have T4 := Lib.hid t4
  have T5 := Lib.hid t5
  clear hb0 G0 t0 t1 t2 t3 t4 t5
  have HA := Lib.hid (HA.out.grow G.out)
  have HB := Lib.hid (HB.out.grow G.out)
  have HC := Lib.hid (HC.out.grow G.out)
  have HD := Lib.hid (HD.out.grow G.out)
  refine wp_region_fast [(0, true), (1, true), (3, true), (4, true), (2, false), (5, false), (6, false), (7, false)] (by kernel_rfl) (by kernel_rfl) rfl (by kernel_rfl) (fun _ _ d _ _ h => by cases d <;> exact h) ?_
  have T0_0 := T0.out.c0
  have T0_1 := T0.out.c1
  have T1_0 := T1.out.c0
  have T1_1 := T1.out.c1
  have T2_0 := T2.out.c0
  have T2_1 := T2.out.c1
  have T3_0 := T3.out.c0
  have T3_1 := T3.out.c1
  have T4_0 := T4.out.c0
  have T4_1 := T4.out.c1
  have T5_0 := T5.out.c0
  have T5_1 := T5.out.c1
  have g0 : Gr W W.drew := (Gr.refl _).drew
  have G := Lib.hid (G.out.trans g0)
  have T0 := Lib.hid (T0.out.grow g0)
  have T1 := Lib.hid (T1.out.grow g0)
  have T2 := Lib.hid (T2.out.grow g0)
  have T3 := Lib.hid (T3.out.grow g0)
  have T4 := Lib.hid (T4.out.grow g0)
  have T5 := Lib.hid (T5.out.grow g0)
  have HA := Lib.hid (HA.out.grow g0)
  have HB := Lib.hid (HB.out.grow g0)
  have HC := Lib.hid (HC.out.grow g0)
  have HD := Lib.hid (HD.out.grow g0)
  repeat (refine wpE_readB (v := ?_) g0 rfl rfl (fun w' hg => ?_) (fun K hK => ?_); rotate_left; (go_simp; rfl); go_simp; refine hK _ _ ?_; clear hK K)
  refine wpE_fn (args := ?_) rfl rfl rfl rfl rfl rfl (by kernel_rfl) (by kernel_rfl) ?_ (fun K hK => ?_)
  rotate_left
  · go_simp; rfl
  refine (v_Mul _ _ _ p r _ L M HA.out HC.out rfl (by omega) (by omega)).mono ?_
  rintro _ w1 ⟨r1, rfl, g1, h1⟩
  refine ⟨_, rfl, g1, ?_⟩
  go_simp
  refine hK _ _ ?_
  clear hK K
  have G := Lib.hid (G.out.trans g1)
  have T0 := Lib.hid (T0.out.grow g1)
  have T1 := Lib.hid (T1.out.grow g1)
  have T2 := Lib.hid (T2.out.grow g1)
  have T3 := Lib.hid (T3.out.grow g1)
  have T4 := Lib.hid (T4.out.grow g1)
  have T5 := Lib.hid (T5.out.grow g1)
  have HA := Lib.hid (HA.out.grow g1)
  have HB := Lib.hid (HB.out.grow g1)
  have HC := Lib.hid (HC.out.grow g1)
  have HD := Lib.hid (HD.out.grow g1)
  replace g0 := g0.trans g1
  clear g1
  have H1 := Lib.hid h1
  clear h1
  refine wpE_fn (args := ?_) rfl rfl rfl rfl rfl rfl (by kernel_rfl) (by kernel_rfl) ?_ (fun K hK => ?_)
  rotate_left
  · go_simp; rfl
  refine (v_Mul _ _ _ q s _ L M HB.out HD.out rfl (by omega) (by omega)).mono ?_
  rintro _ w2 ⟨r2, rfl, g2, h2⟩
  refine ⟨_, rfl, g2, ?_⟩
  go_simp
  refine hK _ _ ?_
  clear hK K
  have G := Lib.hid (G.out.trans g2)
  have T0 := Lib.hid (T0.out.grow g2)
  have T1 := Lib.hid (T1.out.grow g2)
  have T2 := Lib.hid (T2.out.grow g2)
  have T3 := Lib.hid (T3.out.grow g2)
  have T4 := Lib.hid (T4.out.grow g2)
  have T5 := Lib.hid (T5.out.grow g2)
  have HA := Lib.hid (HA.out.grow g2)
  have HB := Lib.hid (HB.out.grow g2)
  have HC := Lib.hid (HC.out.grow g2)
  have HD := Lib.hid (HD.out.grow g2)
  have H1 := Lib.hid (H1.out.grow g2)
  replace g0 := g0.trans g2
  clear g2
  have H2 := Lib.hid h2
  clear h2
  have HU := Lib.hid (show IntV _ _ (p * r) (2 * L + 2 * M + 4) from H1.out.2.mono (by omega))
  have HV := Lib.hid (show IntV _ _ (q * s) (2 * L + 2 * M + 4) from H2.out.2.mono (by omega))
  obtain ⟨s8, p8, k8, c8, rfl⟩ := HU.out.agg
  obtain ⟨s9, p9, k9, c9, rfl⟩ := HV.out.agg
  clear T4_0 T4_1
  have T4_0 := T4.out.load.1
  have T4_f0 := T4.out.f0 0
  have T4_1 := T4.out.load.2
  have T4_f1 := T4.out.f0 1
  refine wpE_do rfl rfl (fun K hK => ?_)
  go_simp
  refine ⟨fun h => Bool.noConfusion h, hK _ _ ?_⟩
  clear hK K
  clear T0_0 T0_1 T1_0 T1_1 T2_0 T2_1 T3_0 T3_1 T4_0 T4_1 T5_0 T5_1 T4_f0 T4_f1
  have hu := upd2 w2 b4 (.bool s8) (.slice p8 k8 c8)
  have HU := Lib.hid (HU.out.upd T4.out.noInt hu)
  have HV := Lib.hid (HV.out.upd T4.out.noInt hu)
  have T0 := Lib.hid (T0.out.upd hu Hd04.out)
  have T1 := Lib.hid (T1.out.upd hu Hd14.out)
  have T2 := Lib.hid (T2.out.upd hu Hd24.out)
  have T3 := Lib.hid (T3.out.upd hu Hd34.out)
  have T5 := Lib.hid (T5.out.upd hu Hd45.out.symm)
  have T4 := Lib.hid (T4.out.set (.bool s8) (.slice p8 k8 c8))
  have G := Lib.hid (G.out.two Hb4.out (.bool s8) (.slice p8 k8 c8))
  clear hu
  generalize (w2.setCell _ _).setCell _ _ = W1 at G T0 T1 T2 T3 T4 T5 HU HV ⊢
  have T5_0 := T5.out.load.1
  have T5_f0 := T5.out.f0 0
  have T5_1 := T5.out.load.2
  have T5_f1 := T5.out.f0 1
  refine wpE_do rfl rfl (fun K hK => ?_)
  go_simp
  refine ⟨fun h => Bool.noConfusion h, hK _ _ ?_⟩
  clear hK K
  clear T5_0 T5_f0 T5_1 T5_f1
  have hu := upd2 W1 b5 (.bool s9) (.slice p9 k9 c9)
  have HU := Lib.hid (HU.out.upd T5.out.noInt hu)
  have HV := Lib.hid (HV.out.upd T5.out.noInt hu)
  have T0 := Lib.hid (T0.out.upd hu Hd05.out)
  have T1 := Lib.hid (T1.out.upd hu Hd15.out)
  have T2 := Lib.hid (T2.out.upd hu Hd25.out)
  have T3 := Lib.hid (T3.out.upd hu Hd35.out)
  have T4 := Lib.hid (T4.out.upd hu Hd45.out)
  have T5 := Lib.hid (T5.out.set (.bool s9) (.slice p9 k9 c9))
  have G := Lib.hid (G.out.two Hb5.out (.bool s9) (.slice p9 k9 c9))
  clear hu
  generalize (W1.setCell _ _).setCell _ _ = W2 at G T0 T1 T2 T3 T4 T5 HU HV ⊢
  refine wpE_nil ?_
  clear g0
  go_wp2_with fail
  have T4_0 := T4.out.load.1
  have T4_1 := T4.out.load.2
  have T5_0 := T5.out.load.1
  have T5_1 := T5.out.load.2
  refine bodyPost_ret (by simp [results, Tryz.results72, go_sem, T4_0, T4_1, T5_0, T5_1]; rfl) rfl ?_
  exact ⟨_, rfl, G.out, _, _, rfl, HU.out, HV.out⟩
set_option maxRecDepth 100000 in
set_option maxHeartbeats 1600000 in
theorem clo_Div (w : World) (va vb vc vd : Value) (p q r s : Int) (L M : Nat) (ha : IntV w va p L) (hb : IntV w vb q L) (hc : IntV w vc r M) (hd : IntV w vd s M) (hL : L ≤ 100000) (hM : M ≤ 100000) :
    Calls Tryz.prog 75 #[va, vb, vc, vd] w (Ret w fun x w' => ∃ u v, x = .tuple #[u, v] ∧ IntV w' u (p * s) (2 * L + 2 * M + 4) ∧ IntV w' v (q * r) (2 * L + 2 * M + 4)) := by
  have HA := Lib.hid ha
  have HB := Lib.hid hb
  have HC := Lib.hid hc
  have HD := Lib.hid hd
  obtain ⟨s0, p0, k0, c0, rfl⟩ := ha.agg
  obtain ⟨s1, p1, k1, c1, rfl⟩ := hb.agg
  obtain ⟨s2, p2, k2, c2, rfl⟩ := hc.agg
  obtain ⟨s3, p3, k3, c3, rfl⟩ := hd.agg
  clear ha hb hc hd
  have B := box222222 w (.bool s0) (.slice p0 k0 c0) (.bool s1) (.slice p1 k1 c1) (.bool s2) (.slice p2 k2 c2) (.bool s3) (.slice p3 k3 c3) (.bool false) (.slice none 0 0) (.bool false) (.slice none 0 0) 25 25 25 25 25 25
  have Hb1 := Lib.hid (show ¬ w.heap.size + 1 < w.heap.size by omega)
  have Hb2 := Lib.hid (show ¬ w.heap.size + 1 + 1 < w.heap.size by omega)
  have Hb3 := Lib.hid (show ¬ w.heap.size + 1 + 1 + 1 < w.heap.size by omega)
  have Hb4 := Lib.hid (show ¬ w.heap.size + 1 + 1 + 1 + 1 < w.heap.size by omega)
  have Hb5 := Lib.hid (show ¬ w.heap.size + 1 + 1 + 1 + 1 + 1 < w.heap.size by omega)
  have Hd01 := Lib.hid (show w.heap.size ≠ w.heap.size + 1 by omega)
  have Hd02 := Lib.hid (show w.heap.size ≠ w.heap.size + 1 + 1 by omega)
  have Hd03 := Lib.hid (show w.heap.size ≠ w.heap.size + 1 + 1 + 1 by omega)
  have Hd04 := Lib.hid (show w.heap.size ≠ w.heap.size + 1 + 1 + 1 + 1 by omega)
  have Hd05 := Lib.hid (show w.heap.size ≠ w.heap.size + 1 + 1 + 1 + 1 + 1 by omega)
  have Hd12 := Lib.hid (show w.heap.size + 1 ≠ w.heap.size + 1 + 1 by omega)
  have Hd13 := Lib.hid (show w.heap.size + 1 ≠ w.heap.size + 1 + 1 + 1 by omega)
  have Hd14 := Lib.hid (show w.heap.size + 1 ≠ w.heap.size + 1 + 1 + 1 + 1 by omega)
  have Hd15 := Lib.hid (show w.heap.size + 1 ≠ w.heap.size + 1 + 1 + 1 + 1 + 1 by omega)
  have Hd23 := Lib.hid (show w.heap.size + 1 + 1 ≠ w.heap.size + 1 + 1 + 1 by omega)
  have Hd24 := Lib.hid (show w.heap.size + 1 + 1 ≠ w.heap.size + 1 + 1 + 1 + 1 by omega)
  have Hd25 := Lib.hid (show w.heap.size + 1 + 1 ≠ w.heap.size + 1 + 1 + 1 + 1 + 1 by omega)
  have Hd34 := Lib.hid (show w.heap.size + 1 + 1 + 1 ≠ w.heap.size + 1 + 1 + 1 + 1 by omega)
  have Hd35 := Lib.hid (show w.heap.size + 1 + 1 + 1 ≠ w.heap.size + 1 + 1 + 1 + 1 + 1 by omega)
  have Hd45 := Lib.hid (show w.heap.size + 1 + 1 + 1 + 1 ≠ w.heap.size + 1 + 1 + 1 + 1 + 1 by omega)
  go_enter Tryz.func75, Tryz.ntmps75
  go_wp2_with fail
  generalize (((((w.alloc _).alloc _).alloc _).alloc _).alloc _).alloc _ = W at B ⊢
  obtain ⟨G0, t0, t1, t2, t3, t4, t5⟩ := B
  generalize w.heap.size + 1 + 1 + 1 + 1 + 1 = b5 at t5 Hb5 Hd05 Hd15 Hd25 Hd35 Hd45 ⊢
  generalize w.heap.size + 1 + 1 + 1 + 1 = b4 at t4 Hb4 Hd04 Hd14 Hd24 Hd34 Hd45 ⊢
  generalize w.heap.size + 1 + 1 + 1 = b3 at t3 Hb3 Hd03 Hd13 Hd23 Hd34 Hd35 ⊢
  generalize w.heap.size + 1 + 1 = b2 at t2 Hb2 Hd02 Hd12 Hd23 Hd24 Hd25 ⊢
  generalize w.heap.size + 1 = b1 at t1 Hb1 Hd01 Hd12 Hd13 Hd14 Hd15 ⊢
  generalize hb0 : w.heap.size = b0 at t0 Hd01 Hd02 Hd03 Hd04 Hd05 ⊢
  have Hb0 := Lib.hid (show ¬ b0 < w.heap.size by omega)
  have G := Lib.hid G0
  have T0 := Lib.hid t0
  have T1 := Lib.hid t1
  have T2 := Lib.hid t2
  have T3 := Lib.hid t3
  have T4 := Lib.hid t4
  have T5 := Lib.hid t5
  clear hb0 G0 t0 t1 t2 t3 t4 t5
  have HA := Lib.hid (HA.out.grow G.out)
  have HB := Lib.hid (HB.out.grow G.out)
  have HC := Lib.hid (HC.out.grow G.out)
  have HD := Lib.hid (HD.out.grow G.out)
  refine wp_region_fast [(0, true), (1, true), (3, true), (4, true), (2, false), (5, false), (6, false), (7, false)] (by kernel_rfl) (by kernel_rfl) rfl (by kernel_rfl) (fun _ _ d _ _ h => by cases d <;> exact h) ?_
  have T0_0 := T0.out.c0
  have T0_1 := T0.out.c1
  have T1_0 := T1.out.c0
  have T1_1 := T1.out.c1
  have T2_0 := T2.out.c0
  have T2_1 := T2.out.c1
  have T3_0 := T3.out.c0
  have T3_1 := T3.out.c1
  have T4_0 := T4.out.c0
  have T4_1 := T4.out.c1
  have T5_0 := T5.out.c0
  have T5_1 := T5.out.c1
  have g0 : Gr W W.drew := (Gr.refl _).drew
  have G := Lib.hid (G.out.trans g0)
  have T0 := Lib.hid (T0.out.grow g0)
  have T1 := Lib.hid (T1.out.grow g0)
  have T2 := Lib.hid (T2.out.grow g0)
  have T3 := Lib.hid (T3.out.grow g0)
  have T4 := Lib.hid (T4.out.grow g0)
  have T5 := Lib.hid (T5.out.grow g0)
  have HA := Lib.hid (HA.out.grow g0)
  have HB := Lib.hid (HB.out.grow g0)
  have HC := Lib.hid (HC.out.grow g0)
  have HD := Lib.hid (HD.out.grow g0)
  repeat (refine wpE_readB (v := ?_) g0 rfl rfl (fun w' hg => ?_) (fun K hK => ?_); rotate_left; (go_simp; rfl); go_simp; refine hK _ _ ?_; clear hK K)
  refine wpE_fn (args := ?_) rfl rfl rfl rfl rfl rfl (by kernel_rfl) (by kernel_rfl) ?_ (fun K hK => ?_)
  rotate_left
  · go_simp; rfl
  refine (v_Mul _ _ _ p s _ L M HA.out HD.out rfl (by omega) (by omega)).mono ?_
  rintro _ w1 ⟨r1, rfl, g1, h1⟩
  refine ⟨_, rfl, g1, ?_⟩
  go_simp
  refine hK _ _ ?_
  clear hK K
  have G := Lib.hid (G.out.trans g1)
  have T0 := Lib.hid (T0.out.grow g1)
  have T1 := Lib.hid (T1.out.grow g1)
  have T2 := Lib.hid (T2.out.grow g1)
  have T3 := Lib.hid (T3.out.grow g1)
  have T4 := Lib.hid (T4.out.grow g1)
  have T5 := Lib.hid (T5.out.grow g1)
  have HA := Lib.hid (HA.out.grow g1)
  have HB := Lib.hid (HB.out.grow g1)
  have HC := Lib.hid (HC.out.grow g1)
  have HD := Lib.hid (HD.out.grow g1)
  replace g0 := g0.trans g1
  clear g1
  have H1 := Lib.hid h1
  clear h1
  refine wpE_fn (args := ?_) rfl rfl rfl rfl rfl rfl (by kernel_rfl) (by kernel_rfl) ?_ (fun K hK => ?_)
  rotate_left
  · go_simp; rfl
  refine (v_Mul _ _ _ q r _ L M HB.out HC.out rfl (by omega) (by omega)).mono ?_
  rintro _ w2 ⟨r2, rfl, g2, h2⟩
  refine ⟨_, rfl, g2, ?_⟩
  go_simp
  refine hK _ _ ?_
  clear hK K
  have G := Lib.hid (G.out.trans g2)
  have T0 := Lib.hid (T0.out.grow g2)
  have T1 := Lib.hid (T1.out.grow g2)
  have T2 := Lib.hid (T2.out.grow g2)
  have T3 := Lib.hid (T3.out.grow g2)
  have T4 := Lib.hid (T4.out.grow g2)
  have T5 := Lib.hid (T5.out.grow g2)
  have HA := Lib.hid (HA.out.grow g2)
  have HB := Lib.hid (HB.out.grow g2)
  have HC := Lib.hid (HC.out.grow g2)
  have HD := Lib.hid (HD.out.grow g2)
  have H1 := Lib.hid (H1.out.grow g2)
  replace g0 := g0.trans g2
  clear g2
  have H2 := Lib.hid h2
  clear h2
  have HU := Lib.hid (show IntV _ _ (p * s) (2 * L + 2 * M + 4) from H1.out.2.mono (by omega))
  have HV := Lib.hid (show IntV _ _ (q * r) (2 * L + 2 * M + 4) from H2.out.2.mono (by omega))
  obtain ⟨s8, p8, k8, c8, rfl⟩ := HU.out.agg
  obtain ⟨s9, p9, k9, c9, rfl⟩ := HV.out.agg
  clear T4_0 T4_1
  have T4_0 := T4.out.load.1
  have T4_f0 := T4.out.f0 0
  have T4_1 := T4.out.load.2
  have T4_f1 := T4.out.f0 1
  refine wpE_do rfl rfl (fun K hK => ?_)
  go_simp
  refine ⟨fun h => Bool.noConfusion h, hK _ _ ?_⟩
  clear hK K
  clear T0_0 T0_1 T1_0 T1_1 T2_0 T2_1 T3_0 T3_1 T4_0 T4_1 T5_0 T5_1 T4_f0 T4_f1
  have hu := upd2 w2 b4 (.bool s8) (.slice p8 k8 c8)
  have HU := Lib.hid (HU.out.upd T4.out.noInt hu)
  have HV := Lib.hid (HV.out.upd T4.out.noInt hu)
  have T0 := Lib.hid (T0.out.upd hu Hd04.out)
  have T1 := Lib.hid (T1.out.upd hu Hd14.out)
  have T2 := Lib.hid (T2.out.upd hu Hd24.out)
  have T3 := Lib.hid (T3.out.upd hu Hd34.out)
  have T5 := Lib.hid (T5.out.upd hu Hd45.out.symm)
  have T4 := Lib.hid (T4.out.set (.bool s8) (.slice p8 k8 c8))
  have G := Lib.hid (G.out.two Hb4.out (.bool s8) (.slice p8 k8 c8))
  clear hu
  generalize (w2.setCell _ _).setCell _ _ = W1 at G T0 T1 T2 T3 T4 T5 HU HV ⊢
  have T5_0 := T5.out.load.1
  have T5_f0 := T5.out.f0 0
  have T5_1 := T5.out.load.2
  have T5_f1 := T5.out.f0 1
  refine wpE_do rfl rfl (fun K hK => ?_)
  go_simp
  refine ⟨fun h => Bool.noConfusion h, hK _ _ ?_⟩
  clear hK K
  clear T5_0 T5_f0 T5_1 T5_f1
  have hu := upd2 W1 b5 (.bool s9) (.slice p9 k9 c9)
  have HU := Lib.hid (HU.out.upd T5.out.noInt hu)
  have HV := Lib.hid (HV.out.upd T5.out.noInt hu)
  have T0 := Lib.hid (T0.out.upd hu Hd05.out)
  have T1 := Lib.hid (T1.out.upd hu Hd15.out)
  have T2 := Lib.hid (T2.out.upd hu Hd25.out)
  have T3 := Lib.hid (T3.out.upd hu Hd35.out)
  have T4 := Lib.hid (T4.out.upd hu Hd45.out)
  have T5 := Lib.hid (T5.out.set (.bool s9) (.slice p9 k9 c9))
  have G := Lib.hid (G.out.two Hb5.out (.bool s9) (.slice p9 k9 c9))
  clear hu
  generalize (W1.setCell _ _).setCell _ _ = W2 at G T0 T1 T2 T3 T4 T5 HU HV ⊢
  refine wpE_nil ?_
  clear g0
  go_wp2_with fail
  have T4_0 := T4.out.load.1
  have T4_1 := T4.out.load.2
  have T5_0 := T5.out.load.1
  have T5_1 := T5.out.load.2
  refine bodyPost_ret (by simp [results, Tryz.results75, go_sem, T4_0, T4_1, T5_0, T5_1]; rfl) rfl ?_
  exact ⟨_, rfl, G.out, _, _, rfl, HU.out, HV.out⟩
end Go.Proofs.YtmcgkglmlfbijaaGreatDoor

/-
  exodusref03: Make, From, Frac, Div, Int64, Text, Few; exoduslaw03.frac.
-/
import Derived.Test.YtmcgkglmlfbijaaGreatDoorRatJ
namespace Go.Proofs.YtmcgkglmlfbijaaGreatDoor
open Go.RowKit Go.Lib
set_option linter.unusedVariables false
set_option linter.unusedSimpArgs false


set_option maxRecDepth 100000 in
set_option maxHeartbeats 3200000 in
theorem s_MakeOk (w : World) (va vb : Value) (x y : Int) (L M : Nat) (hx : IntV w va x L) (hy : IntV w vb y M) (h0 : y ≠ 0) (hL : L ≤ 100000) (hM : M ≤ 100000) :
    Calls Tryz.prog 37 #[va, vb] w (Ret w fun r w' => ∃ u, r = .tuple #[u, .int .i64 0] ∧ RatC w' u (Rat.divInt x y)) := by
  have HX := Lib.hid hx
  have HY := Lib.hid hy
  obtain ⟨s0, p0, k0, c0, rfl⟩ := hx.agg
  obtain ⟨s1, p1, k1, c1, rfl⟩ := hy.agg
  clear hx hy
  have B := box223 w (.bool s0) (.slice p0 k0 c0) (.bool s1) (.slice p1 k1 c1) (.bool false) (.slice none 0 0) (.slice none 0 0) 25 25 27
  have Hb1 := Lib.hid (show ¬ w.heap.size + 1 < w.heap.size by omega)
  have Hb2 := Lib.hid (show ¬ w.heap.size + 1 + 1 < w.heap.size by omega)
  have Hd01 := Lib.hid (show w.heap.size ≠ w.heap.size + 1 by omega)
  have Hd02 := Lib.hid (show w.heap.size ≠ w.heap.size + 1 + 1 by omega)
  have Hd12 := Lib.hid (show w.heap.size + 1 ≠ w.heap.size + 1 + 1 by omega)
  go_enter Tryz.func37, Tryz.ntmps37
  go_wp2_with fail
  generalize ((w.alloc _).alloc _).alloc _ = W at B ⊢
  obtain ⟨G0, t0, t1, t2⟩ := B
  generalize w.heap.size + 1 + 1 = b2 at t2 Hb2 Hd02 Hd12 ⊢
  generalize w.heap.size + 1 = b1 at t1 Hb1 Hd01 Hd12 ⊢
  generalize hb0 : w.heap.size = b0 at t0 Hd01 Hd02 ⊢
  have Hb0 := Lib.hid (show ¬ b0 < w.heap.size by omega)
  have G := Lib.hid G0
  have T0 := Lib.hid t0
  have T1 := Lib.hid t1
  have T2 := Lib.hid t2
  clear hb0 G0 t0 t1 t2
  have HX := Lib.hid (HX.out.grow G.out)
  have HY := Lib.hid (HY.out.grow G.out)
  refine (e_Fix W _ y M HY.out (by omega)).mono ?_
  rintro _ w1 ⟨r1, rfl, g1, h1⟩
  have G := Lib.hid (G.out.trans g1)
  have T0 := Lib.hid (T0.out.grow g1)
  have T1 := Lib.hid (T1.out.grow g1)
  have T2 := Lib.hid (T2.out.grow g1)
  have HX := Lib.hid (HX.out.grow g1)
  have HY := Lib.hid (HY.out.grow g1)
  clear g1
  have HF := Lib.hid h1.1
  have HFl := Lib.hid h1.2.len
  obtain ⟨p2, k2, c2, rfl⟩ := HF.out.agg
  obtain ⟨s2, hs2⟩ : ∃ s, decide (y < 0) = s := ⟨_, rfl⟩
  rw [hs2] at HF ⊢
  have HFM := Lib.hid (HF.out.mag.v HFl.out)
  have hk := HF.out.mag.len
  have hk0 : ¬ (k2 : Int) = 0 := by
    have : digs y.natAbs ≠ [] := fun e => by rw [digs_eq_nil] at e; omega
    have := List.length_pos_iff.2 this
    omega
  clear h1 hk
  have hne := Hd01.out
  have hne' := Hd01.out.symm
  cases s2
  · have T0_0 := T0.out.load.1
    have T0_f0 := T0.out.f0 0
    have T0_1 := T0.out.load.2
    have T0_f1 := T0.out.f0 1
    have T1_0 := T1.out.load.1
    have T1_f0 := T1.out.f0 0
    have T1_1 := T1.out.load.2
    have T1_f1 := T1.out.f0 1
    go_wp2_with fail
    clear T0_0 T0_f0 T0_1 T0_f1 T1_0 T1_f0 T1_1 T1_f1
    have hu := upd2 w1 b1 (.bool false) (.slice p2 k2 c2)
    have HX := Lib.hid (HX.out.upd T1.out.noInt hu)
    have HF := Lib.hid (HF.out.upd T1.out.noInt hu)
    have HFM := Lib.hid (HFM.out.upd T1.out.noInt hu)
    have T0 := Lib.hid (T0.out.upd hu Hd01.out)
    have T2 := Lib.hid (T2.out.upd hu Hd12.out.symm)
    have T1 := Lib.hid (T1.out.set (.bool false) (.slice p2 k2 c2))
    have G := Lib.hid (G.out.two Hb1.out (.bool false) (.slice p2 k2 c2))
    clear hu
    generalize (w1.setCell _ _).setCell _ _ = W1 at G T0 T1 T2 HX HF HFM ⊢
    have hn := of_decide_eq_false hs2
    have HR := Lib.hid (divInt_pos (a := x) (show 0 < y by omega))
    clear hs2 hn
    refine (d_build W1 _ _ x y.natAbs L M HX.out HFM.out (by omega) hL hM).mono ?_
    rintro _ w3 ⟨r3, rfl, g3, h3⟩
    have G := Lib.hid (G.out.trans g3)
    have T0 := Lib.hid (T0.out.grow g3)
    have T1 := Lib.hid (T1.out.grow g3)
    have T2 := Lib.hid (T2.out.grow g3)
    have HX := Lib.hid (HX.out.grow g3)
    have HF := Lib.hid (HF.out.grow g3)
    have HFM := Lib.hid (HFM.out.grow g3)
    clear g3
    have H3 := Lib.hid h3
    clear h3
    have HV := Lib.hid (show RatC w3 r3 (Rat.divInt x y) by rw [HR.out]; exact H3.out)
    obtain ⟨s8, p8, k8, c8, e8, m8, n8, rfl⟩ := HV.out.agg
    have T2_0 := T2.out.load.1
    have T2_f0 := T2.out.f0 0
    have T2_1 := T2.out.load.2.1
    have T2_f1 := T2.out.f0 1
    have T2_2 := T2.out.load.2.2
    have T2_f2 := T2.out.f0 2
    go_wp2_with fail
    clear T2_0 T2_f0 T2_1 T2_f1 T2_2 T2_f2
    have hu := upd3 w3 b2 (.bool s8) (.slice p8 k8 c8) (.slice e8 m8 n8)
    have HV := Lib.hid (HV.out.upd T2.out.noInt hu)
    have T0 := Lib.hid (T0.out.upd hu Hd02.out)
    have T1 := Lib.hid (T1.out.upd hu Hd12.out)
    have T2 := Lib.hid (T2.out.set (.bool s8) (.slice p8 k8 c8) (.slice e8 m8 n8))
    have G := Lib.hid (G.out.three Hb2.out (.bool s8) (.slice p8 k8 c8) (.slice e8 m8 n8))
    clear hu
    generalize ((w3.setCell _ _).setCell _ _).setCell _ _ = W9 at G T0 T1 T2 HV ⊢
    have T2_0 := T2.out.load.1
    have T2_1 := T2.out.load.2.1
    have T2_2 := T2.out.load.2.2
    refine bodyPost_ret (by simp [results, Tryz.results37, go_sem, T2_0, T2_1, T2_2]; rfl) rfl ?_
    exact ⟨_, rfl, G.out, _, rfl, HV.out⟩
  · have T0_0 := T0.out.load.1
    have T0_f0 := T0.out.f0 0
    have T0_1 := T0.out.load.2
    have T0_f1 := T0.out.f0 1
    have T1_0 := T1.out.load.1
    have T1_f0 := T1.out.f0 0
    have T1_1 := T1.out.load.2
    have T1_f1 := T1.out.f0 1
    go_wp2_with fail
    clear T0_0 T0_f0 T0_1 T0_f1 T1_0 T1_f0 T1_1 T1_f1
    have hu := upd2 w1 b1 (.bool true) (.slice p2 k2 c2)
    have HX := Lib.hid (HX.out.upd T1.out.noInt hu)
    have HF := Lib.hid (HF.out.upd T1.out.noInt hu)
    have HFM := Lib.hid (HFM.out.upd T1.out.noInt hu)
    have T0 := Lib.hid (T0.out.upd hu Hd01.out)
    have T2 := Lib.hid (T2.out.upd hu Hd12.out.symm)
    have T1 := Lib.hid (T1.out.set (.bool true) (.slice p2 k2 c2))
    have G := Lib.hid (G.out.two Hb1.out (.bool true) (.slice p2 k2 c2))
    clear hu
    generalize (w1.setCell _ _).setCell _ _ = W1 at G T0 T1 T2 HX HF HFM ⊢
    have hn := of_decide_eq_true hs2
    have HR := Lib.hid (divInt_neg (a := x) hn)
    clear hs2 hn
    refine (e_Neg W1 _ x _ L HX.out rfl (by omega)).mono ?_
    rintro _ w2 ⟨r2, rfl, g2, h2⟩
    have G := Lib.hid (G.out.trans g2)
    have T0 := Lib.hid (T0.out.grow g2)
    have T1 := Lib.hid (T1.out.grow g2)
    have T2 := Lib.hid (T2.out.grow g2)
    have HX := Lib.hid (HX.out.grow g2)
    have HF := Lib.hid (HF.out.grow g2)
    have HFM := Lib.hid (HFM.out.grow g2)
    clear g2
    have H2 := Lib.hid h2.2
    obtain ⟨s3, p3, k3, c3, rfl⟩ := H2.out.agg
    clear h2
    have T0_0 := T0.out.load.1
    have T0_f0 := T0.out.f0 0
    have T0_1 := T0.out.load.2
    have T0_f1 := T0.out.f0 1
    have T1_0 := T1.out.load.1
    have T1_f0 := T1.out.f0 0
    have T1_1 := T1.out.load.2
    have T1_f1 := T1.out.f0 1
    go_wp2_with fail
    clear T0_0 T0_f0 T0_1 T0_f1 T1_0 T1_f0 T1_1 T1_f1
    have hu := upd2 w2 b0 (.bool s3) (.slice p3 k3 c3)
    have H2 := Lib.hid (H2.out.upd T0.out.noInt hu)
    have HFM := Lib.hid (HFM.out.upd T0.out.noInt hu)
    have T1 := Lib.hid (T1.out.upd hu Hd01.out.symm)
    have T2 := Lib.hid (T2.out.upd hu Hd02.out.symm)
    have T0 := Lib.hid (T0.out.set (.bool s3) (.slice p3 k3 c3))
    have G := Lib.hid (G.out.two Hb0.out (.bool s3) (.slice p3 k3 c3))
    clear hu
    generalize (w2.setCell _ _).setCell _ _ = W2 at G T0 T1 T2 H2 HFM ⊢
    refine (d_build W2 _ _ (-x) y.natAbs L M H2.out HFM.out (by omega) hL hM).mono ?_
    rintro _ w3 ⟨r3, rfl, g3, h3⟩
    have G := Lib.hid (G.out.trans g3)
    have T0 := Lib.hid (T0.out.grow g3)
    have T1 := Lib.hid (T1.out.grow g3)
    have T2 := Lib.hid (T2.out.grow g3)
    have H2 := Lib.hid (H2.out.grow g3)
    have HFM := Lib.hid (HFM.out.grow g3)
    clear g3
    have H3 := Lib.hid h3
    clear h3
    have HV := Lib.hid (show RatC w3 r3 (Rat.divInt x y) by rw [HR.out]; exact H3.out)
    obtain ⟨s8, p8, k8, c8, e8, m8, n8, rfl⟩ := HV.out.agg
    have T2_0 := T2.out.load.1
    have T2_f0 := T2.out.f0 0
    have T2_1 := T2.out.load.2.1
    have T2_f1 := T2.out.f0 1
    have T2_2 := T2.out.load.2.2
    have T2_f2 := T2.out.f0 2
    go_wp2_with fail
    clear T2_0 T2_f0 T2_1 T2_f1 T2_2 T2_f2
    have hu := upd3 w3 b2 (.bool s8) (.slice p8 k8 c8) (.slice e8 m8 n8)
    have HV := Lib.hid (HV.out.upd T2.out.noInt hu)
    have T0 := Lib.hid (T0.out.upd hu Hd02.out)
    have T1 := Lib.hid (T1.out.upd hu Hd12.out)
    have T2 := Lib.hid (T2.out.set (.bool s8) (.slice p8 k8 c8) (.slice e8 m8 n8))
    have G := Lib.hid (G.out.three Hb2.out (.bool s8) (.slice p8 k8 c8) (.slice e8 m8 n8))
    clear hu
    generalize ((w3.setCell _ _).setCell _ _).setCell _ _ = W9 at G T0 T1 T2 HV ⊢
    have T2_0 := T2.out.load.1
    have T2_1 := T2.out.load.2.1
    have T2_2 := T2.out.load.2.2
    refine bodyPost_ret (by simp [results, Tryz.results37, go_sem, T2_0, T2_1, T2_2]; rfl) rfl ?_
    exact ⟨_, rfl, G.out, _, rfl, HV.out⟩

set_option maxRecDepth 100000 in
set_option maxHeartbeats 3200000 in
theorem s_MakeNo (w : World) (va vb : Value) (x : Int) (L M : Nat) (hx : IntV w va x L) (hy : IntV w vb 0 M) (hL : L ≤ 100000) (hM : M ≤ 100000) :
    Calls Tryz.prog 37 #[va, vb] w (Ret w fun r w' => r = .tuple #[.agg #[.bool false, .slice none 0 0, .slice none 0 0], .int .i64 2]) := by
  have HY := Lib.hid hy
  obtain ⟨s0, p0, k0, c0, rfl⟩ := hx.agg
  obtain ⟨s1, p1, k1, c1, rfl⟩ := hy.agg
  clear hx hy
  have B := box223 w (.bool s0) (.slice p0 k0 c0) (.bool s1) (.slice p1 k1 c1) (.bool false) (.slice none 0 0) (.slice none 0 0) 25 25 27
  have Hb1 := Lib.hid (show ¬ w.heap.size + 1 < w.heap.size by omega)
  have Hb2 := Lib.hid (show ¬ w.heap.size + 1 + 1 < w.heap.size by omega)
  have Hd01 := Lib.hid (show w.heap.size ≠ w.heap.size + 1 by omega)
  have Hd02 := Lib.hid (show w.heap.size ≠ w.heap.size + 1 + 1 by omega)
  have Hd12 := Lib.hid (show w.heap.size + 1 ≠ w.heap.size + 1 + 1 by omega)
  go_enter Tryz.func37, Tryz.ntmps37
  go_wp2_with fail
  generalize ((w.alloc _).alloc _).alloc _ = W at B ⊢
  obtain ⟨G0, t0, t1, t2⟩ := B
  generalize w.heap.size + 1 + 1 = b2 at t2 Hb2 Hd02 Hd12 ⊢
  generalize w.heap.size + 1 = b1 at t1 Hb1 Hd01 Hd12 ⊢
  generalize hb0 : w.heap.size = b0 at t0 Hd01 Hd02 ⊢
  have Hb0 := Lib.hid (show ¬ b0 < w.heap.size by omega)
  have G := Lib.hid G0
  have T0 := Lib.hid t0
  have T1 := Lib.hid t1
  have T2 := Lib.hid t2
  clear hb0 G0 t0 t1 t2
  have HY := Lib.hid (HY.out.grow G.out)
  refine (e_Fix W _ 0 M HY.out (by omega)).mono ?_
  rintro _ w1 ⟨r1, rfl, g1, h1⟩
  have G := Lib.hid (G.out.trans g1)
  have T0 := Lib.hid (T0.out.grow g1)
  have T1 := Lib.hid (T1.out.grow g1)
  have T2 := Lib.hid (T2.out.grow g1)
  have HY := Lib.hid (HY.out.grow g1)
  clear g1
  have HF := Lib.hid h1.1
  obtain ⟨p2, k2, c2, rfl⟩ := HF.out.agg
  have hk := HF.out.mag.len
  rw [show digs (Int.natAbs 0) = [] from digs_zero] at hk
  obtain rfl : k2 = 0 := by rw [← hk]; rfl
  generalize decide ((0 : Int) < 0) = s2 at HF ⊢
  clear h1 hk
  have T1_0 := T1.out.load.1
  have T1_f0 := T1.out.f0 0
  have T1_1 := T1.out.load.2
  have T1_f1 := T1.out.f0 1
  have T2_0 := T2.out.load.1
  have T2_f0 := T2.out.f0 0
  have T2_1 := T2.out.load.2.1
  have T2_f1 := T2.out.f0 1
  have T2_2 := T2.out.load.2.2
  have T2_f2 := T2.out.f0 2
  have hne := Hd12.out
  have hne' := Hd12.out.symm
  go_wp2_with fail
  clear T1_0 T1_f0 T1_1 T1_f1 T2_0 T2_f0 T2_1 T2_f1 T2_2 T2_f2
  have hu := upd2 w1 b1 (.bool s2) (.slice p2 0 c2)
  have T0 := Lib.hid (T0.out.upd hu Hd01.out)
  have T2 := Lib.hid (T2.out.upd hu Hd12.out.symm)
  have T1 := Lib.hid (T1.out.set (.bool s2) (.slice p2 0 c2))
  have G := Lib.hid (G.out.two Hb1.out (.bool s2) (.slice p2 0 c2))
  clear hu
  generalize (w1.setCell _ _).setCell _ _ = W1 at G T0 T1 T2 ⊢
  have hu := upd3 W1 b2 (.bool false) (.slice none 0 0) (.slice none 0 0)
  have T0 := Lib.hid (T0.out.upd hu Hd02.out)
  have T1 := Lib.hid (T1.out.upd hu Hd12.out)
  have T2 := Lib.hid (T2.out.set (.bool false) (.slice none 0 0) (.slice none 0 0))
  have G := Lib.hid (G.out.three Hb2.out (.bool false) (.slice none 0 0) (.slice none 0 0))
  clear hu
  generalize ((W1.setCell _ _).setCell _ _).setCell _ _ = W9 at G T0 T1 T2 ⊢
  have T2_0 := T2.out.load.1
  have T2_1 := T2.out.load.2.1
  have T2_2 := T2.out.load.2.2
  refine bodyPost_ret (by simp [results, Tryz.results37, go_sem, T2_0, T2_1, T2_2]; rfl) rfl ?_
  exact ⟨_, rfl, G.out, rfl⟩

set_option maxRecDepth 100000 in
set_option maxHeartbeats 1600000 in
theorem s_From (w : World) (z : Int) (h1 : -9223372036854775808 ≤ z) (h2 : z ≤ 9223372036854775807) :
    Calls Tryz.prog 42 #[.int .i64 z] w (Ret w fun r w' => RatC w' r (z : Rat)) := by
  have B := box3 w (.bool false) (.slice none 0 0) (.slice none 0 0) 27
  go_enter Tryz.func42, Tryz.ntmps42
  go_wp2_with fail
  generalize w.alloc _ = W at B ⊢
  obtain ⟨G0, t0⟩ := B
  generalize hb0 : w.heap.size = b0 at t0  ⊢
  have Hb0 := Lib.hid (show ¬ b0 < w.heap.size by omega)
  have G := Lib.hid G0
  have T0 := Lib.hid t0
  clear hb0 G0 t0
  refine (ref2_From W z h1 h2).mono ?_
  rintro _ w1 ⟨r1, rfl, g1, h1⟩
  have G := Lib.hid (G.out.trans g1)
  have T0 := Lib.hid (T0.out.grow g1)
  clear g1
  have H1 := Lib.hid h1
  clear h1
  obtain ⟨p2, k2, c2, rfl⟩ := H1.out.agg
  generalize decide (z < 0) = s2 at H1 ⊢
  have HV := Lib.hid (RatC.ofInt H1.out)
  have T0_0 := T0.out.load.1
  have T0_f0 := T0.out.f0 0
  have T0_1 := T0.out.load.2.1
  have T0_f1 := T0.out.f0 1
  have T0_2 := T0.out.load.2.2
  have T0_f2 := T0.out.f0 2
  go_wp2_with fail
  clear T0_0 T0_f0 T0_1 T0_f1 T0_2 T0_f2
  have hu := upd3 w1 b0 (.bool s2) (.slice p2 k2 c2) (.slice none 0 0)
  have HV := Lib.hid (HV.out.upd T0.out.noInt hu)
  have T0 := Lib.hid (T0.out.set (.bool s2) (.slice p2 k2 c2) (.slice none 0 0))
  have G := Lib.hid (G.out.three Hb0.out (.bool s2) (.slice p2 k2 c2) (.slice none 0 0))
  clear hu
  generalize ((w1.setCell _ _).setCell _ _).setCell _ _ = W1 at G T0 HV ⊢
  have T0_0 := T0.out.load.1
  have T0_1 := T0.out.load.2.1
  have T0_2 := T0.out.load.2.2
  refine bodyPost_ret (by simp [results, Tryz.results42, go_sem, T0_0, T0_1, T0_2]; rfl) rfl ?_
  exact ⟨_, rfl, G.out, HV.out⟩

set_option maxRecDepth 100000 in
set_option maxHeartbeats 1600000 in
theorem s_FracOk (w : World) (x y : Int) (x1 : -9223372036854775808 ≤ x) (x2 : x ≤ 9223372036854775807) (y1 : -9223372036854775808 ≤ y) (y2 : y ≤ 9223372036854775807) (h0 : y ≠ 0) :
    Calls Tryz.prog 35 #[.int .i64 x, .int .i64 y] w (Ret w fun r w' => ∃ u, r = .tuple #[u, .int .i64 0] ∧ RatC w' u (Rat.divInt x y)) := by
  have B := box3 w (.bool false) (.slice none 0 0) (.slice none 0 0) 27
  go_enter Tryz.func35, Tryz.ntmps35
  go_wp2_with fail
  generalize w.alloc _ = W at B ⊢
  obtain ⟨G0, t0⟩ := B
  generalize hb0 : w.heap.size = b0 at t0  ⊢
  have Hb0 := Lib.hid (show ¬ b0 < w.heap.size by omega)
  have G := Lib.hid G0
  have T0 := Lib.hid t0
  clear hb0 G0 t0
  refine (ref2_From W x x1 x2).mono ?_
  rintro _ w1 ⟨r1, rfl, g1, h1⟩
  have G := Lib.hid (G.out.trans g1)
  have T0 := Lib.hid (T0.out.grow g1)
  clear g1
  have H1 := Lib.hid h1
  clear h1
  go_wp2_with fail
  refine (ref2_From w1 y y1 y2).mono ?_
  rintro _ w2 ⟨r2, rfl, g2, h2⟩
  have G := Lib.hid (G.out.trans g2)
  have T0 := Lib.hid (T0.out.grow g2)
  have H1 := Lib.hid (H1.out.grow g2)
  clear g2
  have H2 := Lib.hid h2
  clear h2
  go_wp2_with fail
  refine (s_MakeOk w2 _ _ x y 2 2 (H1.out.v (i64_len x x1 x2)) (H2.out.v (i64_len y y1 y2)) h0 (by decide) (by decide)).mono ?_
  rintro _ w3 ⟨_, rfl, g3, u, rfl, hu⟩
  have G := Lib.hid (G.out.trans g3)
  have T0 := Lib.hid (T0.out.grow g3)
  have H1 := Lib.hid (H1.out.grow g3)
  have H2 := Lib.hid (H2.out.grow g3)
  clear g3
  have H3 := Lib.hid hu
  clear hu
  obtain ⟨s8, p8, k8, c8, e8, m8, n8, rfl⟩ := H3.out.agg
  have T0_0 := T0.out.load.1
  have T0_f0 := T0.out.f0 0
  have T0_1 := T0.out.load.2.1
  have T0_f1 := T0.out.f0 1
  have T0_2 := T0.out.load.2.2
  have T0_f2 := T0.out.f0 2
  go_wp2_with fail
  clear T0_0 T0_f0 T0_1 T0_f1 T0_2 T0_f2
  have hu := upd3 w3 b0 (.bool s8) (.slice p8 k8 c8) (.slice e8 m8 n8)
  have H3 := Lib.hid (H3.out.upd T0.out.noInt hu)
  have T0 := Lib.hid (T0.out.set (.bool s8) (.slice p8 k8 c8) (.slice e8 m8 n8))
  have G := Lib.hid (G.out.three Hb0.out (.bool s8) (.slice p8 k8 c8) (.slice e8 m8 n8))
  clear hu
  generalize ((w3.setCell _ _).setCell _ _).setCell _ _ = W9 at G T0 H3 ⊢
  have T0_0 := T0.out.load.1
  have T0_1 := T0.out.load.2.1
  have T0_2 := T0.out.load.2.2
  refine bodyPost_ret (by simp [results, Tryz.results35, go_sem, T0_0, T0_1, T0_2]; rfl) rfl ?_
  exact ⟨_, rfl, G.out, _, rfl, H3.out⟩
set_option maxRecDepth 100000 in
set_option maxHeartbeats 1600000 in
theorem s_FracNo (w : World) (x : Int) (x1 : -9223372036854775808 ≤ x) (x2 : x ≤ 9223372036854775807) :
    Calls Tryz.prog 35 #[.int .i64 x, .int .i64 0] w (Ret w fun r w' => r = .tuple #[.agg #[.bool false, .slice none 0 0, .slice none 0 0], .int .i64 2]) := by
  have B := box3 w (.bool false) (.slice none 0 0) (.slice none 0 0) 27
  go_enter Tryz.func35, Tryz.ntmps35
  go_wp2_with fail
  generalize w.alloc _ = W at B ⊢
  obtain ⟨G0, t0⟩ := B
  generalize hb0 : w.heap.size = b0 at t0  ⊢
  have Hb0 := Lib.hid (show ¬ b0 < w.heap.size by omega)
  have G := Lib.hid G0
  have T0 := Lib.hid t0
  clear hb0 G0 t0
  refine (ref2_From W x x1 x2).mono ?_
  rintro _ w1 ⟨r1, rfl, g1, h1⟩
  have G := Lib.hid (G.out.trans g1)
  have T0 := Lib.hid (T0.out.grow g1)
  clear g1
  have H1 := Lib.hid h1
  clear h1
  go_wp2_with fail
  refine (ref2_From w1 0 (by decide) (by decide)).mono ?_
  rintro _ w2 ⟨r2, rfl, g2, h2⟩
  have G := Lib.hid (G.out.trans g2)
  have T0 := Lib.hid (T0.out.grow g2)
  have H1 := Lib.hid (H1.out.grow g2)
  clear g2
  have H2 := Lib.hid h2
  clear h2
  go_wp2_with fail
  refine (s_MakeNo w2 _ _ x 2 2 (H1.out.v (i64_len x x1 x2)) (H2.out.v (by decide +kernel)) (by decide) (by decide)).mono ?_
  rintro _ w3 ⟨_, rfl, g3, rfl⟩
  have G := Lib.hid (G.out.trans g3)
  have T0 := Lib.hid (T0.out.grow g3)
  have H1 := Lib.hid (H1.out.grow g3)
  have H2 := Lib.hid (H2.out.grow g3)
  clear g3
  have T0_0 := T0.out.load.1
  have T0_f0 := T0.out.f0 0
  have T0_1 := T0.out.load.2.1
  have T0_f1 := T0.out.f0 1
  have T0_2 := T0.out.load.2.2
  have T0_f2 := T0.out.f0 2
  go_wp2_with fail
  clear T0_0 T0_f0 T0_1 T0_f1 T0_2 T0_f2
  have hu := upd3 w3 b0 (.bool false) (.slice none 0 0) (.slice none 0 0)
  have H1 := Lib.hid (H1.out.upd T0.out.noInt hu)
  have H2 := Lib.hid (H2.out.upd T0.out.noInt hu)
  have T0 := Lib.hid (T0.out.set (.bool false) (.slice none 0 0) (.slice none 0 0))
  have G := Lib.hid (G.out.three Hb0.out (.bool false) (.slice none 0 0) (.slice none 0 0))
  clear hu
  generalize ((w3.setCell _ _).setCell _ _).setCell _ _ = W9 at G T0 H1 H2 ⊢
  have T0_0 := T0.out.load.1
  have T0_1 := T0.out.load.2.1
  have T0_2 := T0.out.load.2.2
  refine bodyPost_ret (by simp [results, Tryz.results35, go_sem, T0_0, T0_1, T0_2]; rfl) rfl ?_
  exact ⟨_, rfl, G.out, rfl⟩

set_option maxRecDepth 100000 in
set_option maxHeartbeats 1600000 in
theorem law_frac (w : World) (x y : Int) (x1 : -9223372036854775808 ≤ x) (x2 : x ≤ 9223372036854775807) (y1 : -9223372036854775808 ≤ y) (y2 : y ≤ 9223372036854775807) (h0 : y ≠ 0) :
    Calls Tryz.prog 48 #[.int .i64 x, .int .i64 y] w (Ret w fun r w' => RatC w' r (Rat.divInt x y)) := by
  have B := box3 w (.bool false) (.slice none 0 0) (.slice none 0 0) 27
  go_enter Tryz.func48, Tryz.ntmps48
  go_wp2_with fail
  generalize w.alloc _ = W at B ⊢
  obtain ⟨G0, t0⟩ := B
  generalize hb0 : w.heap.size = b0 at t0  ⊢
  have Hb0 := Lib.hid (show ¬ b0 < w.heap.size by omega)
  have G := Lib.hid G0
  have T0 := Lib.hid t0
  clear hb0 G0 t0
  refine (s_FracOk W x y x1 x2 y1 y2 h0).mono ?_
  rintro _ w3 ⟨_, rfl, g3, u, rfl, hu⟩
  have G := Lib.hid (G.out.trans g3)
  have T0 := Lib.hid (T0.out.grow g3)
  clear g3
  have H3 := Lib.hid hu
  clear hu
  obtain ⟨s8, p8, k8, c8, e8, m8, n8, rfl⟩ := H3.out.agg
  have B := box3 w3 (.bool s8) (.slice p8 k8 c8) (.slice e8 m8 n8) 27
  have f0 := (T0.out.grow B.1).f0 0
  have f1 := (T0.out.grow B.1).f0 1
  have f2 := (T0.out.grow B.1).f0 2
  have GB := Lib.hid B.1
  have T0_0 := (T0.out.grow B.1).load.1
  have T0_1 := (T0.out.grow B.1).load.2.1
  have T0_2 := (T0.out.grow B.1).load.2.2
  have T1 := Lib.hid B.2
  have T1_0 := B.2.load.1
  have T1_1 := B.2.load.2.1
  have T1_2 := B.2.load.2.2
  clear B
  have hne : b0 ≠ w3.heap.size := by have := T0.out.lt; omega
  go_wp2_with fail
  clear f0 f1 f2 hne
  clear T0_0 T0_1 T0_2 T1_0 T1_1 T1_2
  generalize w3.heap.size = b_T1 at T1 ⊢
  generalize w3.alloc _ = W3 at GB T1 ⊢
  have G := Lib.hid (G.out.trans GB.out)
  have T0 := Lib.hid (T0.out.grow GB.out)
  have H3 := Lib.hid (H3.out.grow GB.out)
  have hu := upd3 W3 b0 (.bool s8) (.slice p8 k8 c8) (.slice e8 m8 n8)
  have H3 := Lib.hid (H3.out.upd T0.out.noInt hu)
  have T0 := Lib.hid (T0.out.set (.bool s8) (.slice p8 k8 c8) (.slice e8 m8 n8))
  have G := Lib.hid (G.out.three Hb0.out (.bool s8) (.slice p8 k8 c8) (.slice e8 m8 n8))
  clear hu
  generalize ((W3.setCell _ _).setCell _ _).setCell _ _ = W9 at G T0 H3 ⊢
  have T0_0 := T0.out.load.1
  have T0_1 := T0.out.load.2.1
  have T0_2 := T0.out.load.2.2
  refine bodyPost_ret (by simp [results, Tryz.results48, go_sem, T0_0, T0_1, T0_2]; rfl) rfl ?_
  exact ⟨_, rfl, G.out, H3.out⟩

set_option maxRecDepth 100000 in
set_option maxHeartbeats 3200000 in
theorem s_DivOk (w : World) (va vb : Value) (x y s : Rat) (L M : Nat) (ha : RatV w va x L) (hb : RatV w vb y M) (hs : x / y = s) (h0 : y ≠ 0) (hL : L ≤ 10000) (hM : M ≤ 10000) :
    Calls Tryz.prog 30 #[va, vb] w (Ret w fun r w' => ∃ u, r = .tuple #[u, .int .i64 0] ∧ RatC w' u s) := by
  obtain ⟨z, q, ha2, rfl⟩ := ha.p
  obtain ⟨z', q', hb2, rfl⟩ := hb.p
  have HA := Lib.hid ha2
  have HB := Lib.hid hb2
  obtain ⟨s0, p0, k0, c0, e0, m0, n0, rfl⟩ := ha2.agg
  obtain ⟨s1, p1, k1, c1, e1, m1, n1, rfl⟩ := hb2.agg
  have HN := Lib.hid ha2.num
  have HM := Lib.hid hb2.num
  have hz' : z' ≠ 0 := fun e => h0 ((Rat.mkRat_eq_zero hb2.ne).2 e)
  have HD := Lib.hid (show z' * (q : Int) ≠ 0 from Int.mul_ne_zero hz' (by have := ha2.ne; omega))
  have Hd := Lib.hid ha2.dlen
  have Hd' := Lib.hid hb2.dlen
  have HS := Lib.hid (show Rat.divInt (z * (q' : Int)) (z' * (q : Int)) = s by rw [← hs, div_mk _ _ ha2.ne hb2.ne, Int.mul_comm (q : Int)])
  clear ha ha2 hb hb2 hz' h0 hs
  have B := box333 w (.bool s0) (.slice p0 k0 c0) (.slice e0 m0 n0) (.bool s1) (.slice p1 k1 c1) (.slice e1 m1 n1) (.bool false) (.slice none 0 0) (.slice none 0 0) 27 27 27
  have Hb1 := Lib.hid (show ¬ w.heap.size + 1 < w.heap.size by omega)
  have Hb2 := Lib.hid (show ¬ w.heap.size + 1 + 1 < w.heap.size by omega)
  have Hd01 := Lib.hid (show w.heap.size ≠ w.heap.size + 1 by omega)
  have Hd02 := Lib.hid (show w.heap.size ≠ w.heap.size + 1 + 1 by omega)
  have Hd12 := Lib.hid (show w.heap.size + 1 ≠ w.heap.size + 1 + 1 by omega)
  go_enter Tryz.func30, Tryz.ntmps30
  go_wp2_with fail
  generalize ((w.alloc _).alloc _).alloc _ = W at B ⊢
  obtain ⟨G0, t0, t1, t2⟩ := B
  generalize w.heap.size + 1 + 1 = b2 at t2 Hb2 Hd02 Hd12 ⊢
  generalize w.heap.size + 1 = b1 at t1 Hb1 Hd01 Hd12 ⊢
  generalize hb0 : w.heap.size = b0 at t0 Hd01 Hd02 ⊢
  have Hb0 := Lib.hid (show ¬ b0 < w.heap.size by omega)
  have G := Lib.hid G0
  have T0 := Lib.hid t0
  have T1 := Lib.hid t1
  have T2 := Lib.hid t2
  clear hb0 G0 t0 t1 t2
  have HA := Lib.hid (HA.out.grow G.out)
  have HB := Lib.hid (HB.out.grow G.out)
  have HN := Lib.hid (HN.out.grow G.out)
  have HM := Lib.hid (HM.out.grow G.out)
  refine wp_region_fast [(0, true), (1, true), (2, true), (6, true), (7, true), (8, true), (3, false), (4, true), (5, false), (9, false), (10, true), (11, false), (12, false), (13, true), (14, true), (15, false), (16, true)] (by kernel_rfl) (by kernel_rfl) rfl (by kernel_rfl) (fun _ _ d _ _ h => by cases d <;> exact h) ?_
  have T0_0 := T0.out.c0
  have T0_1 := T0.out.c1
  have T0_2 := T0.out.c2
  have T1_0 := T1.out.c0
  have T1_1 := T1.out.c1
  have T1_2 := T1.out.c2
  have T2_0 := T2.out.c0
  have T2_1 := T2.out.c1
  have T2_2 := T2.out.c2
  have g0 : Gr W W.drew := (Gr.refl _).drew
  have G := Lib.hid (G.out.trans g0)
  have T0 := Lib.hid (T0.out.grow g0)
  have T1 := Lib.hid (T1.out.grow g0)
  have T2 := Lib.hid (T2.out.grow g0)
  have HA := Lib.hid (HA.out.grow g0)
  have HB := Lib.hid (HB.out.grow g0)
  have HN := Lib.hid (HN.out.grow g0)
  have HM := Lib.hid (HM.out.grow g0)
  repeat (refine wpE_readB (v := ?_) g0 rfl rfl (fun w' hg => ?_) (fun K hK => ?_); rotate_left; (go_simp; rfl); go_simp; refine hK _ _ ?_; clear hK K)
  refine wpE_fn (args := ?_) rfl rfl rfl rfl rfl rfl (by kernel_rfl) (by kernel_rfl) ?_ (fun K hK => ?_)
  rotate_left
  · go_simp; rfl
  refine (d_den _ _ z' q' M HB.out (by omega)).mono ?_
  rintro _ w1 ⟨r1, rfl, g1, h1⟩
  refine ⟨_, rfl, g1, ?_⟩
  go_simp
  refine hK _ _ ?_
  clear hK K
  have G := Lib.hid (G.out.trans g1)
  have T0 := Lib.hid (T0.out.grow g1)
  have T1 := Lib.hid (T1.out.grow g1)
  have T2 := Lib.hid (T2.out.grow g1)
  have HA := Lib.hid (HA.out.grow g1)
  have HB := Lib.hid (HB.out.grow g1)
  have HN := Lib.hid (HN.out.grow g1)
  have HM := Lib.hid (HM.out.grow g1)
  replace g0 := g0.trans g1
  clear g1
  have H1 := Lib.hid h1
  clear h1
  obtain ⟨p2, k2, c2, rfl, -⟩ := H1.out.slice
  repeat (refine wpE_readB (v := ?_) g0 rfl rfl (fun w' hg => ?_) (fun K hK => ?_); rotate_left; (go_simp; rfl); go_simp; refine hK _ _ ?_; clear hK K)
  refine wpE_fn (args := ?_) rfl rfl rfl rfl rfl rfl (by kernel_rfl) (by kernel_rfl) ?_ (fun K hK => ?_)
  rotate_left
  · go_simp; rfl
  refine (e_Mul _ _ _ z q' _ L (M + 1) HN.out (H1.out.iv Hd'.out) rfl (by omega) (by omega)).mono ?_
  rintro _ w2 ⟨r2, rfl, g2, h2⟩
  refine ⟨_, rfl, g2, ?_⟩
  go_simp
  refine hK _ _ ?_
  clear hK K
  have G := Lib.hid (G.out.trans g2)
  have T0 := Lib.hid (T0.out.grow g2)
  have T1 := Lib.hid (T1.out.grow g2)
  have T2 := Lib.hid (T2.out.grow g2)
  have HA := Lib.hid (HA.out.grow g2)
  have HB := Lib.hid (HB.out.grow g2)
  have HN := Lib.hid (HN.out.grow g2)
  have HM := Lib.hid (HM.out.grow g2)
  have H1 := Lib.hid (H1.out.grow g2)
  replace g0 := g0.trans g2
  clear g2
  have H2 := Lib.hid h2
  clear h2
  refine wpE_fn (args := ?_) rfl rfl rfl rfl rfl rfl (by kernel_rfl) (by kernel_rfl) ?_ (fun K hK => ?_)
  rotate_left
  · go_simp; rfl
  refine (d_den _ _ z q L HA.out (by omega)).mono ?_
  rintro _ w3 ⟨r3, rfl, g3, h3⟩
  refine ⟨_, rfl, g3, ?_⟩
  go_simp
  refine hK _ _ ?_
  clear hK K
  have G := Lib.hid (G.out.trans g3)
  have T0 := Lib.hid (T0.out.grow g3)
  have T1 := Lib.hid (T1.out.grow g3)
  have T2 := Lib.hid (T2.out.grow g3)
  have HA := Lib.hid (HA.out.grow g3)
  have HB := Lib.hid (HB.out.grow g3)
  have HN := Lib.hid (HN.out.grow g3)
  have HM := Lib.hid (HM.out.grow g3)
  have H1 := Lib.hid (H1.out.grow g3)
  have H2 := Lib.hid (H2.out.grow g3)
  replace g0 := g0.trans g3
  clear g3
  have H3 := Lib.hid h3
  clear h3
  obtain ⟨p3, k3, c3, rfl, -⟩ := H3.out.slice
  repeat (refine wpE_readB (v := ?_) g0 rfl rfl (fun w' hg => ?_) (fun K hK => ?_); rotate_left; (go_simp; rfl); go_simp; refine hK _ _ ?_; clear hK K)
  refine wpE_fn (args := ?_) rfl rfl rfl rfl rfl rfl (by kernel_rfl) (by kernel_rfl) ?_ (fun K hK => ?_)
  rotate_left
  · go_simp; rfl
  refine (e_Mul _ _ _ z' q _ M (L + 1) HM.out (H3.out.iv Hd.out) rfl (by omega) (by omega)).mono ?_
  rintro _ w4 ⟨r4, rfl, g4, h4⟩
  refine ⟨_, rfl, g4, ?_⟩
  go_simp
  refine hK _ _ ?_
  clear hK K
  have G := Lib.hid (G.out.trans g4)
  have T0 := Lib.hid (T0.out.grow g4)
  have T1 := Lib.hid (T1.out.grow g4)
  have T2 := Lib.hid (T2.out.grow g4)
  have HA := Lib.hid (HA.out.grow g4)
  have HB := Lib.hid (HB.out.grow g4)
  have HN := Lib.hid (HN.out.grow g4)
  have HM := Lib.hid (HM.out.grow g4)
  have H1 := Lib.hid (H1.out.grow g4)
  have H2 := Lib.hid (H2.out.grow g4)
  have H3 := Lib.hid (H3.out.grow g4)
  replace g0 := g0.trans g4
  clear g4
  have H4 := Lib.hid h4
  clear h4
  refine wpE_fn (args := ?_) rfl rfl rfl rfl rfl rfl (by kernel_rfl) (by kernel_rfl) ?_ (fun K hK => ?_)
  rotate_left
  · go_simp; rfl
  refine (s_MakeOk _ _ _ (z * (q' : Int)) (z' * (q : Int)) (L + (M + 1) + 1) (M + (L + 1) + 1) H2.out.2 H4.out.2 HD.out (by omega) (by omega)).mono ?_
  rintro _ w5 ⟨_, rfl, g5, u, rfl, hu⟩
  refine ⟨_, rfl, g5, ?_⟩
  go_simp
  refine hK _ _ ?_
  clear hK K
  have G := Lib.hid (G.out.trans g5)
  have T0 := Lib.hid (T0.out.grow g5)
  have T1 := Lib.hid (T1.out.grow g5)
  have T2 := Lib.hid (T2.out.grow g5)
  have HA := Lib.hid (HA.out.grow g5)
  have HB := Lib.hid (HB.out.grow g5)
  have HN := Lib.hid (HN.out.grow g5)
  have HM := Lib.hid (HM.out.grow g5)
  have H1 := Lib.hid (H1.out.grow g5)
  have H2 := Lib.hid (H2.out.grow g5)
  have H3 := Lib.hid (H3.out.grow g5)
  have H4 := Lib.hid (H4.out.grow g5)
  replace g0 := g0.trans g5
  clear g5
  rw [HS.out] at hu
  have H5 := Lib.hid hu
  clear hu
  obtain ⟨s8, p8, k8, c8, e8, m8, n8, rfl⟩ := H5.out.agg
  repeat (refine wpE_readB (v := ?_) g0 rfl rfl (fun w' hg => ?_) (fun K hK => ?_); rotate_left; (go_simp; rfl); go_simp; refine hK _ _ ?_; clear hK K)
  clear T2_0 T2_1 T2_2
  have T2_0 := T2.out.load.1
  have T2_f0 := T2.out.f0 0
  have T2_1 := T2.out.load.2.1
  have T2_f1 := T2.out.f0 1
  have T2_2 := T2.out.load.2.2
  have T2_f2 := T2.out.f0 2
  refine wpE_do rfl rfl (fun K hK => ?_)
  go_simp
  refine ⟨fun h => Bool.noConfusion h, hK _ _ ?_⟩
  clear hK K
  clear T0_0 T0_1 T0_2 T1_0 T1_1 T1_2 T2_0 T2_1 T2_2 T2_f0 T2_f1 T2_f2
  have hu := upd3 w5 b2 (.bool s8) (.slice p8 k8 c8) (.slice e8 m8 n8)
  have H5 := Lib.hid (H5.out.upd T2.out.noInt hu)
  have T0 := Lib.hid (T0.out.upd hu Hd02.out)
  have T1 := Lib.hid (T1.out.upd hu Hd12.out)
  have T2 := Lib.hid (T2.out.set (.bool s8) (.slice p8 k8 c8) (.slice e8 m8 n8))
  have G := Lib.hid (G.out.three Hb2.out (.bool s8) (.slice p8 k8 c8) (.slice e8 m8 n8))
  clear hu
  generalize ((w5.setCell _ _).setCell _ _).setCell _ _ = W1 at G T0 T1 T2 H5 ⊢
  have g1 := Gr.refl W1
  repeat (refine wpE_readB (v := ?_) g1 rfl rfl (fun w' hg => ?_) (fun K hK => ?_); rotate_left; (go_simp; rfl); go_simp; refine hK _ _ ?_; clear hK K)
  refine wpE_nil ?_
  clear g0
  go_wp2_with fail
  have T2_0 := T2.out.load.1
  have T2_1 := T2.out.load.2.1
  have T2_2 := T2.out.load.2.2
  refine bodyPost_ret (by simp [results, Tryz.results30, go_sem, T2_0, T2_1, T2_2]; rfl) rfl ?_
  exact ⟨_, rfl, G.out, _, rfl, H5.out⟩
set_option maxRecDepth 100000 in
set_option maxHeartbeats 3200000 in
theorem s_DivNo (w : World) (va vb : Value) (x : Rat) (L M : Nat) (ha : RatV w va x L) (hb : RatV w vb 0 M) (hL : L ≤ 10000) (hM : M ≤ 10000) :
    Calls Tryz.prog 30 #[va, vb] w (Ret w fun r w' => r = .tuple #[.agg #[.bool false, .slice none 0 0, .slice none 0 0], .int .i64 2]) := by
  obtain ⟨z, q, ha2, rfl⟩ := ha.p
  obtain ⟨z', q', hb2, hz⟩ := hb.p
  have HA := Lib.hid ha2
  have HB := Lib.hid hb2
  obtain ⟨s0, p0, k0, c0, e0, m0, n0, rfl⟩ := ha2.agg
  obtain ⟨s1, p1, k1, c1, e1, m1, n1, rfl⟩ := hb2.agg
  have HN := Lib.hid ha2.num
  have HM := Lib.hid hb2.num
  obtain rfl : z' = 0 := (Rat.mkRat_eq_zero hb2.ne).1 hz
  have Hd := Lib.hid ha2.dlen
  have Hd' := Lib.hid hb2.dlen
  clear ha ha2 hb hb2 hz
  have B := box333 w (.bool s0) (.slice p0 k0 c0) (.slice e0 m0 n0) (.bool s1) (.slice p1 k1 c1) (.slice e1 m1 n1) (.bool false) (.slice none 0 0) (.slice none 0 0) 27 27 27
  have Hb1 := Lib.hid (show ¬ w.heap.size + 1 < w.heap.size by omega)
  have Hb2 := Lib.hid (show ¬ w.heap.size + 1 + 1 < w.heap.size by omega)
  have Hd01 := Lib.hid (show w.heap.size ≠ w.heap.size + 1 by omega)
  have Hd02 := Lib.hid (show w.heap.size ≠ w.heap.size + 1 + 1 by omega)
  have Hd12 := Lib.hid (show w.heap.size + 1 ≠ w.heap.size + 1 + 1 by omega)
  go_enter Tryz.func30, Tryz.ntmps30
  go_wp2_with fail
  generalize ((w.alloc _).alloc _).alloc _ = W at B ⊢
  obtain ⟨G0, t0, t1, t2⟩ := B
  generalize w.heap.size + 1 + 1 = b2 at t2 Hb2 Hd02 Hd12 ⊢
  generalize w.heap.size + 1 = b1 at t1 Hb1 Hd01 Hd12 ⊢
  generalize hb0 : w.heap.size = b0 at t0 Hd01 Hd02 ⊢
  have Hb0 := Lib.hid (show ¬ b0 < w.heap.size by omega)
  have G := Lib.hid G0
  have T0 := Lib.hid t0
  have T1 := Lib.hid t1
  have T2 := Lib.hid t2
  clear hb0 G0 t0 t1 t2
  have HA := Lib.hid (HA.out.grow G.out)
  have HB := Lib.hid (HB.out.grow G.out)
  have HN := Lib.hid (HN.out.grow G.out)
  have HM := Lib.hid (HM.out.grow G.out)
  refine wp_region_fast [(0, true), (1, true), (2, true), (6, true), (7, true), (8, true), (3, false), (4, true), (5, false), (9, false), (10, true), (11, false), (12, false), (13, true), (14, true), (15, false), (16, true)] (by kernel_rfl) (by kernel_rfl) rfl (by kernel_rfl) (fun _ _ d _ _ h => by cases d <;> exact h) ?_
  have T0_0 := T0.out.c0
  have T0_1 := T0.out.c1
  have T0_2 := T0.out.c2
  have T1_0 := T1.out.c0
  have T1_1 := T1.out.c1
  have T1_2 := T1.out.c2
  have T2_0 := T2.out.c0
  have T2_1 := T2.out.c1
  have T2_2 := T2.out.c2
  have g0 : Gr W W.drew := (Gr.refl _).drew
  have G := Lib.hid (G.out.trans g0)
  have T0 := Lib.hid (T0.out.grow g0)
  have T1 := Lib.hid (T1.out.grow g0)
  have T2 := Lib.hid (T2.out.grow g0)
  have HA := Lib.hid (HA.out.grow g0)
  have HB := Lib.hid (HB.out.grow g0)
  have HN := Lib.hid (HN.out.grow g0)
  have HM := Lib.hid (HM.out.grow g0)
  repeat (refine wpE_readB (v := ?_) g0 rfl rfl (fun w' hg => ?_) (fun K hK => ?_); rotate_left; (go_simp; rfl); go_simp; refine hK _ _ ?_; clear hK K)
  refine wpE_fn (args := ?_) rfl rfl rfl rfl rfl rfl (by kernel_rfl) (by kernel_rfl) ?_ (fun K hK => ?_)
  rotate_left
  · go_simp; rfl
  refine (d_den _ _ 0 q' M HB.out (by omega)).mono ?_
  rintro _ w1 ⟨r1, rfl, g1, h1⟩
  refine ⟨_, rfl, g1, ?_⟩
  go_simp
  refine hK _ _ ?_
  clear hK K
  have G := Lib.hid (G.out.trans g1)
  have T0 := Lib.hid (T0.out.grow g1)
  have T1 := Lib.hid (T1.out.grow g1)
  have T2 := Lib.hid (T2.out.grow g1)
  have HA := Lib.hid (HA.out.grow g1)
  have HB := Lib.hid (HB.out.grow g1)
  have HN := Lib.hid (HN.out.grow g1)
  have HM := Lib.hid (HM.out.grow g1)
  replace g0 := g0.trans g1
  clear g1
  have H1 := Lib.hid h1
  clear h1
  obtain ⟨p2, k2, c2, rfl, -⟩ := H1.out.slice
  repeat (refine wpE_readB (v := ?_) g0 rfl rfl (fun w' hg => ?_) (fun K hK => ?_); rotate_left; (go_simp; rfl); go_simp; refine hK _ _ ?_; clear hK K)
  refine wpE_fn (args := ?_) rfl rfl rfl rfl rfl rfl (by kernel_rfl) (by kernel_rfl) ?_ (fun K hK => ?_)
  rotate_left
  · go_simp; rfl
  refine (e_Mul _ _ _ z q' _ L (M + 1) HN.out (H1.out.iv Hd'.out) rfl (by omega) (by omega)).mono ?_
  rintro _ w2 ⟨r2, rfl, g2, h2⟩
  refine ⟨_, rfl, g2, ?_⟩
  go_simp
  refine hK _ _ ?_
  clear hK K
  have G := Lib.hid (G.out.trans g2)
  have T0 := Lib.hid (T0.out.grow g2)
  have T1 := Lib.hid (T1.out.grow g2)
  have T2 := Lib.hid (T2.out.grow g2)
  have HA := Lib.hid (HA.out.grow g2)
  have HB := Lib.hid (HB.out.grow g2)
  have HN := Lib.hid (HN.out.grow g2)
  have HM := Lib.hid (HM.out.grow g2)
  have H1 := Lib.hid (H1.out.grow g2)
  replace g0 := g0.trans g2
  clear g2
  have H2 := Lib.hid h2
  clear h2
  refine wpE_fn (args := ?_) rfl rfl rfl rfl rfl rfl (by kernel_rfl) (by kernel_rfl) ?_ (fun K hK => ?_)
  rotate_left
  · go_simp; rfl
  refine (d_den _ _ z q L HA.out (by omega)).mono ?_
  rintro _ w3 ⟨r3, rfl, g3, h3⟩
  refine ⟨_, rfl, g3, ?_⟩
  go_simp
  refine hK _ _ ?_
  clear hK K
  have G := Lib.hid (G.out.trans g3)
  have T0 := Lib.hid (T0.out.grow g3)
  have T1 := Lib.hid (T1.out.grow g3)
  have T2 := Lib.hid (T2.out.grow g3)
  have HA := Lib.hid (HA.out.grow g3)
  have HB := Lib.hid (HB.out.grow g3)
  have HN := Lib.hid (HN.out.grow g3)
  have HM := Lib.hid (HM.out.grow g3)
  have H1 := Lib.hid (H1.out.grow g3)
  have H2 := Lib.hid (H2.out.grow g3)
  replace g0 := g0.trans g3
  clear g3
  have H3 := Lib.hid h3
  clear h3
  obtain ⟨p3, k3, c3, rfl, -⟩ := H3.out.slice
  repeat (refine wpE_readB (v := ?_) g0 rfl rfl (fun w' hg => ?_) (fun K hK => ?_); rotate_left; (go_simp; rfl); go_simp; refine hK _ _ ?_; clear hK K)
  refine wpE_fn (args := ?_) rfl rfl rfl rfl rfl rfl (by kernel_rfl) (by kernel_rfl) ?_ (fun K hK => ?_)
  rotate_left
  · go_simp; rfl
  refine (e_Mul _ _ _ 0 q 0 M (L + 1) HM.out (H3.out.iv Hd.out) (Int.zero_mul _) (by omega) (by omega)).mono ?_
  rintro _ w4 ⟨r4, rfl, g4, h4⟩
  refine ⟨_, rfl, g4, ?_⟩
  go_simp
  refine hK _ _ ?_
  clear hK K
  have G := Lib.hid (G.out.trans g4)
  have T0 := Lib.hid (T0.out.grow g4)
  have T1 := Lib.hid (T1.out.grow g4)
  have T2 := Lib.hid (T2.out.grow g4)
  have HA := Lib.hid (HA.out.grow g4)
  have HB := Lib.hid (HB.out.grow g4)
  have HN := Lib.hid (HN.out.grow g4)
  have HM := Lib.hid (HM.out.grow g4)
  have H1 := Lib.hid (H1.out.grow g4)
  have H2 := Lib.hid (H2.out.grow g4)
  have H3 := Lib.hid (H3.out.grow g4)
  replace g0 := g0.trans g4
  clear g4
  have H4 := Lib.hid h4
  clear h4
  refine wpE_fn (args := ?_) rfl rfl rfl rfl rfl rfl (by kernel_rfl) (by kernel_rfl) ?_ (fun K hK => ?_)
  rotate_left
  · go_simp; rfl
  refine (s_MakeNo _ _ _ (z * (q' : Int)) (L + (M + 1) + 1) (M + (L + 1) + 1) H2.out.2 H4.out.2 (by omega) (by omega)).mono ?_
  rintro _ w5 ⟨_, rfl, g5, rfl⟩
  refine ⟨_, rfl, g5, ?_⟩
  go_simp
  refine hK _ _ ?_
  clear hK K
  have G := Lib.hid (G.out.trans g5)
  have T0 := Lib.hid (T0.out.grow g5)
  have T1 := Lib.hid (T1.out.grow g5)
  have T2 := Lib.hid (T2.out.grow g5)
  have HA := Lib.hid (HA.out.grow g5)
  have HB := Lib.hid (HB.out.grow g5)
  have HN := Lib.hid (HN.out.grow g5)
  have HM := Lib.hid (HM.out.grow g5)
  have H1 := Lib.hid (H1.out.grow g5)
  have H2 := Lib.hid (H2.out.grow g5)
  have H3 := Lib.hid (H3.out.grow g5)
  have H4 := Lib.hid (H4.out.grow g5)
  replace g0 := g0.trans g5
  clear g5
  repeat (refine wpE_readB (v := ?_) g0 rfl rfl (fun w' hg => ?_) (fun K hK => ?_); rotate_left; (go_simp; rfl); go_simp; refine hK _ _ ?_; clear hK K)
  clear T2_0 T2_1 T2_2
  have T2_0 := T2.out.load.1
  have T2_f0 := T2.out.f0 0
  have T2_1 := T2.out.load.2.1
  have T2_f1 := T2.out.f0 1
  have T2_2 := T2.out.load.2.2
  have T2_f2 := T2.out.f0 2
  refine wpE_do rfl rfl (fun K hK => ?_)
  go_simp
  refine ⟨fun h => Bool.noConfusion h, hK _ _ ?_⟩
  clear hK K
  clear T0_0 T0_1 T0_2 T1_0 T1_1 T1_2 T2_0 T2_1 T2_2 T2_f0 T2_f1 T2_f2
  have hu := upd3 w5 b2 (.bool false) (.slice none 0 0) (.slice none 0 0)
  have HA := Lib.hid (HA.out.upd T2.out.noInt hu)
  have HB := Lib.hid (HB.out.upd T2.out.noInt hu)
  have HN := Lib.hid (HN.out.upd T2.out.noInt hu)
  have HM := Lib.hid (HM.out.upd T2.out.noInt hu)
  have H1 := Lib.hid (H1.out.upd T2.out.noInt hu)
  have H2 := Lib.hid (H2.out.upd T2.out.noInt hu)
  have H3 := Lib.hid (H3.out.upd T2.out.noInt hu)
  have H4 := Lib.hid (H4.out.upd T2.out.noInt hu)
  have T0 := Lib.hid (T0.out.upd hu Hd02.out)
  have T1 := Lib.hid (T1.out.upd hu Hd12.out)
  have T2 := Lib.hid (T2.out.set (.bool false) (.slice none 0 0) (.slice none 0 0))
  have G := Lib.hid (G.out.three Hb2.out (.bool false) (.slice none 0 0) (.slice none 0 0))
  clear hu
  generalize ((w5.setCell _ _).setCell _ _).setCell _ _ = W1 at G T0 T1 T2 HA HB HN HM H1 H2 H3 H4 ⊢
  have g1 := Gr.refl W1
  repeat (refine wpE_readB (v := ?_) g1 rfl rfl (fun w' hg => ?_) (fun K hK => ?_); rotate_left; (go_simp; rfl); go_simp; refine hK _ _ ?_; clear hK K)
  refine wpE_nil ?_
  clear g0
  go_wp2_with fail
  have T2_0 := T2.out.load.1
  have T2_1 := T2.out.load.2.1
  have T2_2 := T2.out.load.2.2
  refine bodyPost_ret (by simp [results, Tryz.results30, go_sem, T2_0, T2_1, T2_2]; rfl) rfl ?_
  exact ⟨_, rfl, G.out, rfl⟩
end Go.Proofs.YtmcgkglmlfbijaaGreatDoor

/-
  rational.reduced.
-/
import Derived.Test.YtmcgkglmlfbijaaGreatDoorRatB
namespace Go.Proofs.YtmcgkglmlfbijaaGreatDoor
open Go.RowKit Go.Lib
set_option linter.unusedVariables false
set_option linter.unusedSimpArgs false

theorem gcd_len {q L : Nat} (z : Nat) (hq : q ≠ 0) (h : (digs q).length ≤ L) : (digs (Nat.gcd z q)).length ≤ L :=
  Nat.le_trans (digs_mono_length (Nat.gcd_le_right _ (by omega))) h
theorem cmpZ_one (k : Nat) : cmpZ (k : Int) ((1 : Nat) : Int) = 0 ↔ k = 1 := by
  unfold cmpZ
  split <;> (try split) <;> omega



set_option maxRecDepth 100000 in
set_option maxHeartbeats 3200000 in
theorem rat_reduced (w : World) (va vb : Value) (x y : Int) (L M : Nat) (hx : IntV w va x L) (hy : IntV w vb y M) (h0 : y ≠ 0) (hL : L ≤ 1000000) (hM : M ≤ 1000000) :
    Calls Tryz.prog 74 #[va, vb] w (Ret w fun r w' => RatC w' r (Rat.divInt x y)) := by
  have HX := Lib.hid hx
  have HY := Lib.hid hy
  have HL := Lib.hid hL
  have HM := Lib.hid hM
  obtain ⟨s0, p0, k0, c0, rfl⟩ := hx.agg
  obtain ⟨s1, p1, k1, c1, rfl⟩ := hy.agg
  clear hx hy hL hM
  have B := box223 w (.bool s0) (.slice p0 k0 c0) (.bool s1) (.slice p1 k1 c1) (.bool false) (.slice none 0 0) (.slice none 0 0) 25 25 27
  have Hb1 := Lib.hid (show ¬ w.heap.size + 1 < w.heap.size by omega)
  have Hb2 := Lib.hid (show ¬ w.heap.size + 1 + 1 < w.heap.size by omega)
  have Hd01 := Lib.hid (show w.heap.size ≠ w.heap.size + 1 by omega)
  have Hd02 := Lib.hid (show w.heap.size ≠ w.heap.size + 1 + 1 by omega)
  have Hd12 := Lib.hid (show w.heap.size + 1 ≠ w.heap.size + 1 + 1 by omega)
  go_enter Tryz.func74, Tryz.ntmps74
  go_wp2_with fail
  generalize ((w.alloc _).alloc _).alloc _ = W at B ⊢
  obtain ⟨G0, t0, t1, t2⟩ := B
  generalize w.heap.size + 1 + 1 = b2 at t2 Hb2 Hd02 Hd12 ⊢
  generalize w.heap.size + 1 = b1 at t1 Hb1 Hd01 Hd12 ⊢
  generalize hb0 : w.heap.size = b0 at t0 Hd01 Hd02 ⊢
  have Hb0 := Lib.hid (show ¬ b0 < w.heap.size by omega)
  have G := Lib.hid G0
  have T0 := Lib.hid t0
  have T1 := Lib.hid t1
  have T2 := Lib.hid t2
  clear hb0 G0 t0 t1 t2
  have HX := Lib.hid (HX.out.grow G.out)
  have HY := Lib.hid (HY.out.grow G.out)
  obtain ⟨sy, hsy⟩ : ∃ sy, sgn y = sy := ⟨_, rfl⟩
  refine (v_Sign W _ y sy M HY.out hsy HM.out).mono ?_
  rintro _ w1 ⟨_, rfl, g1, rfl⟩
  have G := Lib.hid (G.out.trans g1)
  have T0 := Lib.hid (T0.out.grow g1)
  have T1 := Lib.hid (T1.out.grow g1)
  have T2 := Lib.hid (T2.out.grow g1)
  have HX := Lib.hid (HX.out.grow g1)
  have HY := Lib.hid (HY.out.grow g1)
  clear g1
  by_cases hneg : y < 0
  · have hs : sy < 0 := by rw [← hsy]; unfold sgn; rw [if_pos hneg]; decide
    have HR := Lib.hid (divInt_neg (a := x) hneg)
    have HY2 := Lib.hid (show -y = (y.natAbs : Int) by omega)
    have Hq := Lib.hid (show y.natAbs ≠ 0 by omega)
    obtain ⟨q, hq⟩ : ∃ q, y.natAbs = q := ⟨_, rfl⟩
    obtain ⟨z, hz⟩ : ∃ z, -x = z := ⟨_, rfl⟩
    rw [hq] at HR HY2 Hq
    rw [hz] at HR
    clear hsy hneg h0 hq
    go_wp2_with fail
    refine wp_region_fast [(0, true), (2, true), (1, false), (3, false), (4, false), (5, false)] (by kernel_rfl) (by kernel_rfl) rfl (by kernel_rfl) (fun _ _ d _ _ h => by cases d <;> exact h) ?_
    have g0 : Gr w1 w1.drew := (Gr.refl _).drew
    have T0_0 := T0.out.c0
    have T0_1 := T0.out.c1
    have T1_0 := T1.out.c0
    have T1_1 := T1.out.c1
    repeat (refine wpE_readB (v := ?_) g0 rfl rfl (fun w' hg => ?_) (fun K hK => ?_); rotate_left; (go_simp; rfl); go_simp; refine hK _ _ ?_; clear hK K)
    refine wpE_fn (args := ?_) rfl rfl rfl rfl rfl rfl (by kernel_rfl) (by kernel_rfl) ?_ (fun K hK => ?_)
    rotate_left
    · go_simp; rfl
    refine (v_Neg _ _ x z L (HX.out.grow g0) hz HL.out).mono ?_
    rintro _ w2 ⟨r2, rfl, g2, h2⟩
    refine ⟨_, rfl, g2, ?_⟩
    go_simp
    refine hK _ _ ?_
    clear hK K
    replace g0 := g0.trans g2
    have H2 := Lib.hid h2.2
    obtain ⟨s2, p2, k2, c2, rfl⟩ := h2.2.agg
    clear h2 g2
    refine wpE_fn (args := ?_) rfl rfl rfl rfl rfl rfl (by kernel_rfl) (by kernel_rfl) ?_ (fun K hK => ?_)
    rotate_left
    · go_simp; rfl
    refine (v_Neg _ _ y (q : Int) M (HY.out.grow g0) HY2.out HM.out).mono ?_
    rintro _ w3 ⟨r3, rfl, g3, h3⟩
    refine ⟨_, rfl, g3, ?_⟩
    go_simp
    refine hK _ _ ?_
    clear hK K
    replace g0 := g0.trans g3
    have H2 := Lib.hid (H2.out.grow g3)
    have H3 := Lib.hid h3.2
    obtain ⟨s3, p3, k3, c3, rfl⟩ := h3.2.agg
    clear h3 g3
    clear T0_0 T0_1 T1_0 T1_1
    have G := Lib.hid (G.out.trans g0)
    have T0 := Lib.hid (T0.out.grow g0)
    have T1 := Lib.hid (T1.out.grow g0)
    have T2 := Lib.hid (T2.out.grow g0)
    have HX := Lib.hid (HX.out.grow g0)
    have HY := Lib.hid (HY.out.grow g0)
    clear g0
    have T0_0 := T0.out.load.1
    have T0_f0 := T0.out.f0 0
    have T0_1 := T0.out.load.2
    have T0_f1 := T0.out.f0 1
    refine wpE_do rfl rfl (fun K hK => ?_)
    go_simp
    refine ⟨fun h => Bool.noConfusion h, hK _ _ ?_⟩
    clear hK K
    clear T0_0 T0_f0 T0_1 T0_f1
    have hu := upd2 w3 b0 (.bool s2) (.slice p2 k2 c2)
    have H2 := Lib.hid (H2.out.upd T0.out.noInt hu)
    have H3 := Lib.hid (H3.out.upd T0.out.noInt hu)
    have T1 := Lib.hid (T1.out.upd hu Hd01.out.symm)
    have T2 := Lib.hid (T2.out.upd hu Hd02.out.symm)
    have T0 := Lib.hid (T0.out.set (.bool s2) (.slice p2 k2 c2))
    have G := Lib.hid (G.out.two Hb0.out (.bool s2) (.slice p2 k2 c2))
    clear hu
    generalize (w3.setCell _ _).setCell _ _ = W1 at G T0 T1 T2 H2 H3 ⊢
    have T1_0 := T1.out.load.1
    have T1_f0 := T1.out.f0 0
    have T1_1 := T1.out.load.2
    have T1_f1 := T1.out.f0 1
    refine wpE_do rfl rfl (fun K hK => ?_)
    go_simp
    refine ⟨fun h => Bool.noConfusion h, hK _ _ ?_⟩
    clear hK K
    clear T1_0 T1_f0 T1_1 T1_f1
    have hu := upd2 W1 b1 (.bool s3) (.slice p3 k3 c3)
    have H2 := Lib.hid (H2.out.upd T1.out.noInt hu)
    have H3 := Lib.hid (H3.out.upd T1.out.noInt hu)
    have T0 := Lib.hid (T0.out.upd hu Hd01.out)
    have T2 := Lib.hid (T2.out.upd hu Hd12.out.symm)
    have T1 := Lib.hid (T1.out.set (.bool s3) (.slice p3 k3 c3))
    have G := Lib.hid (G.out.two Hb1.out (.bool s3) (.slice p3 k3 c3))
    clear hu
    generalize (W1.setCell _ _).setCell _ _ = W2 at G T0 T1 T2 H2 H3 ⊢
    refine wpE_nil ?_
    have HX := H2
    have HY := H3
    clear H2 H3 hz
    have T0_0 := T0.out.load.1
    have T0_1 := T0.out.load.2
    have T1_0 := T1.out.load.1
    have T1_1 := T1.out.load.2
    have T2_0 := T2.out.load.1
    have T2_1 := T2.out.load.2.1
    have T2_2 := T2.out.load.2.2
    go_wp2_with fail
    obtain ⟨lx, hlx, elx, llx⟩ := HX.out.nat'
    obtain ⟨ly, hly, ely, lly⟩ := HY.out.nat'
    refine (nat_Gcd _ _ _ lx ly z.natAbs q hlx hly elx (by rw [ely, Int.natAbs_natCast]) (Nat.le_trans llx HL.out) (Nat.le_trans lly HM.out)).mono ?_
    rintro _ w2 ⟨rg, rfl, g2, hg⟩
    clear hlx elx llx hly ely lly
    obtain ⟨pg, kg, cg, rfl, -⟩ := hg.slice
    have HGC := Lib.hid (IntV.nat hg (gcd_len _ Hq.out (by have := HY.out.len; rw [Int.natAbs_natCast] at this; exact this)))
    rw [nval_digs] at HGC
    clear hg
    clear T0_0 T0_1 T1_0 T1_1 T2_0 T2_1 T2_2
    have G := Lib.hid (G.out.trans g2)
    have T0 := Lib.hid (T0.out.grow g2)
    have T1 := Lib.hid (T1.out.grow g2)
    have T2 := Lib.hid (T2.out.grow g2)
    have HX := Lib.hid (HX.out.grow g2)
    have HY := Lib.hid (HY.out.grow g2)
    clear g2
    have B := box2 w2 (.bool false) (.slice pg kg cg) 25
    have GB := Lib.hid B.1
    have T0_0 := (T0.out.grow B.1).load.1
    have T0_1 := (T0.out.grow B.1).load.2
    have T1_0 := (T1.out.grow B.1).load.1
    have T1_1 := (T1.out.grow B.1).load.2
    have T2_0 := (T2.out.grow B.1).load.1
    have T2_1 := (T2.out.grow B.1).load.2.1
    have T2_2 := (T2.out.grow B.1).load.2.2
    have T3 := Lib.hid B.2
    have T3_0 := B.2.load.1
    have T3_1 := B.2.load.2
    clear B
    go_wp2_with fail
    clear T0_0 T0_1 T1_0 T1_1 T2_0 T2_1 T2_2 T3_0 T3_1
    generalize w2.heap.size = b_T3 at T3 ⊢
    generalize w2.alloc _ = W3 at GB T3 ⊢
    have G := Lib.hid (G.out.trans GB.out)
    have T0 := Lib.hid (T0.out.grow GB.out)
    have T1 := Lib.hid (T1.out.grow GB.out)
    have T2 := Lib.hid (T2.out.grow GB.out)
    have HX := Lib.hid (HX.out.grow GB.out)
    have HY := Lib.hid (HY.out.grow GB.out)
    have HGC := Lib.hid (HGC.out.grow GB.out)
    refine (v_Quo W3 _ _ z (Nat.gcd z.natAbs q : Nat) (mkRat z q).num L M HX.out HGC.out (by have := Nat.gcd_pos_of_pos_right z.natAbs (show 0 < q by have := Hq.out; omega); omega) (quo_low z q Hq.out) HL.out HM.out).mono ?_
    rintro _ w4 ⟨_, rfl, g4, x4, y4, rfl, hx4, hy4⟩
    have G := Lib.hid (G.out.trans g4)
    have T0 := Lib.hid (T0.out.grow g4)
    have T1 := Lib.hid (T1.out.grow g4)
    have T2 := Lib.hid (T2.out.grow g4)
    have T3 := Lib.hid (T3.out.grow g4)
    have HX := Lib.hid (HX.out.grow g4)
    have HY := Lib.hid (HY.out.grow g4)
    have HGC := Lib.hid (HGC.out.grow g4)
    clear g4
    have HN := Lib.hid hx4
    clear hx4
    obtain ⟨p4, k4, c4, rfl⟩ := HN.out.agg
    obtain ⟨p5, k5, c5, rfl⟩ := hy4.agg
    clear hy4
    generalize hs4 : decide ((mkRat z q).num < 0) = s4 at HN ⊢
    generalize decide (z - (mkRat z q).num * (Nat.gcd z.natAbs q : Nat) < 0) = s5
    have B := box22 w4 (.bool s4) (.slice p4 k4 c4) (.bool s5) (.slice p5 k5 c5) 25 25
    have GB := Lib.hid B.1
    have T0_0 := (T0.out.grow B.1).load.1
    have T0_1 := (T0.out.grow B.1).load.2
    have T1_0 := (T1.out.grow B.1).load.1
    have T1_1 := (T1.out.grow B.1).load.2
    have T2_0 := (T2.out.grow B.1).load.1
    have T2_1 := (T2.out.grow B.1).load.2.1
    have T2_2 := (T2.out.grow B.1).load.2.2
    have T3_0 := (T3.out.grow B.1).load.1
    have T3_1 := (T3.out.grow B.1).load.2
    have T4 := Lib.hid B.2.1
    have T4_0 := B.2.1.load.1
    have T4_1 := B.2.1.load.2
    have T5 := Lib.hid B.2.2
    have T5_0 := B.2.2.load.1
    have T5_1 := B.2.2.load.2
    clear B
    go_wp2_with fail
    clear T0_0 T0_1 T1_0 T1_1 T2_0 T2_1 T2_2 T3_0 T3_1 T4_0 T4_1 T5_0 T5_1
    generalize w4.heap.size + 1 = b_T5 at T5 ⊢
    generalize w4.heap.size = b_T4 at T4 ⊢
    generalize (w4.alloc _).alloc _ = W4 at GB T4 T5 ⊢
    have G := Lib.hid (G.out.trans GB.out)
    have T0 := Lib.hid (T0.out.grow GB.out)
    have T1 := Lib.hid (T1.out.grow GB.out)
    have T2 := Lib.hid (T2.out.grow GB.out)
    have T3 := Lib.hid (T3.out.grow GB.out)
    have HX := Lib.hid (HX.out.grow GB.out)
    have HY := Lib.hid (HY.out.grow GB.out)
    have HGC := Lib.hid (HGC.out.grow GB.out)
    have HN := Lib.hid (HN.out.grow GB.out)
    refine (v_Quo W4 _ _ (q : Int) (Nat.gcd z.natAbs q : Nat) ((mkRat z q).den : Int) M M HY.out HGC.out (by have := Nat.gcd_pos_of_pos_right z.natAbs (show 0 < q by have := Hq.out; omega); omega) (quo_lowD z q Hq.out) HM.out HM.out).mono ?_
    rintro _ w6 ⟨_, rfl, g6, x6, y6, rfl, hx6, hy6⟩
    have G := Lib.hid (G.out.trans g6)
    have T0 := Lib.hid (T0.out.grow g6)
    have T1 := Lib.hid (T1.out.grow g6)
    have T2 := Lib.hid (T2.out.grow g6)
    have T3 := Lib.hid (T3.out.grow g6)
    have T4 := Lib.hid (T4.out.grow g6)
    have T5 := Lib.hid (T5.out.grow g6)
    have HX := Lib.hid (HX.out.grow g6)
    have HY := Lib.hid (HY.out.grow g6)
    have HGC := Lib.hid (HGC.out.grow g6)
    have HN := Lib.hid (HN.out.grow g6)
    clear g6
    have HDn := Lib.hid hx6
    clear hx6
    obtain ⟨p6, k6, c6, rfl⟩ := HDn.out.agg
    obtain ⟨p7, k7, c7, rfl⟩ := hy6.agg
    clear hy6
    generalize decide (((mkRat z q).den : Int) < 0) = s6 at HDn ⊢
    generalize decide ((q : Int) - ((mkRat z q).den : Int) * (Nat.gcd z.natAbs q : Nat) < 0) = s7
    have HDm := Lib.hid HDn.out.mag
    rw [Int.natAbs_natCast] at HDm
    have B := box22 w6 (.bool s6) (.slice p6 k6 c6) (.bool s7) (.slice p7 k7 c7) 25 25
    have GB := Lib.hid B.1
    have T0_0 := (T0.out.grow B.1).load.1
    have T0_1 := (T0.out.grow B.1).load.2
    have T1_0 := (T1.out.grow B.1).load.1
    have T1_1 := (T1.out.grow B.1).load.2
    have T2_0 := (T2.out.grow B.1).load.1
    have T2_1 := (T2.out.grow B.1).load.2.1
    have T2_2 := (T2.out.grow B.1).load.2.2
    have T3_0 := (T3.out.grow B.1).load.1
    have T3_1 := (T3.out.grow B.1).load.2
    have T4_0 := (T4.out.grow B.1).load.1
    have T4_1 := (T4.out.grow B.1).load.2
    have T5_0 := (T5.out.grow B.1).load.1
    have T5_1 := (T5.out.grow B.1).load.2
    have T6 := Lib.hid B.2.1
    have T6_0 := B.2.1.load.1
    have T6_1 := B.2.1.load.2
    have T7 := Lib.hid B.2.2
    have T7_0 := B.2.2.load.1
    have T7_1 := B.2.2.load.2
    clear B
    go_wp2_with fail
    clear T0_0 T0_1 T1_0 T1_1 T2_0 T2_1 T2_2 T3_0 T3_1 T4_0 T4_1 T5_0 T5_1 T6_0 T6_1 T7_0 T7_1
    generalize w6.heap.size + 1 = b_T7 at T7 ⊢
    generalize w6.heap.size = b_T6 at T6 ⊢
    generalize (w6.alloc _).alloc _ = W6 at GB T6 T7 ⊢
    have G := Lib.hid (G.out.trans GB.out)
    have T0 := Lib.hid (T0.out.grow GB.out)
    have T1 := Lib.hid (T1.out.grow GB.out)
    have T2 := Lib.hid (T2.out.grow GB.out)
    have T3 := Lib.hid (T3.out.grow GB.out)
    have T4 := Lib.hid (T4.out.grow GB.out)
    have T5 := Lib.hid (T5.out.grow GB.out)
    have HX := Lib.hid (HX.out.grow GB.out)
    have HY := Lib.hid (HY.out.grow GB.out)
    have HGC := Lib.hid (HGC.out.grow GB.out)
    have HN := Lib.hid (HN.out.grow GB.out)
    have HDn := Lib.hid (HDn.out.grow GB.out)
    have HDm := Lib.hid (HDm.out.grow GB.out)
    have HDl := Lib.hid (show (digs (mkRat z q).den).length ≤ M from by have h := HY.out.len; rw [Int.natAbs_natCast] at h; exact Nat.le_trans (digs_mono_length (low_le z Hq.out).2) h)
    obtain ⟨cz, hcz⟩ : ∃ cz, cmpZ ((mkRat z q).den : Int) ((1 : Nat) : Int) = cz := ⟨_, rfl⟩
    refine wp_region_fast [(0, true), (1, true), (2, false), (3, false), (4, true)] (by kernel_rfl) (by kernel_rfl) rfl (by kernel_rfl) (fun _ _ d _ _ h => by cases d <;> exact h) ?_
    have T0_0 := T0.out.c0
    have T0_1 := T0.out.c1
    have T1_0 := T1.out.c0
    have T1_1 := T1.out.c1
    have T2_0 := T2.out.c0
    have T2_1 := T2.out.c1
    have T2_2 := T2.out.c2
    have T3_0 := T3.out.c0
    have T3_1 := T3.out.c1
    have T4_0 := T4.out.c0
    have T4_1 := T4.out.c1
    have T5_0 := T5.out.c0
    have T5_1 := T5.out.c1
    have T6_0 := T6.out.c0
    have T6_1 := T6.out.c1
    have T7_0 := T7.out.c0
    have T7_1 := T7.out.c1
    have g0 : Gr W6 W6.drew := (Gr.refl _).drew
    have G := Lib.hid (G.out.trans g0)
    have T0 := Lib.hid (T0.out.grow g0)
    have T1 := Lib.hid (T1.out.grow g0)
    have T2 := Lib.hid (T2.out.grow g0)
    have T3 := Lib.hid (T3.out.grow g0)
    have T4 := Lib.hid (T4.out.grow g0)
    have T5 := Lib.hid (T5.out.grow g0)
    have T6 := Lib.hid (T6.out.grow g0)
    have T7 := Lib.hid (T7.out.grow g0)
    have HX := Lib.hid (HX.out.grow g0)
    have HY := Lib.hid (HY.out.grow g0)
    have HGC := Lib.hid (HGC.out.grow g0)
    have HN := Lib.hid (HN.out.grow g0)
    have HDn := Lib.hid (HDn.out.grow g0)
    have HDm := Lib.hid (HDm.out.grow g0)
    repeat (refine wpE_readB (v := ?_) g0 rfl rfl (fun w' hg => ?_) (fun K hK => ?_); rotate_left; (go_simp; rfl); go_simp; refine hK _ _ ?_; clear hK K)
    refine wpE_fn (args := ?_) rfl rfl rfl rfl rfl rfl (by kernel_rfl) (by kernel_rfl) ?_ (fun K hK => ?_)
    rotate_left
    · go_simp; rfl
    refine (nat_From _ 1 (by decide)).mono ?_
    rintro _ w8 ⟨r8, rfl, g8, h8⟩
    refine ⟨_, rfl, g8, ?_⟩
    go_simp
    refine hK _ _ ?_
    clear hK K
    have G := Lib.hid (G.out.trans g8)
    have T0 := Lib.hid (T0.out.grow g8)
    have T1 := Lib.hid (T1.out.grow g8)
    have T2 := Lib.hid (T2.out.grow g8)
    have T3 := Lib.hid (T3.out.grow g8)
    have T4 := Lib.hid (T4.out.grow g8)
    have T5 := Lib.hid (T5.out.grow g8)
    have T6 := Lib.hid (T6.out.grow g8)
    have T7 := Lib.hid (T7.out.grow g8)
    have HX := Lib.hid (HX.out.grow g8)
    have HY := Lib.hid (HY.out.grow g8)
    have HGC := Lib.hid (HGC.out.grow g8)
    have HN := Lib.hid (HN.out.grow g8)
    have HDn := Lib.hid (HDn.out.grow g8)
    have HDm := Lib.hid (HDm.out.grow g8)
    replace g0 := g0.trans g8
    clear g8
    have H8 := Lib.hid h8
    clear h8
    refine wpE_fn (args := ?_) rfl rfl rfl rfl rfl rfl (by kernel_rfl) (by kernel_rfl) ?_ (fun K hK => ?_)
    rotate_left
    · go_simp; rfl
    refine (n_Cmp _ _ _ (mkRat z q).den 1 M 1 cz ⟨_, HDm.out, nval_digs _, HDl.out⟩ ⟨_, H8.out, nval_digs _, by decide +kernel⟩ hcz HM.out (by decide)).mono ?_
    rintro _ w9 ⟨_, rfl, g9, rfl⟩
    refine ⟨_, rfl, g9, ?_⟩
    go_simp
    refine hK _ _ ?_
    clear hK K
    have G := Lib.hid (G.out.trans g9)
    have T0 := Lib.hid (T0.out.grow g9)
    have T1 := Lib.hid (T1.out.grow g9)
    have T2 := Lib.hid (T2.out.grow g9)
    have T3 := Lib.hid (T3.out.grow g9)
    have T4 := Lib.hid (T4.out.grow g9)
    have T5 := Lib.hid (T5.out.grow g9)
    have T6 := Lib.hid (T6.out.grow g9)
    have T7 := Lib.hid (T7.out.grow g9)
    have HX := Lib.hid (HX.out.grow g9)
    have HY := Lib.hid (HY.out.grow g9)
    have HGC := Lib.hid (HGC.out.grow g9)
    have HN := Lib.hid (HN.out.grow g9)
    have HDn := Lib.hid (HDn.out.grow g9)
    have HDm := Lib.hid (HDm.out.grow g9)
    have H8 := Lib.hid (H8.out.grow g9)
    replace g0 := g0.trans g9
    clear g9
    repeat (refine wpE_readB (v := ?_) g0 rfl rfl (fun w' hg => ?_) (fun K hK => ?_); rotate_left; (go_simp; rfl); go_simp; refine hK _ _ ?_; clear hK K)
    refine wpE_nil ?_
    clear g0
    clear T0_0 T0_1 T1_0 T1_1 T2_0 T2_1 T2_2 T3_0 T3_1 T4_0 T4_1 T5_0 T5_1 T6_0 T6_1 T7_0 T7_1
    by_cases h1 : (mkRat z q).den = 1
    · have hc0 : cz = 0 := by rw [← hcz]; exact (cmpZ_one _).2 h1
      have HV := Lib.hid (RatC.mk HN.out (show NatL _ (.slice none 0 0) (dd (mkRat z q).den) by rw [h1]; exact NatL.nil _))
      subst hc0
      clear hcz h1
      have T2_0 := T2.out.load.1
      have T2_f0 := T2.out.f0 0
      have T2_1 := T2.out.load.2.1
      have T2_f1 := T2.out.f0 1
      have T2_2 := T2.out.load.2.2
      have T2_f2 := T2.out.f0 2
      have T4_0 := T4.out.load.1
      have T4_f0 := T4.out.f0 0
      have T4_1 := T4.out.load.2
      have T4_f1 := T4.out.f0 1
      go_wp2_with fail
      clear T2_0 T2_f0 T2_1 T2_f1 T2_2 T2_f2 T4_0 T4_f0 T4_1 T4_f1
      have hu := upd3 w9 b2 (.bool s4) (.slice p4 k4 c4) (.slice none 0 0)
      have HV := Lib.hid (HV.out.upd T2.out.noInt hu)
      have T0 := Lib.hid (T0.out.upd hu Hd02.out)
      have T1 := Lib.hid (T1.out.upd hu Hd12.out)
      have T2 := Lib.hid (T2.out.set (.bool s4) (.slice p4 k4 c4) (.slice none 0 0))
      have G := Lib.hid (G.out.three Hb2.out (.bool s4) (.slice p4 k4 c4) (.slice none 0 0))
      clear hu
      generalize ((w9.setCell _ _).setCell _ _).setCell _ _ = W9 at G T0 T1 T2 HV ⊢
      have T2_0 := T2.out.load.1
      have T2_1 := T2.out.load.2.1
      have T2_2 := T2.out.load.2.2
      refine bodyPost_ret (by simp [results, Tryz.results74, go_sem, T2_0, T2_1, T2_2]; rfl) rfl ?_
      exact ⟨_, rfl, G.out, by rw [HR.out]; exact HV.out⟩
    · have hc0 : ¬ cz = 0 := by rw [← hcz]; exact fun h => h1 ((cmpZ_one _).1 h)
      have HV := Lib.hid (RatC.mk HN.out (show NatL _ (.slice p6 k6 c6) (dd (mkRat z q).den) by unfold dd; rw [if_neg h1]; exact HDm.out))
      clear hcz h1
      have T2_0 := T2.out.load.1
      have T2_f0 := T2.out.f0 0
      have T2_1 := T2.out.load.2.1
      have T2_f1 := T2.out.f0 1
      have T2_2 := T2.out.load.2.2
      have T2_f2 := T2.out.f0 2
      have T4_0 := T4.out.load.1
      have T4_f0 := T4.out.f0 0
      have T4_1 := T4.out.load.2
      have T4_f1 := T4.out.f0 1
      have T6_0 := T6.out.load.1
      have T6_f0 := T6.out.f0 0
      have T6_1 := T6.out.load.2
      have T6_f1 := T6.out.f0 1
      go_wp2_with fail
      clear T2_0 T2_f0 T2_1 T2_f1 T2_2 T2_f2 T4_0 T4_f0 T4_1 T4_f1 T6_0 T6_f0 T6_1 T6_f1
      have hu := upd3 w9 b2 (.bool s4) (.slice p4 k4 c4) (.slice p6 k6 c6)
      have HV := Lib.hid (HV.out.upd T2.out.noInt hu)
      have T0 := Lib.hid (T0.out.upd hu Hd02.out)
      have T1 := Lib.hid (T1.out.upd hu Hd12.out)
      have T2 := Lib.hid (T2.out.set (.bool s4) (.slice p4 k4 c4) (.slice p6 k6 c6))
      have G := Lib.hid (G.out.three Hb2.out (.bool s4) (.slice p4 k4 c4) (.slice p6 k6 c6))
      clear hu
      generalize ((w9.setCell _ _).setCell _ _).setCell _ _ = W9 at G T0 T1 T2 HV ⊢
      have T2_0 := T2.out.load.1
      have T2_1 := T2.out.load.2.1
      have T2_2 := T2.out.load.2.2
      refine bodyPost_ret (by simp [results, Tryz.results74, go_sem, T2_0, T2_1, T2_2]; rfl) rfl ?_
      exact ⟨_, rfl, G.out, by rw [HR.out]; exact HV.out⟩
  · have hs : ¬ sy < 0 := by rw [← hsy]; unfold sgn; rw [if_neg hneg]; split <;> decide
    have HR := Lib.hid (divInt_pos (a := x) (show 0 < y by omega))
    obtain ⟨q, hq⟩ : ∃ q, y.natAbs = q := ⟨_, rfl⟩
    rw [hq] at HR
    have hyq : y = (q : Int) := by omega
    have Hq := Lib.hid (show q ≠ 0 by omega)
    obtain ⟨z, hz⟩ : ∃ z, x = z := ⟨_, rfl⟩
    have HR := Lib.hid (show Rat.divInt x y = mkRat z q by rw [HR.out, hz])
    rw [hz] at HX
    rw [hyq] at HY
    clear hsy hneg h0 hq hz hyq
    have T0_0 := T0.out.load.1
    have T0_1 := T0.out.load.2
    have T1_0 := T1.out.load.1
    have T1_1 := T1.out.load.2
    have T2_0 := T2.out.load.1
    have T2_1 := T2.out.load.2.1
    have T2_2 := T2.out.load.2.2
    go_wp2_with fail
    obtain ⟨lx, hlx, elx, llx⟩ := HX.out.nat'
    obtain ⟨ly, hly, ely, lly⟩ := HY.out.nat'
    refine (nat_Gcd _ _ _ lx ly z.natAbs q hlx hly elx (by rw [ely, Int.natAbs_natCast]) (Nat.le_trans llx HL.out) (Nat.le_trans lly HM.out)).mono ?_
    rintro _ w2 ⟨rg, rfl, g2, hg⟩
    clear hlx elx llx hly ely lly
    obtain ⟨pg, kg, cg, rfl, -⟩ := hg.slice
    have HGC := Lib.hid (IntV.nat hg (gcd_len _ Hq.out (by have := HY.out.len; rw [Int.natAbs_natCast] at this; exact this)))
    rw [nval_digs] at HGC
    clear hg
    clear T0_0 T0_1 T1_0 T1_1 T2_0 T2_1 T2_2
    have G := Lib.hid (G.out.trans g2)
    have T0 := Lib.hid (T0.out.grow g2)
    have T1 := Lib.hid (T1.out.grow g2)
    have T2 := Lib.hid (T2.out.grow g2)
    have HX := Lib.hid (HX.out.grow g2)
    have HY := Lib.hid (HY.out.grow g2)
    clear g2
    have B := box2 w2 (.bool false) (.slice pg kg cg) 25
    have GB := Lib.hid B.1
    have T0_0 := (T0.out.grow B.1).load.1
    have T0_1 := (T0.out.grow B.1).load.2
    have T1_0 := (T1.out.grow B.1).load.1
    have T1_1 := (T1.out.grow B.1).load.2
    have T2_0 := (T2.out.grow B.1).load.1
    have T2_1 := (T2.out.grow B.1).load.2.1
    have T2_2 := (T2.out.grow B.1).load.2.2
    have T3 := Lib.hid B.2
    have T3_0 := B.2.load.1
    have T3_1 := B.2.load.2
    clear B
    go_wp2_with fail
    clear T0_0 T0_1 T1_0 T1_1 T2_0 T2_1 T2_2 T3_0 T3_1
    generalize w2.heap.size = b_T3 at T3 ⊢
    generalize w2.alloc _ = W3 at GB T3 ⊢
    have G := Lib.hid (G.out.trans GB.out)
    have T0 := Lib.hid (T0.out.grow GB.out)
    have T1 := Lib.hid (T1.out.grow GB.out)
    have T2 := Lib.hid (T2.out.grow GB.out)
    have HX := Lib.hid (HX.out.grow GB.out)
    have HY := Lib.hid (HY.out.grow GB.out)
    have HGC := Lib.hid (HGC.out.grow GB.out)
    refine (v_Quo W3 _ _ z (Nat.gcd z.natAbs q : Nat) (mkRat z q).num L M HX.out HGC.out (by have := Nat.gcd_pos_of_pos_right z.natAbs (show 0 < q by have := Hq.out; omega); omega) (quo_low z q Hq.out) HL.out HM.out).mono ?_
    rintro _ w4 ⟨_, rfl, g4, x4, y4, rfl, hx4, hy4⟩
    have G := Lib.hid (G.out.trans g4)
    have T0 := Lib.hid (T0.out.grow g4)
    have T1 := Lib.hid (T1.out.grow g4)
    have T2 := Lib.hid (T2.out.grow g4)
    have T3 := Lib.hid (T3.out.grow g4)
    have HX := Lib.hid (HX.out.grow g4)
    have HY := Lib.hid (HY.out.grow g4)
    have HGC := Lib.hid (HGC.out.grow g4)
    clear g4
    have HN := Lib.hid hx4
    clear hx4
    obtain ⟨p4, k4, c4, rfl⟩ := HN.out.agg
    obtain ⟨p5, k5, c5, rfl⟩ := hy4.agg
    clear hy4
    generalize hs4 : decide ((mkRat z q).num < 0) = s4 at HN ⊢
    generalize decide (z - (mkRat z q).num * (Nat.gcd z.natAbs q : Nat) < 0) = s5
    have B := box22 w4 (.bool s4) (.slice p4 k4 c4) (.bool s5) (.slice p5 k5 c5) 25 25
    have GB := Lib.hid B.1
    have T0_0 := (T0.out.grow B.1).load.1
    have T0_1 := (T0.out.grow B.1).load.2
    have T1_0 := (T1.out.grow B.1).load.1
    have T1_1 := (T1.out.grow B.1).load.2
    have T2_0 := (T2.out.grow B.1).load.1
    have T2_1 := (T2.out.grow B.1).load.2.1
    have T2_2 := (T2.out.grow B.1).load.2.2
    have T3_0 := (T3.out.grow B.1).load.1
    have T3_1 := (T3.out.grow B.1).load.2
    have T4 := Lib.hid B.2.1
    have T4_0 := B.2.1.load.1
    have T4_1 := B.2.1.load.2
    have T5 := Lib.hid B.2.2
    have T5_0 := B.2.2.load.1
    have T5_1 := B.2.2.load.2
    clear B
    go_wp2_with fail
    clear T0_0 T0_1 T1_0 T1_1 T2_0 T2_1 T2_2 T3_0 T3_1 T4_0 T4_1 T5_0 T5_1
    generalize w4.heap.size + 1 = b_T5 at T5 ⊢
    generalize w4.heap.size = b_T4 at T4 ⊢
    generalize (w4.alloc _).alloc _ = W4 at GB T4 T5 ⊢
    have G := Lib.hid (G.out.trans GB.out)
    have T0 := Lib.hid (T0.out.grow GB.out)
    have T1 := Lib.hid (T1.out.grow GB.out)
    have T2 := Lib.hid (T2.out.grow GB.out)
    have T3 := Lib.hid (T3.out.grow GB.out)
    have HX := Lib.hid (HX.out.grow GB.out)
    have HY := Lib.hid (HY.out.grow GB.out)
    have HGC := Lib.hid (HGC.out.grow GB.out)
    have HN := Lib.hid (HN.out.grow GB.out)
    refine (v_Quo W4 _ _ (q : Int) (Nat.gcd z.natAbs q : Nat) ((mkRat z q).den : Int) M M HY.out HGC.out (by have := Nat.gcd_pos_of_pos_right z.natAbs (show 0 < q by have := Hq.out; omega); omega) (quo_lowD z q Hq.out) HM.out HM.out).mono ?_
    rintro _ w6 ⟨_, rfl, g6, x6, y6, rfl, hx6, hy6⟩
    have G := Lib.hid (G.out.trans g6)
    have T0 := Lib.hid (T0.out.grow g6)
    have T1 := Lib.hid (T1.out.grow g6)
    have T2 := Lib.hid (T2.out.grow g6)
    have T3 := Lib.hid (T3.out.grow g6)
    have T4 := Lib.hid (T4.out.grow g6)
    have T5 := Lib.hid (T5.out.grow g6)
    have HX := Lib.hid (HX.out.grow g6)
    have HY := Lib.hid (HY.out.grow g6)
    have HGC := Lib.hid (HGC.out.grow g6)
    have HN := Lib.hid (HN.out.grow g6)
    clear g6
    have HDn := Lib.hid hx6
    clear hx6
    obtain ⟨p6, k6, c6, rfl⟩ := HDn.out.agg
    obtain ⟨p7, k7, c7, rfl⟩ := hy6.agg
    clear hy6
    generalize decide (((mkRat z q).den : Int) < 0) = s6 at HDn ⊢
    generalize decide ((q : Int) - ((mkRat z q).den : Int) * (Nat.gcd z.natAbs q : Nat) < 0) = s7
    have HDm := Lib.hid HDn.out.mag
    rw [Int.natAbs_natCast] at HDm
    have B := box22 w6 (.bool s6) (.slice p6 k6 c6) (.bool s7) (.slice p7 k7 c7) 25 25
    have GB := Lib.hid B.1
    have T0_0 := (T0.out.grow B.1).load.1
    have T0_1 := (T0.out.grow B.1).load.2
    have T1_0 := (T1.out.grow B.1).load.1
    have T1_1 := (T1.out.grow B.1).load.2
    have T2_0 := (T2.out.grow B.1).load.1
    have T2_1 := (T2.out.grow B.1).load.2.1
    have T2_2 := (T2.out.grow B.1).load.2.2
    have T3_0 := (T3.out.grow B.1).load.1
    have T3_1 := (T3.out.grow B.1).load.2
    have T4_0 := (T4.out.grow B.1).load.1
    have T4_1 := (T4.out.grow B.1).load.2
    have T5_0 := (T5.out.grow B.1).load.1
    have T5_1 := (T5.out.grow B.1).load.2
    have T6 := Lib.hid B.2.1
    have T6_0 := B.2.1.load.1
    have T6_1 := B.2.1.load.2
    have T7 := Lib.hid B.2.2
    have T7_0 := B.2.2.load.1
    have T7_1 := B.2.2.load.2
    clear B
    go_wp2_with fail
    clear T0_0 T0_1 T1_0 T1_1 T2_0 T2_1 T2_2 T3_0 T3_1 T4_0 T4_1 T5_0 T5_1 T6_0 T6_1 T7_0 T7_1
    generalize w6.heap.size + 1 = b_T7 at T7 ⊢
    generalize w6.heap.size = b_T6 at T6 ⊢
    generalize (w6.alloc _).alloc _ = W6 at GB T6 T7 ⊢
    have G := Lib.hid (G.out.trans GB.out)
    have T0 := Lib.hid (T0.out.grow GB.out)
    have T1 := Lib.hid (T1.out.grow GB.out)
    have T2 := Lib.hid (T2.out.grow GB.out)
    have T3 := Lib.hid (T3.out.grow GB.out)
    have T4 := Lib.hid (T4.out.grow GB.out)
    have T5 := Lib.hid (T5.out.grow GB.out)
    have HX := Lib.hid (HX.out.grow GB.out)
    have HY := Lib.hid (HY.out.grow GB.out)
    have HGC := Lib.hid (HGC.out.grow GB.out)
    have HN := Lib.hid (HN.out.grow GB.out)
    have HDn := Lib.hid (HDn.out.grow GB.out)
    have HDm := Lib.hid (HDm.out.grow GB.out)
    have HDl := Lib.hid (show (digs (mkRat z q).den).length ≤ M from by have h := HY.out.len; rw [Int.natAbs_natCast] at h; exact Nat.le_trans (digs_mono_length (low_le z Hq.out).2) h)
    obtain ⟨cz, hcz⟩ : ∃ cz, cmpZ ((mkRat z q).den : Int) ((1 : Nat) : Int) = cz := ⟨_, rfl⟩
    refine wp_region_fast [(0, true), (1, true), (2, false), (3, false), (4, true)] (by kernel_rfl) (by kernel_rfl) rfl (by kernel_rfl) (fun _ _ d _ _ h => by cases d <;> exact h) ?_
    have T0_0 := T0.out.c0
    have T0_1 := T0.out.c1
    have T1_0 := T1.out.c0
    have T1_1 := T1.out.c1
    have T2_0 := T2.out.c0
    have T2_1 := T2.out.c1
    have T2_2 := T2.out.c2
    have T3_0 := T3.out.c0
    have T3_1 := T3.out.c1
    have T4_0 := T4.out.c0
    have T4_1 := T4.out.c1
    have T5_0 := T5.out.c0
    have T5_1 := T5.out.c1
    have T6_0 := T6.out.c0
    have T6_1 := T6.out.c1
    have T7_0 := T7.out.c0
    have T7_1 := T7.out.c1
    have g0 : Gr W6 W6.drew := (Gr.refl _).drew
    have G := Lib.hid (G.out.trans g0)
    have T0 := Lib.hid (T0.out.grow g0)
    have T1 := Lib.hid (T1.out.grow g0)
    have T2 := Lib.hid (T2.out.grow g0)
    have T3 := Lib.hid (T3.out.grow g0)
    have T4 := Lib.hid (T4.out.grow g0)
    have T5 := Lib.hid (T5.out.grow g0)
    have T6 := Lib.hid (T6.out.grow g0)
    have T7 := Lib.hid (T7.out.grow g0)
    have HX := Lib.hid (HX.out.grow g0)
    have HY := Lib.hid (HY.out.grow g0)
    have HGC := Lib.hid (HGC.out.grow g0)
    have HN := Lib.hid (HN.out.grow g0)
    have HDn := Lib.hid (HDn.out.grow g0)
    have HDm := Lib.hid (HDm.out.grow g0)
    repeat (refine wpE_readB (v := ?_) g0 rfl rfl (fun w' hg => ?_) (fun K hK => ?_); rotate_left; (go_simp; rfl); go_simp; refine hK _ _ ?_; clear hK K)
    refine wpE_fn (args := ?_) rfl rfl rfl rfl rfl rfl (by kernel_rfl) (by kernel_rfl) ?_ (fun K hK => ?_)
    rotate_left
    · go_simp; rfl
    refine (nat_From _ 1 (by decide)).mono ?_
    rintro _ w8 ⟨r8, rfl, g8, h8⟩
    refine ⟨_, rfl, g8, ?_⟩
    go_simp
    refine hK _ _ ?_
    clear hK K
    have G := Lib.hid (G.out.trans g8)
    have T0 := Lib.hid (T0.out.grow g8)
    have T1 := Lib.hid (T1.out.grow g8)
    have T2 := Lib.hid (T2.out.grow g8)
    have T3 := Lib.hid (T3.out.grow g8)
    have T4 := Lib.hid (T4.out.grow g8)
    have T5 := Lib.hid (T5.out.grow g8)
    have T6 := Lib.hid (T6.out.grow g8)
    have T7 := Lib.hid (T7.out.grow g8)
    have HX := Lib.hid (HX.out.grow g8)
    have HY := Lib.hid (HY.out.grow g8)
    have HGC := Lib.hid (HGC.out.grow g8)
    have HN := Lib.hid (HN.out.grow g8)
    have HDn := Lib.hid (HDn.out.grow g8)
    have HDm := Lib.hid (HDm.out.grow g8)
    replace g0 := g0.trans g8
    clear g8
    have H8 := Lib.hid h8
    clear h8
    refine wpE_fn (args := ?_) rfl rfl rfl rfl rfl rfl (by kernel_rfl) (by kernel_rfl) ?_ (fun K hK => ?_)
    rotate_left
    · go_simp; rfl
    refine (n_Cmp _ _ _ (mkRat z q).den 1 M 1 cz ⟨_, HDm.out, nval_digs _, HDl.out⟩ ⟨_, H8.out, nval_digs _, by decide +kernel⟩ hcz HM.out (by decide)).mono ?_
    rintro _ w9 ⟨_, rfl, g9, rfl⟩
    refine ⟨_, rfl, g9, ?_⟩
    go_simp
    refine hK _ _ ?_
    clear hK K
    have G := Lib.hid (G.out.trans g9)
    have T0 := Lib.hid (T0.out.grow g9)
    have T1 := Lib.hid (T1.out.grow g9)
    have T2 := Lib.hid (T2.out.grow g9)
    have T3 := Lib.hid (T3.out.grow g9)
    have T4 := Lib.hid (T4.out.grow g9)
    have T5 := Lib.hid (T5.out.grow g9)
    have T6 := Lib.hid (T6.out.grow g9)
    have T7 := Lib.hid (T7.out.grow g9)
    have HX := Lib.hid (HX.out.grow g9)
    have HY := Lib.hid (HY.out.grow g9)
    have HGC := Lib.hid (HGC.out.grow g9)
    have HN := Lib.hid (HN.out.grow g9)
    have HDn := Lib.hid (HDn.out.grow g9)
    have HDm := Lib.hid (HDm.out.grow g9)
    have H8 := Lib.hid (H8.out.grow g9)
    replace g0 := g0.trans g9
    clear g9
    repeat (refine wpE_readB (v := ?_) g0 rfl rfl (fun w' hg => ?_) (fun K hK => ?_); rotate_left; (go_simp; rfl); go_simp; refine hK _ _ ?_; clear hK K)
    refine wpE_nil ?_
    clear g0
    clear T0_0 T0_1 T1_0 T1_1 T2_0 T2_1 T2_2 T3_0 T3_1 T4_0 T4_1 T5_0 T5_1 T6_0 T6_1 T7_0 T7_1
    by_cases h1 : (mkRat z q).den = 1
    · have hc0 : cz = 0 := by rw [← hcz]; exact (cmpZ_one _).2 h1
      have HV := Lib.hid (RatC.mk HN.out (show NatL _ (.slice none 0 0) (dd (mkRat z q).den) by rw [h1]; exact NatL.nil _))
      subst hc0
      clear hcz h1
      have T2_0 := T2.out.load.1
      have T2_f0 := T2.out.f0 0
      have T2_1 := T2.out.load.2.1
      have T2_f1 := T2.out.f0 1
      have T2_2 := T2.out.load.2.2
      have T2_f2 := T2.out.f0 2
      have T4_0 := T4.out.load.1
      have T4_f0 := T4.out.f0 0
      have T4_1 := T4.out.load.2
      have T4_f1 := T4.out.f0 1
      go_wp2_with fail
      clear T2_0 T2_f0 T2_1 T2_f1 T2_2 T2_f2 T4_0 T4_f0 T4_1 T4_f1
      have hu := upd3 w9 b2 (.bool s4) (.slice p4 k4 c4) (.slice none 0 0)
      have HV := Lib.hid (HV.out.upd T2.out.noInt hu)
      have T0 := Lib.hid (T0.out.upd hu Hd02.out)
      have T1 := Lib.hid (T1.out.upd hu Hd12.out)
      have T2 := Lib.hid (T2.out.set (.bool s4) (.slice p4 k4 c4) (.slice none 0 0))
      have G := Lib.hid (G.out.three Hb2.out (.bool s4) (.slice p4 k4 c4) (.slice none 0 0))
      clear hu
      generalize ((w9.setCell _ _).setCell _ _).setCell _ _ = W9 at G T0 T1 T2 HV ⊢
      have T2_0 := T2.out.load.1
      have T2_1 := T2.out.load.2.1
      have T2_2 := T2.out.load.2.2
      refine bodyPost_ret (by simp [results, Tryz.results74, go_sem, T2_0, T2_1, T2_2]; rfl) rfl ?_
      exact ⟨_, rfl, G.out, by rw [HR.out]; exact HV.out⟩
    · have hc0 : ¬ cz = 0 := by rw [← hcz]; exact fun h => h1 ((cmpZ_one _).1 h)
      have HV := Lib.hid (RatC.mk HN.out (show NatL _ (.slice p6 k6 c6) (dd (mkRat z q).den) by unfold dd; rw [if_neg h1]; exact HDm.out))
      clear hcz h1
      have T2_0 := T2.out.load.1
      have T2_f0 := T2.out.f0 0
      have T2_1 := T2.out.load.2.1
      have T2_f1 := T2.out.f0 1
      have T2_2 := T2.out.load.2.2
      have T2_f2 := T2.out.f0 2
      have T4_0 := T4.out.load.1
      have T4_f0 := T4.out.f0 0
      have T4_1 := T4.out.load.2
      have T4_f1 := T4.out.f0 1
      have T6_0 := T6.out.load.1
      have T6_f0 := T6.out.f0 0
      have T6_1 := T6.out.load.2
      have T6_f1 := T6.out.f0 1
      go_wp2_with fail
      clear T2_0 T2_f0 T2_1 T2_f1 T2_2 T2_f2 T4_0 T4_f0 T4_1 T4_f1 T6_0 T6_f0 T6_1 T6_f1
      have hu := upd3 w9 b2 (.bool s4) (.slice p4 k4 c4) (.slice p6 k6 c6)
      have HV := Lib.hid (HV.out.upd T2.out.noInt hu)
      have T0 := Lib.hid (T0.out.upd hu Hd02.out)
      have T1 := Lib.hid (T1.out.upd hu Hd12.out)
      have T2 := Lib.hid (T2.out.set (.bool s4) (.slice p4 k4 c4) (.slice p6 k6 c6))
      have G := Lib.hid (G.out.three Hb2.out (.bool s4) (.slice p4 k4 c4) (.slice p6 k6 c6))
      clear hu
      generalize ((w9.setCell _ _).setCell _ _).setCell _ _ = W9 at G T0 T1 T2 HV ⊢
      have T2_0 := T2.out.load.1
      have T2_1 := T2.out.load.2.1
      have T2_2 := T2.out.load.2.2
      refine bodyPost_ret (by simp [results, Tryz.results74, go_sem, T2_0, T2_1, T2_2]; rfl) rfl ?_
      exact ⟨_, rfl, G.out, by rw [HR.out]; exact HV.out⟩
end Go.Proofs.YtmcgkglmlfbijaaGreatDoor

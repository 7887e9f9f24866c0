/-
  exodusref01.Gcd; exodusref03.den, build.
-/
import Derived.Test.YtmcgkglmlfbijaaGreatDoorRatH
namespace Go.Proofs.YtmcgkglmlfbijaaGreatDoor
open Go.RowKit Go.Lib
set_option linter.unusedVariables false
set_option linter.unusedSimpArgs false

set_option maxRecDepth 100000 in
set_option maxHeartbeats 3200000 in
theorem ref_Gcd (w : World) (va vb : Value) (la lb : List Nat) (x y : Nat) (ha : NatL w va la) (hb : NatL w vb lb) (hx : nval la = x) (hy : nval lb = y) (hla : la.length ≤ 900000) (hlb : lb.length ≤ 900000) :
    Calls Tryz.prog 108 #[va, vb] w (Ret w fun r w' => NatL w' r (digs (Nat.gcd x y))) := by
  have HA := Lib.hid ha
  have HB := Lib.hid hb
  have HX := Lib.hid hx
  have HY := Lib.hid hy
  have HLx := Lib.hid (show (digs x).length ≤ 900000 by rw [← hx]; exact Nat.le_trans (digs_nval_len ha.dig) hla)
  have HLy := Lib.hid (show (digs y).length ≤ 900000 by rw [← hy]; exact Nat.le_trans (digs_nval_len hb.dig) hlb)
  clear ha hb hx hy
  go_enter Tryz.func108, Tryz.ntmps108
  go_wp2_with fail
  refine (ref_Trim w va la HA.out (by omega)).mono ?_
  rintro _ w1 ⟨v1, rfl, g1, h1⟩
  rw [digs_trimL, HX.out] at h1
  have H1 := Lib.hid h1
  have G1 := Lib.hid g1
  clear h1 g1
  go_wp2_with fail
  refine (ref_Trim w1 vb lb (HB.out.grow G1.out) (by omega)).mono ?_
  rintro _ w2 ⟨v2, rfl, g2, h2⟩
  rw [digs_trimL, HY.out] at h2
  have H2 := Lib.hid h2
  have H1 := Lib.hid (H1.out.grow g2)
  have G2 := Lib.hid (G1.out.trans g2)
  clear h2 g2
  go_wp2_with fail
  go_loopw [0, 1] (fun u v w3 => ∃ a b : Nat, NatL w3 u (digs a) ∧ NatL w3 v (digs b) ∧ (digs a).length ≤ 900000 ∧ (digs b).length ≤ 900000 ∧ Nat.gcd a b = Nat.gcd x y ∧ Gr w2 w3) (fun _ v w3 => readN w3 v)
  case atStart => exact ⟨x, y, H1.out, H2.out, HLx.out, HLy.out, rfl, Gr.refl _⟩
  case round =>
    obtain ⟨a, b, ha, hb, hal, hbl, hg, hgr⟩ := hrel
    have hrd := Lib.hid (readN_eq hb)
    have HA := Lib.hid ha
    have HB := Lib.hid hb
    have Hg := Lib.hid hg
    have Hgr := Lib.hid hgr
    obtain ⟨pa, ka, ca, rfl, hka⟩ := ha.slice
    obtain ⟨pb, kb, cb, rfl, hkb⟩ := hb.slice
    have Hkb := Lib.hid hkb
    have kb1 : kb ≤ 900000 := by rw [hkb]; exact hbl
    have HAl := Lib.hid hal
    have HBl := Lib.hid hbl
    clear ha hb hg hgr hka hkb hal hbl
    by_cases h0 : b = 0
    · obtain rfl : kb = 0 := by rw [Hkb.out, h0]; simp [digs_eq_nil.2]
      subst h0
      go_wp2_with fail
      go_ret
      refine ⟨_, rfl, G2.out.trans Hgr.out, ?_⟩
      rw [← Hg.out, Nat.gcd_zero_right]
      exact HA.out
    · have hk0 : 0 < kb := by rw [Hkb.out]; exact List.length_pos_iff.2 (fun e => h0 (digs_eq_nil.1 e))
      have Hdm := Lib.hid (ref_DivMod _ _ _ (digs a) (digs b) HA.out HB.out (Nat.le_trans HAl.out (by decide)) (Nat.le_trans HBl.out (by decide)) (by rw [nval_digs]; omega))
      have Hmod := Lib.hid (Nat.mod_lt a (show 0 < b by omega))
      have Hfin := Lib.hid (show ∀ (w4 : World) (q r : Value), NatL w4 r (digs (a % b)) → Gr wr w4 → (∃ a' b' : Nat, NatL w4 (.slice pb kb cb) (digs a') ∧ NatL w4 r (digs b') ∧ (digs a').length ≤ 900000 ∧ (digs b').length ≤ 900000 ∧ Nat.gcd a' b' = Nat.gcd x y ∧ Gr w2 w4) ∧ readN w4 r < readN wr (.slice pb kb cb) from fun w4 q r hr hg4 => by
        refine ⟨⟨b, a % b, HB.out.grow hg4, hr, HBl.out, Nat.le_trans (digs_mono_len (Nat.le_of_lt Hmod.out)) HBl.out, by rw [gcd_round]; exact Hg.out, Hgr.out.trans hg4⟩, ?_⟩
        rw [readN_eq hr, hrd.out, nval_digs, nval_digs]
        exact Hmod.out)
      go_wp2_with fail
      refine Hdm.out.mono ?_
      rintro _ w4 ⟨_, rfl, g4, q, r, rfl, hq, hr⟩
      rw [nval_digs, nval_digs] at hr
      have F := Lib.hid (Hfin.out w4 q r hr g4)
      clear hq hr g4
      go_wp2_with fail
      exact F.out

theorem natOne (w : World) : Gr w (w.alloc (.cells #[.int .u32 1] 64)) ∧ NatL (w.alloc (.cells #[.int .u32 1] 64)) (.slice (some ⟨w.heap.size, 0, none⟩) 1 1) (digs 1) :=
  ⟨(Gr.refl w).alloc _, by rw [show digs 1 = [1] from digs_one1 (by rw [BB_eq]; decide) (by decide)]; exact NatL.one w 1 1 rfl (by rw [BB_eq]; decide) _⟩

theorem denV_digs (d : List Nat) : (trimL d = [] → denV d = 1) ∧ (trimL d ≠ [] → denV d = nval d) := by
  have e : digs (nval d) = trimL d := (digs_trimL d).symm
  unfold denV
  constructor
  · intro h; rw [h, digs_eq_nil] at e; rw [if_pos e]
  · intro h; rw [if_neg]; intro h2; rw [h2, digs_zero] at e; exact h e.symm

set_option maxRecDepth 100000 in
set_option maxHeartbeats 1600000 in
theorem d_den (w : World) (va : Value) (z : Int) (q L : Nat) (ha : RatP w va z q L) (hL : L ≤ 100000) :
    Calls Tryz.prog 77 #[va] w (Ret w fun r w' => NatL w' r (digs q)) := by
  obtain ⟨s0, p0, k0, c0, e0, m0, n0, rfl⟩ := ha.agg
  obtain ⟨d, hd, rfl, hdl⟩ := ha.den
  have HD := Lib.hid hd
  have HV := Lib.hid (denV_digs d)
  clear ha hd
  have B := box3 w (.bool s0) (.slice p0 k0 c0) (.slice e0 m0 n0) 27
  go_enter Tryz.func77, Tryz.ntmps77
  go_wp2_with fail
  generalize w.alloc _ = W at B ⊢
  obtain ⟨G0, t0⟩ := B
  generalize hb0 : w.heap.size = b0 at t0  ⊢
  have Hb0 := Lib.hid (show ¬ b0 < w.heap.size by omega)
  have G := Lib.hid G0
  have T0 := Lib.hid t0
  clear hb0 G0 t0
  have HD := Lib.hid (HD.out.grow G.out)
  refine (ref_Trim W _ d HD.out (by omega)).mono ?_
  rintro _ w1 ⟨r1, rfl, g1, h1⟩
  have G := Lib.hid (G.out.trans g1)
  have T0 := Lib.hid (T0.out.grow g1)
  have HD := Lib.hid (HD.out.grow g1)
  clear g1
  have H1 := Lib.hid h1
  clear h1
  obtain ⟨p1, k1, c1, rfl, hk1⟩ := H1.out.slice
  by_cases h0 : trimL d = []
  · have hk : k1 = 0 := by rw [hk1, h0]; rfl
    subst hk
    have HV2 := Lib.hid (HV.out.1 h0)
    have B := natOne w1
    clear h0 hk1
    go_wp2_with fail
    go_ret
    refine ⟨_, rfl, G.out.trans B.1, ?_⟩
    rw [HV2.out]
    exact B.2
  · have hk : ¬ (k1 : Int) = 0 := by
      have : trimL d ≠ [] := h0
      have := List.length_pos_iff.2 this
      omega
    have HV2 := Lib.hid (show NatL w1 (.slice p1 k1 c1) (digs (denV d)) by rw [HV.out.2 h0, ← digs_trimL]; exact H1.out)
    clear h0 hk1
    go_wp2_with fail
    go_ret
    exact ⟨_, rfl, G.out, HV2.out⟩

theorem NatV.upd {w w' : World} {v : Value} {x L b : Nat} (h : NatV w v x L) (hb : NoInt w b) (hu : Upd b w w') : NatV w' v x L := by
  obtain ⟨l, h1, h2⟩ := h; exact ⟨l, h1.upd hb hu, h2⟩
theorem low_val (z : Int) {q : Nat} (hq : q ≠ 0) : zval (decide (z < 0)) (digs (z.natAbs / Nat.gcd z.natAbs q)) = (mkRat z q).num := by
  rw [← low_natAbs z q hq, show decide (z < 0) = decide ((mkRat z q).num < 0) from decide_eq_decide.2 (low_neg z q hq).symm]
  exact zval_digsR _

set_option maxRecDepth 100000 in
set_option maxHeartbeats 3200000 in
theorem d_build (w : World) (va vb : Value) (z : Int) (q L M : Nat) (ha : IntV w va z L) (hb : NatV w vb q M) (hq : q ≠ 0) (hL : L ≤ 100000) (hM : M ≤ 100000) :
    Calls Tryz.prog 78 #[va, vb] w (Ret w fun r w' => RatC w' r (mkRat z q)) := by
  have HA := Lib.hid ha
  have HB := Lib.hid hb
  obtain ⟨s0, p0, k0, c0, rfl⟩ := ha.agg
  clear ha hb
  have B := box23 w (.bool s0) (.slice p0 k0 c0) (.bool false) (.slice none 0 0) (.slice none 0 0) 25 27
  have Hb1 := Lib.hid (show ¬ w.heap.size + 1 < w.heap.size by omega)
  have Hd01 := Lib.hid (show w.heap.size ≠ w.heap.size + 1 by omega)
  go_enter Tryz.func78, Tryz.ntmps78
  go_wp2_with fail
  generalize (w.alloc _).alloc _ = W at B ⊢
  obtain ⟨G0, t0, t1⟩ := B
  generalize w.heap.size + 1 = b1 at t1 Hb1 Hd01 ⊢
  generalize hb0 : w.heap.size = b0 at t0 Hd01 ⊢
  have Hb0 := Lib.hid (show ¬ b0 < w.heap.size by omega)
  have G := Lib.hid G0
  have T0 := Lib.hid t0
  have T1 := Lib.hid t1
  clear hb0 G0 t0 t1
  have HA := Lib.hid (HA.out.grow G.out)
  have HB := Lib.hid (HB.out.grow G.out)
  refine (e_Fix W _ z L HA.out (by omega)).mono ?_
  rintro _ w1 ⟨r1, rfl, g1, h1⟩
  have G := Lib.hid (G.out.trans g1)
  have T0 := Lib.hid (T0.out.grow g1)
  have T1 := Lib.hid (T1.out.grow g1)
  have HA := Lib.hid (HA.out.grow g1)
  have HB := Lib.hid (HB.out.grow g1)
  clear g1
  have HN := Lib.hid h1.1
  have HNV := Lib.hid h1.2
  obtain ⟨p1, k1, c1, rfl⟩ := HN.out.agg
  obtain ⟨s1, hs1⟩ : ∃ s, decide (z < 0) = s := ⟨_, rfl⟩
  rw [hs1] at HN HNV ⊢
  have Hs1 := Lib.hid hs1
  have HNM := Lib.hid HN.out.mag
  clear h1 hs1
  have T0_0 := T0.out.load.1
  have T0_f0 := T0.out.f0 0
  have T0_1 := T0.out.load.2
  have T0_f1 := T0.out.f0 1
  go_wp2_with fail
  clear T0_0 T0_f0 T0_1 T0_f1
  have hu := upd2 w1 b0 (.bool s1) (.slice p1 k1 c1)
  have HN := Lib.hid (HN.out.upd T0.out.noInt hu)
  have HNV := Lib.hid (HNV.out.upd T0.out.noInt hu)
  have HNM := Lib.hid (HNM.out.upd T0.out.noInt hu)
  have HB := Lib.hid (HB.out.upd T0.out.noInt hu)
  have T1 := Lib.hid (T1.out.upd hu Hd01.out.symm)
  have T0 := Lib.hid (T0.out.set (.bool s1) (.slice p1 k1 c1))
  have G := Lib.hid (G.out.two Hb0.out (.bool s1) (.slice p1 k1 c1))
  clear hu
  generalize (w1.setCell _ _).setCell _ _ = W1 at G T0 T1 HN HNV HNM HB ⊢
  obtain ⟨dl, hdl, edl, ldl⟩ := HB.out
  have HDL := Lib.hid hdl
  have Hzl := Lib.hid (HNV.out.len)
  have Hg := Lib.hid (show 0 < Nat.gcd z.natAbs q from Nat.gcd_pos_of_pos_right _ (by omega))
  have Hgl := Lib.hid (show (digs (Nat.gcd z.natAbs q)).length ≤ M from gcd_len _ hq (by rw [← edl]; exact Nat.le_trans (digs_nval_length hdl.dig) ldl))
  clear hdl
  refine (ref_Gcd W1 _ _ (digs z.natAbs) dl z.natAbs q HNM.out HDL.out (nval_digs _) edl (Nat.le_trans Hzl.out (by omega)) (by omega)).mono ?_
  rintro _ w2 ⟨r2, rfl, g2, h2⟩
  have G := Lib.hid (G.out.trans g2)
  have T0 := Lib.hid (T0.out.grow g2)
  have T1 := Lib.hid (T1.out.grow g2)
  have HN := Lib.hid (HN.out.grow g2)
  have HNV := Lib.hid (HNV.out.grow g2)
  have HNM := Lib.hid (HNM.out.grow g2)
  have HB := Lib.hid (HB.out.grow g2)
  have HDL := Lib.hid (HDL.out.grow g2)
  clear g2
  have H2 := Lib.hid h2
  clear h2
  generalize hge : Nat.gcd z.natAbs q = gg at H2 Hg Hgl
  have Hge := Lib.hid hge
  clear hge
  have T0_0 := T0.out.load.1
  have T0_1 := T0.out.load.2
  go_wp2_with fail
  refine (ref_DivMod w2 _ _ (digs z.natAbs) (digs gg) HNM.out H2.out (Nat.le_trans Hzl.out (by omega)) (Nat.le_trans Hgl.out (by omega)) (by rw [nval_digs]; exact Hg.out)).mono ?_
  rintro _ w3 ⟨_, rfl, g3, x3, y3, rfl, hx3, hy3⟩
  rw [nval_digs, nval_digs] at hx3
  clear T0_0 T0_1
  have G := Lib.hid (G.out.trans g3)
  have T0 := Lib.hid (T0.out.grow g3)
  have T1 := Lib.hid (T1.out.grow g3)
  have HN := Lib.hid (HN.out.grow g3)
  have HNV := Lib.hid (HNV.out.grow g3)
  have HNM := Lib.hid (HNM.out.grow g3)
  have HB := Lib.hid (HB.out.grow g3)
  have HDL := Lib.hid (HDL.out.grow g3)
  have H2 := Lib.hid (H2.out.grow g3)
  clear g3
  have H3 := Lib.hid hx3
  clear hx3
  clear hy3
  go_wp2_with fail
  refine (ref_DivMod w3 _ _ dl (digs gg) HDL.out H2.out (by omega) (Nat.le_trans Hgl.out (by omega)) (by rw [nval_digs]; exact Hg.out)).mono ?_
  rintro _ w4 ⟨_, rfl, g4, x4, y4, rfl, hx4, hy4⟩
  rw [nval_digs, edl] at hx4
  have G := Lib.hid (G.out.trans g4)
  have T0 := Lib.hid (T0.out.grow g4)
  have T1 := Lib.hid (T1.out.grow g4)
  have HN := Lib.hid (HN.out.grow g4)
  have HNV := Lib.hid (HNV.out.grow g4)
  have HNM := Lib.hid (HNM.out.grow g4)
  have HB := Lib.hid (HB.out.grow g4)
  have HDL := Lib.hid (HDL.out.grow g4)
  have H2 := Lib.hid (H2.out.grow g4)
  have H3 := Lib.hid (H3.out.grow g4)
  clear g4
  have H4 := Lib.hid hx4
  clear hx4
  clear hy4
  have B := natOne w4
  go_wp2_with fail
  generalize w4.heap.size = b4 at B ⊢
  generalize w4.alloc _ = W4 at B ⊢
  obtain ⟨g5, hone⟩ := B
  have G := Lib.hid (G.out.trans g5)
  have T0 := Lib.hid (T0.out.grow g5)
  have T1 := Lib.hid (T1.out.grow g5)
  have HN := Lib.hid (HN.out.grow g5)
  have HNV := Lib.hid (HNV.out.grow g5)
  have HNM := Lib.hid (HNM.out.grow g5)
  have HB := Lib.hid (HB.out.grow g5)
  have HDL := Lib.hid (HDL.out.grow g5)
  have H2 := Lib.hid (H2.out.grow g5)
  have H3 := Lib.hid (H3.out.grow g5)
  have H4 := Lib.hid (H4.out.grow g5)
  clear g5
  obtain ⟨t6, ht6⟩ : ∃ t, decide (digs (q / gg) = digs 1) = t := ⟨_, rfl⟩
  refine (ref_Same W4 _ _ _ _ H4.out hone).mono ?_
  rintro _ w6 ⟨_, rfl, g6, rfl⟩
  rw [ht6]
  clear hone
  have G := Lib.hid (G.out.trans g6)
  have T0 := Lib.hid (T0.out.grow g6)
  have T1 := Lib.hid (T1.out.grow g6)
  have HN := Lib.hid (HN.out.grow g6)
  have HNV := Lib.hid (HNV.out.grow g6)
  have HNM := Lib.hid (HNM.out.grow g6)
  have HB := Lib.hid (HB.out.grow g6)
  have HDL := Lib.hid (HDL.out.grow g6)
  have H2 := Lib.hid (H2.out.grow g6)
  have H3 := Lib.hid (H3.out.grow g6)
  have H4 := Lib.hid (H4.out.grow g6)
  clear g6
  obtain ⟨p3, k3, c3, rfl, -⟩ := H3.out.slice
  obtain ⟨p4, k4, c4, rfl, -⟩ := H4.out.slice
  have HI := Lib.hid (show IntV w6 (.agg #[.bool s1, .slice p3 k3 c3]) (mkRat z q).num L from ⟨s1, _, ⟨p3, k3, c3, rfl, H3.out⟩, by rw [← Hs1.out, ← Hge.out, low_val z hq], Nat.le_trans (digs_mono_length (Nat.div_le_self _ _)) Hzl.out⟩)
  have HDN := Lib.hid (show (mkRat z q).den = q / gg by rw [low_den z q hq, Hge.out])
  cases t6
  · have HDD := Lib.hid (show NatL w6 (.slice p4 k4 c4) (dd (mkRat z q).den) by
      have h := of_decide_eq_false ht6
      rw [HDN.out]
      unfold dd
      rw [if_neg (fun e => h (by rw [e]))]
      exact H4.out)
    clear ht6 edl ldl
    have T0_0 := T0.out.load.1
    have T0_1 := T0.out.load.2
    go_wp2_with fail
    refine (e_Fix w6 _ _ L HI.out (by omega)).mono ?_
    rintro _ w7 ⟨r7, rfl, g7, h7⟩
    clear T0_0 T0_1
    have G := Lib.hid (G.out.trans g7)
    have T0 := Lib.hid (T0.out.grow g7)
    have T1 := Lib.hid (T1.out.grow g7)
    have HI := Lib.hid (HI.out.grow g7)
    have HDD := Lib.hid (HDD.out.grow g7)
    clear g7
    have HC := Lib.hid h7.1
    clear h7
    obtain ⟨p7, k7, c7, rfl⟩ := HC.out.agg
    generalize decide ((mkRat z q).num < 0) = s7 at HC ⊢
    have HV := Lib.hid (RatC.mk HC.out HDD.out)
    have T1_0 := T1.out.load.1
    have T1_f0 := T1.out.f0 0
    have T1_1 := T1.out.load.2.1
    have T1_f1 := T1.out.f0 1
    have T1_2 := T1.out.load.2.2
    have T1_f2 := T1.out.f0 2
    go_wp2_with fail
    clear T1_0 T1_f0 T1_1 T1_f1 T1_2 T1_f2
    have hu := upd3 w7 b1 (.bool s7) (.slice p7 k7 c7) (.slice p4 k4 c4)
    have HV := Lib.hid (HV.out.upd T1.out.noInt hu)
    have T0 := Lib.hid (T0.out.upd hu Hd01.out)
    have T1 := Lib.hid (T1.out.set (.bool s7) (.slice p7 k7 c7) (.slice p4 k4 c4))
    have G := Lib.hid (G.out.three Hb1.out (.bool s7) (.slice p7 k7 c7) (.slice p4 k4 c4))
    clear hu
    generalize ((w7.setCell _ _).setCell _ _).setCell _ _ = W7 at G T0 T1 HV ⊢
    have T1_0 := T1.out.load.1
    have T1_1 := T1.out.load.2.1
    have T1_2 := T1.out.load.2.2
    refine bodyPost_ret (by simp [results, Tryz.results78, go_sem, T1_0, T1_1, T1_2]; rfl) rfl ?_
    exact ⟨_, rfl, G.out, HV.out⟩
  · have HDD := Lib.hid (show NatL w6 (.slice none 0 0) (dd (mkRat z q).den) by
      have h := digs_inj (of_decide_eq_true ht6)
      rw [HDN.out, h]
      exact NatL.nil _)
    clear ht6 edl ldl
    have T0_0 := T0.out.load.1
    have T0_1 := T0.out.load.2
    go_wp2_with fail
    refine (e_Fix w6 _ _ L HI.out (by omega)).mono ?_
    rintro _ w7 ⟨r7, rfl, g7, h7⟩
    clear T0_0 T0_1
    have G := Lib.hid (G.out.trans g7)
    have T0 := Lib.hid (T0.out.grow g7)
    have T1 := Lib.hid (T1.out.grow g7)
    have HI := Lib.hid (HI.out.grow g7)
    have HDD := Lib.hid (HDD.out.grow g7)
    clear g7
    have HC := Lib.hid h7.1
    clear h7
    obtain ⟨p7, k7, c7, rfl⟩ := HC.out.agg
    generalize decide ((mkRat z q).num < 0) = s7 at HC ⊢
    have HV := Lib.hid (RatC.mk HC.out HDD.out)
    have T1_0 := T1.out.load.1
    have T1_f0 := T1.out.f0 0
    have T1_1 := T1.out.load.2.1
    have T1_f1 := T1.out.f0 1
    have T1_2 := T1.out.load.2.2
    have T1_f2 := T1.out.f0 2
    go_wp2_with fail
    clear T1_0 T1_f0 T1_1 T1_f1 T1_2 T1_f2
    have hu := upd3 w7 b1 (.bool s7) (.slice p7 k7 c7) (.slice none 0 0)
    have HV := Lib.hid (HV.out.upd T1.out.noInt hu)
    have T0 := Lib.hid (T0.out.upd hu Hd01.out)
    have T1 := Lib.hid (T1.out.set (.bool s7) (.slice p7 k7 c7) (.slice none 0 0))
    have G := Lib.hid (G.out.three Hb1.out (.bool s7) (.slice p7 k7 c7) (.slice none 0 0))
    clear hu
    generalize ((w7.setCell _ _).setCell _ _).setCell _ _ = W7 at G T0 T1 HV ⊢
    have T1_0 := T1.out.load.1
    have T1_1 := T1.out.load.2.1
    have T1_2 := T1.out.load.2.2
    refine bodyPost_ret (by simp [results, Tryz.results78, go_sem, T1_0, T1_1, T1_2]; rfl) rfl ?_
    exact ⟨_, rfl, G.out, HV.out⟩
end Go.Proofs.YtmcgkglmlfbijaaGreatDoor

/-
  exodusref03: Fix, Same, Valid, Neg, Add, Sub, Mul, Sign, Cmp.
-/
import Derived.Test.YtmcgkglmlfbijaaGreatDoorRatI
namespace Go.Proofs.YtmcgkglmlfbijaaGreatDoor
open Go.RowKit Go.Lib
set_option linter.unusedVariables false
set_option linter.unusedSimpArgs false

theorem RatP.dlen {w : World} {v : Value} {z : Int} {q L : Nat} (h : RatP w v z q L) : (digs q).length ≤ L + 1 := by
  obtain ⟨n, l, d, ⟨p, k, c, q', m, e, rfl, h1, h2⟩, h3, rfl, h5, h6⟩ := h
  unfold denV
  split
  · exact Nat.le_trans (by decide +kernel) (Nat.le_add_left 1 _)
  · exact Nat.le_succ_of_le (Nat.le_trans (digs_nval_length h2.dig) h6)
theorem NatL.v {w : World} {v : Value} {x L : Nat} (h : NatL w v (digs x)) (hL : (digs x).length ≤ L) : NatV w v x L := ⟨_, h, nval_digs x, hL⟩
theorem NatL.iv {w : World} {p : Option Addr} {k c x L : Nat} (h : NatL w (.slice p k c) (digs x)) (hL : (digs x).length ≤ L) : IntV w (.agg #[.bool false, .slice p k c]) (x : Int) L := by
  have := IntV.nat h hL
  rwa [nval_digs] at this
theorem ResV.keepBox {w : World} {v : Value} {z : Int} {L b : Nat} {s : Bool} {p : Option Addr} {k c : Nat} (h : ResV w v z L) (t : Two w b (.bool s) (.slice p k c)) (x y : Value) : ResV ((w.setCell ⟨b, 0, none⟩ x).setCell ⟨b, 1, none⟩ y) v z L :=
  ⟨h.1.upd t.noInt (upd2 _ _ _ _), h.2.upd t.noInt (upd2 _ _ _ _)⟩
theorem ResV.upd {w w' : World} {v : Value} {z : Int} {L b : Nat} (h : ResV w v z L) (hb : NoInt w b) (hu : Upd b w w') : ResV w' v z L := ⟨h.1.upd hb hu, h.2.upd hb hu⟩


set_option maxRecDepth 100000 in
set_option maxHeartbeats 1600000 in
theorem d_Fix (w : World) (va : Value) (z : Int) (q L : Nat) (ha : RatP w va z q L) (hL : L ≤ 10000) :
    Calls Tryz.prog 82 #[va] w (Ret w fun r w' => RatC w' r (mkRat z q)) := by
  have HA := Lib.hid ha
  have HN' := ha.agg
  obtain ⟨s0, p0, k0, c0, e0, m0, n0, rfl⟩ := ha.agg
  have HN := Lib.hid ha.num
  have Hq := Lib.hid ha.ne
  have Hd := Lib.hid ha.dlen
  clear ha HN'
  have B := box33 w (.bool s0) (.slice p0 k0 c0) (.slice e0 m0 n0) (.bool false) (.slice none 0 0) (.slice none 0 0) 27 27
  have Hb1 := Lib.hid (show ¬ w.heap.size + 1 < w.heap.size by omega)
  have Hd01 := Lib.hid (show w.heap.size ≠ w.heap.size + 1 by omega)
  go_enter Tryz.func82, Tryz.ntmps82
  go_wp2_with fail
  generalize (w.alloc _).alloc _ = W at B ⊢
  obtain ⟨G0, t0, t1⟩ := B
  generalize w.heap.size + 1 = b1 at t1 Hb1 Hd01 ⊢
  generalize hb0 : w.heap.size = b0 at t0 Hd01 ⊢
  have Hb0 := Lib.hid (show ¬ b0 < w.heap.size by omega)
  have G := Lib.hid G0
  have T0 := Lib.hid t0
  have T1 := Lib.hid t1
  clear hb0 G0 t0 t1
  have HA := Lib.hid (HA.out.grow G.out)
  have HN := Lib.hid (HN.out.grow G.out)
  refine wp_region_fast [(0, true), (1, true), (2, true), (3, false), (4, false), (5, false)] (by kernel_rfl) (by kernel_rfl) rfl (by kernel_rfl) (fun _ _ d _ _ h => by cases d <;> exact h) ?_
  have T0_0 := T0.out.c0
  have T0_1 := T0.out.c1
  have T0_2 := T0.out.c2
  have T1_0 := T1.out.c0
  have T1_1 := T1.out.c1
  have T1_2 := T1.out.c2
  have g0 : Gr W W.drew := (Gr.refl _).drew
  have G := Lib.hid (G.out.trans g0)
  have T0 := Lib.hid (T0.out.grow g0)
  have T1 := Lib.hid (T1.out.grow g0)
  have HA := Lib.hid (HA.out.grow g0)
  have HN := Lib.hid (HN.out.grow g0)
  repeat (refine wpE_readB (v := ?_) g0 rfl rfl (fun w' hg => ?_) (fun K hK => ?_); rotate_left; (go_simp; rfl); go_simp; refine hK _ _ ?_; clear hK K)
  refine wpE_fn (args := ?_) rfl rfl rfl rfl rfl rfl (by kernel_rfl) (by kernel_rfl) ?_ (fun K hK => ?_)
  rotate_left
  · go_simp; rfl
  refine (d_den _ _ z q L HA.out (by omega)).mono ?_
  rintro _ w1 ⟨r1, rfl, g1, h1⟩
  refine ⟨_, rfl, g1, ?_⟩
  go_simp
  refine hK _ _ ?_
  clear hK K
  have G := Lib.hid (G.out.trans g1)
  have T0 := Lib.hid (T0.out.grow g1)
  have T1 := Lib.hid (T1.out.grow g1)
  have HA := Lib.hid (HA.out.grow g1)
  have HN := Lib.hid (HN.out.grow g1)
  replace g0 := g0.trans g1
  clear g1
  have H1 := Lib.hid h1
  clear h1
  refine wpE_fn (args := ?_) rfl rfl rfl rfl rfl rfl (by kernel_rfl) (by kernel_rfl) ?_ (fun K hK => ?_)
  rotate_left
  · go_simp; rfl
  refine (d_build _ _ _ z q L (L + 1) HN.out (H1.out.v Hd.out) Hq.out (by omega) (by omega)).mono ?_
  rintro _ w2 ⟨r2, rfl, g2, h2⟩
  refine ⟨_, rfl, g2, ?_⟩
  go_simp
  refine hK _ _ ?_
  clear hK K
  have G := Lib.hid (G.out.trans g2)
  have T0 := Lib.hid (T0.out.grow g2)
  have T1 := Lib.hid (T1.out.grow g2)
  have HA := Lib.hid (HA.out.grow g2)
  have HN := Lib.hid (HN.out.grow g2)
  have H1 := Lib.hid (H1.out.grow g2)
  replace g0 := g0.trans g2
  clear g2
  have H2 := Lib.hid h2
  clear h2
  obtain ⟨s8, p8, k8, c8, e8, m8, n8, rfl⟩ := H2.out.agg
  clear T1_0 T1_1 T1_2
  have T1_0 := T1.out.load.1
  have T1_f0 := T1.out.f0 0
  have T1_1 := T1.out.load.2.1
  have T1_f1 := T1.out.f0 1
  have T1_2 := T1.out.load.2.2
  have T1_f2 := T1.out.f0 2
  refine wpE_do rfl rfl (fun K hK => ?_)
  go_simp
  refine ⟨fun h => Bool.noConfusion h, hK _ _ ?_⟩
  clear hK K
  clear T0_0 T0_1 T0_2 T1_0 T1_1 T1_2 T1_f0 T1_f1 T1_f2
  have hu := upd3 w2 b1 (.bool s8) (.slice p8 k8 c8) (.slice e8 m8 n8)
  have H2 := Lib.hid (H2.out.upd T1.out.noInt hu)
  have T0 := Lib.hid (T0.out.upd hu Hd01.out)
  have T1 := Lib.hid (T1.out.set (.bool s8) (.slice p8 k8 c8) (.slice e8 m8 n8))
  have G := Lib.hid (G.out.three Hb1.out (.bool s8) (.slice p8 k8 c8) (.slice e8 m8 n8))
  clear hu
  generalize ((w2.setCell _ _).setCell _ _).setCell _ _ = W1 at G T0 T1 H2 ⊢
  refine wpE_nil ?_
  clear g0
  go_wp2_with fail
  have T1_0 := T1.out.load.1
  have T1_1 := T1.out.load.2.1
  have T1_2 := T1.out.load.2.2
  refine bodyPost_ret (by simp [results, Tryz.results82, go_sem, T1_0, T1_1, T1_2]; rfl) rfl ?_
  exact ⟨_, rfl, G.out, H2.out⟩

set_option maxRecDepth 100000 in
set_option maxHeartbeats 1600000 in
theorem d_Same (w : World) (va vb : Value) (n n' : Bool) (l l' d d' : List Nat) (t : Bool) (ha : RatL w va n l d) (hb : RatL w vb n' l' d') (ht : ((n == n' && decide (l = l')) && decide (d = d')) = t) :
    Calls Tryz.prog 21 #[va, vb] w (Ret w fun r w' => r = .bool t) := by
  obtain ⟨p0, k0, c0, e0, m0, n0, rfl, h1, h2⟩ := ha
  obtain ⟨p1, k1, c1, e1, m1, n1, rfl, h3, h4⟩ := hb
  have HA := Lib.hid h1
  have HD := Lib.hid h2
  have HB := Lib.hid h3
  have HE := Lib.hid h4
  clear h1 h2 h3 h4
  obtain ⟨t1, ht1⟩ : ∃ t, (n == n' && decide (l = l')) = t := ⟨_, rfl⟩
  obtain ⟨t2, ht2⟩ : ∃ t, decide (d = d') = t := ⟨_, rfl⟩
  rw [ht1, ht2] at ht
  have B := box33 w (.bool n) (.slice p0 k0 c0) (.slice e0 m0 n0) (.bool n') (.slice p1 k1 c1) (.slice e1 m1 n1) 27 27
  have Hb1 := Lib.hid (show ¬ w.heap.size + 1 < w.heap.size by omega)
  have Hd01 := Lib.hid (show w.heap.size ≠ w.heap.size + 1 by omega)
  go_enter Tryz.func21, Tryz.ntmps21
  go_wp2_with fail
  generalize (w.alloc _).alloc _ = W at B ⊢
  obtain ⟨G0, t0, t1⟩ := B
  generalize w.heap.size + 1 = b1 at t1 Hb1 Hd01 ⊢
  generalize hb0 : w.heap.size = b0 at t0 Hd01 ⊢
  have Hb0 := Lib.hid (show ¬ b0 < w.heap.size by omega)
  have G := Lib.hid G0
  have T0 := Lib.hid t0
  have T1 := Lib.hid t1
  clear hb0 G0 t0 t1
  have HA := Lib.hid (HA.out.grow G.out)
  have HB := Lib.hid (HB.out.grow G.out)
  have HD := Lib.hid (HD.out.grow G.out)
  have HE := Lib.hid (HE.out.grow G.out)
  refine (ref2_Same W _ _ n n' l l' t1 ht1 ⟨_, _, _, rfl, HA.out⟩ ⟨_, _, _, rfl, HB.out⟩).mono ?_
  rintro _ w1 ⟨_, rfl, g1, rfl⟩
  have G := Lib.hid (G.out.trans g1)
  have T0 := Lib.hid (T0.out.grow g1)
  have T1 := Lib.hid (T1.out.grow g1)
  have HA := Lib.hid (HA.out.grow g1)
  have HB := Lib.hid (HB.out.grow g1)
  have HD := Lib.hid (HD.out.grow g1)
  have HE := Lib.hid (HE.out.grow g1)
  clear g1
  cases t1
  · have : t = false := by rw [← ht]; rfl
    subst this
    clear ht ht1 ht2
    go_wp2_with fail
    go_ret
    exact ⟨_, rfl, G.out, rfl⟩
  · have : t2 = t := by rw [← ht]; rfl
    subst this
    clear ht ht1
    have T0_0 := T0.out.load.1
    have T0_1 := T0.out.load.2.1
    have T0_2 := T0.out.load.2.2
    have T1_0 := T1.out.load.1
    have T1_1 := T1.out.load.2.1
    have T1_2 := T1.out.load.2.2
    go_wp2_with fail
    refine (ref_Same w1 _ _ d d' HD.out HE.out).mono ?_
    rintro _ w2 ⟨_, rfl, g2, rfl⟩
    rw [ht2]
    clear T0_0 T0_1 T0_2 T1_0 T1_1 T1_2
    have G := Lib.hid (G.out.trans g2)
    have T0 := Lib.hid (T0.out.grow g2)
    have T1 := Lib.hid (T1.out.grow g2)
    have HA := Lib.hid (HA.out.grow g2)
    have HB := Lib.hid (HB.out.grow g2)
    have HD := Lib.hid (HD.out.grow g2)
    have HE := Lib.hid (HE.out.grow g2)
    clear g2
    cases t2
    all_goals
      go_wp2_with fail
      go_ret
      exact ⟨_, rfl, G.out, rfl⟩

theorem RatC.same {x y : Rat} : ((decide (x.num < 0) == decide (y.num < 0) && decide (digs x.num.natAbs = digs y.num.natAbs)) && decide (dd x.den = dd y.den)) = decide (x = y) := by
  rw [IntC.same]
  by_cases h : x = y
  · subst h; simp
  · rw [decide_eq_false h]
    by_cases h1 : x.num = y.num
    · by_cases h2 : dd x.den = dd y.den
      · exact absurd (Rat.ext h1 (dd_inj x.den_nz y.den_nz h2)) h
      · simp [h2]
    · simp [h1]
theorem d_SameC (w : World) (va vb : Value) (x y : Rat) (t : Bool) (ha : RatC w va x) (hb : RatC w vb y) (ht : decide (x = y) = t) :
    Calls Tryz.prog 21 #[va, vb] w (Ret w fun r w' => r = .bool t) :=
  d_Same w va vb _ _ _ _ _ _ t ha hb (by rw [RatC.same]; exact ht)

theorem trimL_digs (k : Nat) : trimL (digs k) = digs k := by rw [digs_trimL, nval_digs]
theorem canon_valid (n : Bool) (l d : List Nat) (hl : Dig l) (hd : Dig d) :
    ((n == decide ((ratv n l d).num < 0) && decide (l = digs (ratv n l d).num.natAbs)) && decide (d = dd (ratv n l d).den)) = validQ n l d := by
  rw [Bool.eq_iff_iff]
  have hq : denV d ≠ 0 := denV_ne d
  constructor
  · intro h
    simp only [Bool.and_eq_true, beq_iff_eq, decide_eq_true_eq] at h
    obtain ⟨⟨h1, h2⟩, h3⟩ := h
    generalize ratv n l d = x at h1 h2 h3
    unfold validQ
    simp only [Bool.and_eq_true, decide_eq_true_eq, Bool.not_eq_true', Bool.or_eq_true]
    refine ⟨⟨by rw [h2, trimL_digs], ?_⟩, ?_, ?_⟩
    · cases n
      · rfl
      · have h4 : x.num < 0 := of_decide_eq_true h1.symm
        have h5 : l ≠ [] := fun e => by
          rw [h2, digs_eq_nil] at e
          omega
        cases l with
        | nil => exact absurd rfl h5
        | cons _ _ => rfl
    · rw [h3]; unfold dd
      split
      · rw [digs_trimL]; exact digs_zero
      · exact trimL_digs _
    · by_cases h1 : x.den = 1
      · left; rw [h3, h1]; rfl
      · right
        have h4 : nval d = x.den := by rw [h3]; unfold dd; rw [if_neg h1, nval_digs]
        rw [h4, h2, nval_digs]
        have := x.den_nz
        exact ⟨by omega, x.reduced⟩
  · intro h
    unfold validQ at h
    simp only [Bool.and_eq_true, decide_eq_true_eq, Bool.not_eq_true', Bool.or_eq_true] at h
    obtain ⟨⟨h1, h2⟩, h3, h4⟩ := h
    have el : l = digs (nval l) := by rw [← digs_trimL, h1]
    have ed : d = digs (nval d) := by rw [← digs_trimL, h3]
    have hz : (zval n l).natAbs = nval l := zval_natAbs n l
    have hg : Nat.gcd (zval n l).natAbs (denV d) = 1 := by
      rw [hz]
      rcases h4 with h4 | ⟨h4, h5⟩
      · rw [show d = [] from List.isEmpty_iff.1 h4, denV_nil, Nat.gcd_one_right]
      · unfold denV; rw [if_neg (by omega)]; exact h5
    have e1 : (ratv n l d).num = zval n l := by
      unfold ratv; rw [low_num _ _ hq, hg]; simp
    have e2 : (ratv n l d).den = denV d := by
      unfold ratv; rw [low_den _ _ hq, hg]; simp
    rw [e1, e2]
    simp only [Bool.and_eq_true, beq_iff_eq, decide_eq_true_eq]
    refine ⟨⟨?_, by rw [hz]; exact el⟩, ?_⟩
    · have h5 : n = true → nval l ≠ 0 := fun e h6 => by
        rw [h6, digs_zero] at el
        rw [e, el] at h2
        cases h2
      unfold zval
      cases n
      · simp
      · have := h5 rfl
        simp; omega
    · rcases h4 with h4 | ⟨h4, h5⟩
      · rw [show d = [] from List.isEmpty_iff.1 h4]; rfl
      · unfold dd denV
        rw [if_neg (show nval d ≠ 0 by omega), if_neg (by omega)]
        exact ed

set_option maxRecDepth 100000 in
set_option maxHeartbeats 1600000 in
theorem ref_Valid3 (w : World) (va : Value) (n : Bool) (l d : List Nat) (t : Bool) (L : Nat) (ha : RatL w va n l d) (hl : l.length ≤ L) (hd : d.length ≤ L) (hL : L ≤ 1000) (ht : validQ n l d = t) :
    Calls Tryz.prog 40 #[va] w (Ret w fun r w' => r = .bool t) := by
  have HA := Lib.hid ha
  have HP := Lib.hid (show RatP w va (zval n l) (denV d) L from ⟨n, l, d, ha, rfl, rfl, hl, hd⟩)
  obtain ⟨p, k, c, q, m, e, rfl, h1, h2⟩ := ha
  have HT := Lib.hid (show ((n == decide ((mkRat (zval n l) (denV d)).num < 0) && decide (l = digs (mkRat (zval n l) (denV d)).num.natAbs)) && decide (d = dd (mkRat (zval n l) (denV d)).den)) = t by rw [← ht, ← canon_valid n l d h1.dig h2.dig]; rfl)
  clear h1 h2 ht
  have B := box3 w (.bool n) (.slice p k c) (.slice q m e) 27
  go_enter Tryz.func40, Tryz.ntmps40
  go_wp2_with fail
  generalize w.alloc _ = W at B ⊢
  obtain ⟨G0, t0⟩ := B
  generalize hb0 : w.heap.size = b0 at t0  ⊢
  have Hb0 := Lib.hid (show ¬ b0 < w.heap.size by omega)
  have G := Lib.hid G0
  have T0 := Lib.hid t0
  clear hb0 G0 t0
  have HA := Lib.hid (HA.out.grow G.out)
  have HP := Lib.hid (HP.out.grow G.out)
  refine wp_region_fast [(0, true), (1, true), (2, false), (3, false), (4, true)] (by kernel_rfl) (by kernel_rfl) rfl (by kernel_rfl) (fun _ _ d _ _ h => by cases d <;> exact h) ?_
  have T0_0 := T0.out.c0
  have T0_1 := T0.out.c1
  have T0_2 := T0.out.c2
  have g0 : Gr W W.drew := (Gr.refl _).drew
  have G := Lib.hid (G.out.trans g0)
  have T0 := Lib.hid (T0.out.grow g0)
  have HA := Lib.hid (HA.out.grow g0)
  have HP := Lib.hid (HP.out.grow g0)
  repeat (refine wpE_readB (v := ?_) g0 rfl rfl (fun w' hg => ?_) (fun K hK => ?_); rotate_left; (go_simp; rfl); go_simp; refine hK _ _ ?_; clear hK K)
  refine wpE_fn (args := ?_) rfl rfl rfl rfl rfl rfl (by kernel_rfl) (by kernel_rfl) ?_ (fun K hK => ?_)
  rotate_left
  · go_simp; rfl
  refine (d_Fix _ _ _ _ L HP.out (by omega)).mono ?_
  rintro _ w1 ⟨r1, rfl, g1, h1⟩
  refine ⟨_, rfl, g1, ?_⟩
  go_simp
  refine hK _ _ ?_
  clear hK K
  have G := Lib.hid (G.out.trans g1)
  have T0 := Lib.hid (T0.out.grow g1)
  have HA := Lib.hid (HA.out.grow g1)
  have HP := Lib.hid (HP.out.grow g1)
  replace g0 := g0.trans g1
  clear g1
  have H1 := Lib.hid h1
  clear h1
  refine wpE_fn (args := ?_) rfl rfl rfl rfl rfl rfl (by kernel_rfl) (by kernel_rfl) ?_ (fun K hK => ?_)
  rotate_left
  · go_simp; rfl
  refine (d_Same _ _ _ n _ l _ d _ t HA.out H1.out HT.out).mono ?_
  rintro _ w2 ⟨_, rfl, g2, rfl⟩
  refine ⟨_, rfl, g2, ?_⟩
  go_simp
  refine hK _ _ ?_
  clear hK K
  have G := Lib.hid (G.out.trans g2)
  have T0 := Lib.hid (T0.out.grow g2)
  have HA := Lib.hid (HA.out.grow g2)
  have HP := Lib.hid (HP.out.grow g2)
  have H1 := Lib.hid (H1.out.grow g2)
  replace g0 := g0.trans g2
  clear g2
  repeat (refine wpE_readB (v := ?_) g0 rfl rfl (fun w' hg => ?_) (fun K hK => ?_); rotate_left; (go_simp; rfl); go_simp; refine hK _ _ ?_; clear hK K)
  refine wpE_nil ?_
  clear g0
  clear T0_0 T0_1 T0_2
  go_wp2_with fail
  go_ret
  exact ⟨_, rfl, G.out, rfl⟩

set_option maxRecDepth 100000 in
set_option maxHeartbeats 1600000 in
theorem s_Neg (w : World) (va : Value) (x s : Rat) (L : Nat) (ha : RatV w va x L) (hs : - x = s) (hL : L ≤ 10000) :
    Calls Tryz.prog 31 #[va] w (Ret w fun r w' => RatC w' r s) := by
  obtain ⟨z, q, ha2, rfl⟩ := ha.p
  have HA := Lib.hid ha2
  obtain ⟨s0, p0, k0, c0, e0, m0, n0, rfl⟩ := ha2.agg
  have HN := Lib.hid ha2.num
  have Hq := Lib.hid ha2.ne
  have Hd := Lib.hid ha2.dlen
  clear ha ha2
  rw [← mk_neg] at hs
  subst hs
  have B := box33 w (.bool s0) (.slice p0 k0 c0) (.slice e0 m0 n0) (.bool false) (.slice none 0 0) (.slice none 0 0) 27 27
  have Hb1 := Lib.hid (show ¬ w.heap.size + 1 < w.heap.size by omega)
  have Hd01 := Lib.hid (show w.heap.size ≠ w.heap.size + 1 by omega)
  go_enter Tryz.func31, Tryz.ntmps31
  go_wp2_with fail
  generalize (w.alloc _).alloc _ = W at B ⊢
  obtain ⟨G0, t0, t1⟩ := B
  generalize w.heap.size + 1 = b1 at t1 Hb1 Hd01 ⊢
  generalize hb0 : w.heap.size = b0 at t0 Hd01 ⊢
  have Hb0 := Lib.hid (show ¬ b0 < w.heap.size by omega)
  have G := Lib.hid G0
  have T0 := Lib.hid t0
  have T1 := Lib.hid t1
  clear hb0 G0 t0 t1
  have HA := Lib.hid (HA.out.grow G.out)
  have HN := Lib.hid (HN.out.grow G.out)
  refine wp_region_fast [(0, true), (1, true), (3, true), (2, false), (4, false), (5, false), (6, false)] (by kernel_rfl) (by kernel_rfl) rfl (by kernel_rfl) (fun _ _ d _ _ h => by cases d <;> exact h) ?_
  have T0_0 := T0.out.c0
  have T0_1 := T0.out.c1
  have T0_2 := T0.out.c2
  have T1_0 := T1.out.c0
  have T1_1 := T1.out.c1
  have T1_2 := T1.out.c2
  have g0 : Gr W W.drew := (Gr.refl _).drew
  have G := Lib.hid (G.out.trans g0)
  have T0 := Lib.hid (T0.out.grow g0)
  have T1 := Lib.hid (T1.out.grow g0)
  have HA := Lib.hid (HA.out.grow g0)
  have HN := Lib.hid (HN.out.grow g0)
  repeat (refine wpE_readB (v := ?_) g0 rfl rfl (fun w' hg => ?_) (fun K hK => ?_); rotate_left; (go_simp; rfl); go_simp; refine hK _ _ ?_; clear hK K)
  refine wpE_fn (args := ?_) rfl rfl rfl rfl rfl rfl (by kernel_rfl) (by kernel_rfl) ?_ (fun K hK => ?_)
  rotate_left
  · go_simp; rfl
  refine (e_Neg _ _ z _ L HN.out rfl (by omega)).mono ?_
  rintro _ w1 ⟨r1, rfl, g1, h1⟩
  refine ⟨_, rfl, g1, ?_⟩
  go_simp
  refine hK _ _ ?_
  clear hK K
  have G := Lib.hid (G.out.trans g1)
  have T0 := Lib.hid (T0.out.grow g1)
  have T1 := Lib.hid (T1.out.grow g1)
  have HA := Lib.hid (HA.out.grow g1)
  have HN := Lib.hid (HN.out.grow g1)
  replace g0 := g0.trans g1
  clear g1
  have H1 := Lib.hid h1
  clear h1
  refine wpE_fn (args := ?_) rfl rfl rfl rfl rfl rfl (by kernel_rfl) (by kernel_rfl) ?_ (fun K hK => ?_)
  rotate_left
  · go_simp; rfl
  refine (d_den _ _ z q L HA.out (by omega)).mono ?_
  rintro _ w2 ⟨r2, rfl, g2, h2⟩
  refine ⟨_, rfl, g2, ?_⟩
  go_simp
  refine hK _ _ ?_
  clear hK K
  have G := Lib.hid (G.out.trans g2)
  have T0 := Lib.hid (T0.out.grow g2)
  have T1 := Lib.hid (T1.out.grow g2)
  have HA := Lib.hid (HA.out.grow g2)
  have HN := Lib.hid (HN.out.grow g2)
  have H1 := Lib.hid (H1.out.grow g2)
  replace g0 := g0.trans g2
  clear g2
  have H2 := Lib.hid h2
  clear h2
  refine wpE_fn (args := ?_) rfl rfl rfl rfl rfl rfl (by kernel_rfl) (by kernel_rfl) ?_ (fun K hK => ?_)
  rotate_left
  · go_simp; rfl
  refine (d_build _ _ _ (-z) q L (L + 1) H1.out.2 (H2.out.v Hd.out) Hq.out (by omega) (by omega)).mono ?_
  rintro _ w3 ⟨r3, rfl, g3, h3⟩
  refine ⟨_, rfl, g3, ?_⟩
  go_simp
  refine hK _ _ ?_
  clear hK K
  have G := Lib.hid (G.out.trans g3)
  have T0 := Lib.hid (T0.out.grow g3)
  have T1 := Lib.hid (T1.out.grow g3)
  have HA := Lib.hid (HA.out.grow g3)
  have HN := Lib.hid (HN.out.grow g3)
  have H1 := Lib.hid (H1.out.grow g3)
  have H2 := Lib.hid (H2.out.grow g3)
  replace g0 := g0.trans g3
  clear g3
  have H3 := Lib.hid h3
  clear h3
  obtain ⟨s8, p8, k8, c8, e8, m8, n8, rfl⟩ := H3.out.agg
  clear T1_0 T1_1 T1_2
  have T1_0 := T1.out.load.1
  have T1_f0 := T1.out.f0 0
  have T1_1 := T1.out.load.2.1
  have T1_f1 := T1.out.f0 1
  have T1_2 := T1.out.load.2.2
  have T1_f2 := T1.out.f0 2
  refine wpE_do rfl rfl (fun K hK => ?_)
  go_simp
  refine ⟨fun h => Bool.noConfusion h, hK _ _ ?_⟩
  clear hK K
  clear T0_0 T0_1 T0_2 T1_0 T1_1 T1_2 T1_f0 T1_f1 T1_f2
  have hu := upd3 w3 b1 (.bool s8) (.slice p8 k8 c8) (.slice e8 m8 n8)
  have H3 := Lib.hid (H3.out.upd T1.out.noInt hu)
  have T0 := Lib.hid (T0.out.upd hu Hd01.out)
  have T1 := Lib.hid (T1.out.set (.bool s8) (.slice p8 k8 c8) (.slice e8 m8 n8))
  have G := Lib.hid (G.out.three Hb1.out (.bool s8) (.slice p8 k8 c8) (.slice e8 m8 n8))
  clear hu
  generalize ((w3.setCell _ _).setCell _ _).setCell _ _ = W1 at G T0 T1 H3 ⊢
  refine wpE_nil ?_
  clear g0
  go_wp2_with fail
  have T1_0 := T1.out.load.1
  have T1_1 := T1.out.load.2.1
  have T1_2 := T1.out.load.2.2
  refine bodyPost_ret (by simp [results, Tryz.results31, go_sem, T1_0, T1_1, T1_2]; rfl) rfl ?_
  exact ⟨_, rfl, G.out, H3.out⟩

set_option maxRecDepth 100000 in
set_option maxHeartbeats 1600000 in
theorem s_Mul (w : World) (va vb : Value) (x y s : Rat) (L M : Nat) (ha : RatV w va x L) (hb : RatV w vb y M) (hs : x * y = s) (hL : L ≤ 10000) (hM : M ≤ 10000) :
    Calls Tryz.prog 34 #[va, vb] w (Ret w fun r w' => RatC w' r s) := by
  obtain ⟨z, q, ha2, rfl⟩ := ha.p
  obtain ⟨z', q', hb2, rfl⟩ := hb.p
  have HA := Lib.hid ha2
  have HB := Lib.hid hb2
  obtain ⟨s0, p0, k0, c0, e0, m0, n0, rfl⟩ := ha2.agg
  obtain ⟨s1, p1, k1, c1, e1, m1, n1, rfl⟩ := hb2.agg
  have HN := Lib.hid ha2.num
  have HM := Lib.hid hb2.num
  have Hq := Lib.hid (Nat.mul_ne_zero ha2.ne hb2.ne)
  have Hd := Lib.hid ha2.dlen
  have Hd' := Lib.hid hb2.dlen
  clear ha ha2 hb hb2
  rw [mul_mk] at hs
  subst hs
  have B := box333 w (.bool s0) (.slice p0 k0 c0) (.slice e0 m0 n0) (.bool s1) (.slice p1 k1 c1) (.slice e1 m1 n1) (.bool false) (.slice none 0 0) (.slice none 0 0) 27 27 27
  have Hb1 := Lib.hid (show ¬ w.heap.size + 1 < w.heap.size by omega)
  have Hb2 := Lib.hid (show ¬ w.heap.size + 1 + 1 < w.heap.size by omega)
  have Hd01 := Lib.hid (show w.heap.size ≠ w.heap.size + 1 by omega)
  have Hd02 := Lib.hid (show w.heap.size ≠ w.heap.size + 1 + 1 by omega)
  have Hd12 := Lib.hid (show w.heap.size + 1 ≠ w.heap.size + 1 + 1 by omega)
  go_enter Tryz.func34, Tryz.ntmps34
  go_wp2_with fail
  generalize ((w.alloc _).alloc _).alloc _ = W at B ⊢
  obtain ⟨G0, t0, t1, t2⟩ := B
  generalize w.heap.size + 1 + 1 = b2 at t2 Hb2 Hd02 Hd12 ⊢
  generalize w.heap.size + 1 = b1 at t1 Hb1 Hd01 Hd12 ⊢
  generalize hb0 : w.heap.size = b0 at t0 Hd01 Hd02 ⊢
  have Hb0 := Lib.hid (show ¬ b0 < w.heap.size by omega)
  have G := Lib.hid G0
  have T0 := Lib.hid t0
  have T1 := Lib.hid t1
  have T2 := Lib.hid t2
  clear hb0 G0 t0 t1 t2
  have HA := Lib.hid (HA.out.grow G.out)
  have HB := Lib.hid (HB.out.grow G.out)
  have HN := Lib.hid (HN.out.grow G.out)
  have HM := Lib.hid (HM.out.grow G.out)
  refine wp_region_fast [(0, true), (1, true), (2, true), (3, true), (5, true), (7, true), (4, false), (6, false), (8, false), (9, false), (10, false), (11, false)] (by kernel_rfl) (by kernel_rfl) rfl (by kernel_rfl) (fun _ _ d _ _ h => by cases d <;> exact h) ?_
  have T0_0 := T0.out.c0
  have T0_1 := T0.out.c1
  have T0_2 := T0.out.c2
  have T1_0 := T1.out.c0
  have T1_1 := T1.out.c1
  have T1_2 := T1.out.c2
  have T2_0 := T2.out.c0
  have T2_1 := T2.out.c1
  have T2_2 := T2.out.c2
  have g0 : Gr W W.drew := (Gr.refl _).drew
  have G := Lib.hid (G.out.trans g0)
  have T0 := Lib.hid (T0.out.grow g0)
  have T1 := Lib.hid (T1.out.grow g0)
  have T2 := Lib.hid (T2.out.grow g0)
  have HA := Lib.hid (HA.out.grow g0)
  have HB := Lib.hid (HB.out.grow g0)
  have HN := Lib.hid (HN.out.grow g0)
  have HM := Lib.hid (HM.out.grow g0)
  repeat (refine wpE_readB (v := ?_) g0 rfl rfl (fun w' hg => ?_) (fun K hK => ?_); rotate_left; (go_simp; rfl); go_simp; refine hK _ _ ?_; clear hK K)
  refine wpE_fn (args := ?_) rfl rfl rfl rfl rfl rfl (by kernel_rfl) (by kernel_rfl) ?_ (fun K hK => ?_)
  rotate_left
  · go_simp; rfl
  refine (e_Mul _ _ _ z z' _ L M HN.out HM.out rfl (by omega) (by omega)).mono ?_
  rintro _ w1 ⟨r1, rfl, g1, h1⟩
  refine ⟨_, rfl, g1, ?_⟩
  go_simp
  refine hK _ _ ?_
  clear hK K
  have G := Lib.hid (G.out.trans g1)
  have T0 := Lib.hid (T0.out.grow g1)
  have T1 := Lib.hid (T1.out.grow g1)
  have T2 := Lib.hid (T2.out.grow g1)
  have HA := Lib.hid (HA.out.grow g1)
  have HB := Lib.hid (HB.out.grow g1)
  have HN := Lib.hid (HN.out.grow g1)
  have HM := Lib.hid (HM.out.grow g1)
  replace g0 := g0.trans g1
  clear g1
  have H1 := Lib.hid h1
  clear h1
  refine wpE_fn (args := ?_) rfl rfl rfl rfl rfl rfl (by kernel_rfl) (by kernel_rfl) ?_ (fun K hK => ?_)
  rotate_left
  · go_simp; rfl
  refine (d_den _ _ z q L HA.out (by omega)).mono ?_
  rintro _ w2 ⟨r2, rfl, g2, h2⟩
  refine ⟨_, rfl, g2, ?_⟩
  go_simp
  refine hK _ _ ?_
  clear hK K
  have G := Lib.hid (G.out.trans g2)
  have T0 := Lib.hid (T0.out.grow g2)
  have T1 := Lib.hid (T1.out.grow g2)
  have T2 := Lib.hid (T2.out.grow g2)
  have HA := Lib.hid (HA.out.grow g2)
  have HB := Lib.hid (HB.out.grow g2)
  have HN := Lib.hid (HN.out.grow g2)
  have HM := Lib.hid (HM.out.grow g2)
  have H1 := Lib.hid (H1.out.grow g2)
  replace g0 := g0.trans g2
  clear g2
  have H2 := Lib.hid h2
  clear h2
  refine wpE_fn (args := ?_) rfl rfl rfl rfl rfl rfl (by kernel_rfl) (by kernel_rfl) ?_ (fun K hK => ?_)
  rotate_left
  · go_simp; rfl
  refine (d_den _ _ z' q' M HB.out (by omega)).mono ?_
  rintro _ w3 ⟨r3, rfl, g3, h3⟩
  refine ⟨_, rfl, g3, ?_⟩
  go_simp
  refine hK _ _ ?_
  clear hK K
  have G := Lib.hid (G.out.trans g3)
  have T0 := Lib.hid (T0.out.grow g3)
  have T1 := Lib.hid (T1.out.grow g3)
  have T2 := Lib.hid (T2.out.grow g3)
  have HA := Lib.hid (HA.out.grow g3)
  have HB := Lib.hid (HB.out.grow g3)
  have HN := Lib.hid (HN.out.grow g3)
  have HM := Lib.hid (HM.out.grow g3)
  have H1 := Lib.hid (H1.out.grow g3)
  have H2 := Lib.hid (H2.out.grow g3)
  replace g0 := g0.trans g3
  clear g3
  have H3 := Lib.hid h3
  clear h3
  refine wpE_fn (args := ?_) rfl rfl rfl rfl rfl rfl (by kernel_rfl) (by kernel_rfl) ?_ (fun K hK => ?_)
  rotate_left
  · go_simp; rfl
  refine (r_Mul _ _ _ q q' _ (L + 1) (M + 1) (H2.out.v Hd.out) (H3.out.v Hd'.out) rfl (by omega) (by omega)).mono ?_
  rintro _ w4 ⟨r4, rfl, g4, h4⟩
  refine ⟨_, rfl, g4, ?_⟩
  go_simp
  refine hK _ _ ?_
  clear hK K
  have G := Lib.hid (G.out.trans g4)
  have T0 := Lib.hid (T0.out.grow g4)
  have T1 := Lib.hid (T1.out.grow g4)
  have T2 := Lib.hid (T2.out.grow g4)
  have HA := Lib.hid (HA.out.grow g4)
  have HB := Lib.hid (HB.out.grow g4)
  have HN := Lib.hid (HN.out.grow g4)
  have HM := Lib.hid (HM.out.grow g4)
  have H1 := Lib.hid (H1.out.grow g4)
  have H2 := Lib.hid (H2.out.grow g4)
  have H3 := Lib.hid (H3.out.grow g4)
  replace g0 := g0.trans g4
  clear g4
  have H4 := Lib.hid h4
  clear h4
  refine wpE_fn (args := ?_) rfl rfl rfl rfl rfl rfl (by kernel_rfl) (by kernel_rfl) ?_ (fun K hK => ?_)
  rotate_left
  · go_simp; rfl
  refine (d_build _ _ _ (z * z') (q * q') (L + M + 1) (L + 1 + (M + 1) + 1) H1.out.2 H4.out.2 Hq.out (by omega) (by omega)).mono ?_
  rintro _ w5 ⟨r5, rfl, g5, h5⟩
  refine ⟨_, rfl, g5, ?_⟩
  go_simp
  refine hK _ _ ?_
  clear hK K
  have G := Lib.hid (G.out.trans g5)
  have T0 := Lib.hid (T0.out.grow g5)
  have T1 := Lib.hid (T1.out.grow g5)
  have T2 := Lib.hid (T2.out.grow g5)
  have HA := Lib.hid (HA.out.grow g5)
  have HB := Lib.hid (HB.out.grow g5)
  have HN := Lib.hid (HN.out.grow g5)
  have HM := Lib.hid (HM.out.grow g5)
  have H1 := Lib.hid (H1.out.grow g5)
  have H2 := Lib.hid (H2.out.grow g5)
  have H3 := Lib.hid (H3.out.grow g5)
  have H4 := Lib.hid (H4.out.grow g5)
  replace g0 := g0.trans g5
  clear g5
  have H5 := Lib.hid h5
  clear h5
  obtain ⟨s8, p8, k8, c8, e8, m8, n8, rfl⟩ := H5.out.agg
  clear T2_0 T2_1 T2_2
  have T2_0 := T2.out.load.1
  have T2_f0 := T2.out.f0 0
  have T2_1 := T2.out.load.2.1
  have T2_f1 := T2.out.f0 1
  have T2_2 := T2.out.load.2.2
  have T2_f2 := T2.out.f0 2
  refine wpE_do rfl rfl (fun K hK => ?_)
  go_simp
  refine ⟨fun h => Bool.noConfusion h, hK _ _ ?_⟩
  clear hK K
  clear T0_0 T0_1 T0_2 T1_0 T1_1 T1_2 T2_0 T2_1 T2_2 T2_f0 T2_f1 T2_f2
  have hu := upd3 w5 b2 (.bool s8) (.slice p8 k8 c8) (.slice e8 m8 n8)
  have H5 := Lib.hid (H5.out.upd T2.out.noInt hu)
  have T0 := Lib.hid (T0.out.upd hu Hd02.out)
  have T1 := Lib.hid (T1.out.upd hu Hd12.out)
  have T2 := Lib.hid (T2.out.set (.bool s8) (.slice p8 k8 c8) (.slice e8 m8 n8))
  have G := Lib.hid (G.out.three Hb2.out (.bool s8) (.slice p8 k8 c8) (.slice e8 m8 n8))
  clear hu
  generalize ((w5.setCell _ _).setCell _ _).setCell _ _ = W1 at G T0 T1 T2 H5 ⊢
  refine wpE_nil ?_
  clear g0
  go_wp2_with fail
  have T2_0 := T2.out.load.1
  have T2_1 := T2.out.load.2.1
  have T2_2 := T2.out.load.2.2
  refine bodyPost_ret (by simp [results, Tryz.results34, go_sem, T2_0, T2_1, T2_2]; rfl) rfl ?_
  exact ⟨_, rfl, G.out, H5.out⟩

set_option maxRecDepth 100000 in
set_option maxHeartbeats 3200000 in
theorem s_Add (w : World) (va vb : Value) (x y s : Rat) (L M : Nat) (ha : RatV w va x L) (hb : RatV w vb y M) (hs : x + y = s) (hL : L ≤ 10000) (hM : M ≤ 10000) :
    Calls Tryz.prog 32 #[va, vb] w (Ret w fun r w' => RatC w' r s) := by
  obtain ⟨z, q, ha2, rfl⟩ := ha.p
  obtain ⟨z', q', hb2, rfl⟩ := hb.p
  have HA := Lib.hid ha2
  have HB := Lib.hid hb2
  obtain ⟨s0, p0, k0, c0, e0, m0, n0, rfl⟩ := ha2.agg
  obtain ⟨s1, p1, k1, c1, e1, m1, n1, rfl⟩ := hb2.agg
  have HN := Lib.hid ha2.num
  have HM := Lib.hid hb2.num
  have Hq := Lib.hid (Nat.mul_ne_zero ha2.ne hb2.ne)
  have Hd := Lib.hid ha2.dlen
  have Hd' := Lib.hid hb2.dlen
  rw [add_mk _ _ ha2.ne hb2.ne] at hs
  clear ha ha2 hb hb2
  subst hs
  have B := box333 w (.bool s0) (.slice p0 k0 c0) (.slice e0 m0 n0) (.bool s1) (.slice p1 k1 c1) (.slice e1 m1 n1) (.bool false) (.slice none 0 0) (.slice none 0 0) 27 27 27
  have Hb1 := Lib.hid (show ¬ w.heap.size + 1 < w.heap.size by omega)
  have Hb2 := Lib.hid (show ¬ w.heap.size + 1 + 1 < w.heap.size by omega)
  have Hd01 := Lib.hid (show w.heap.size ≠ w.heap.size + 1 by omega)
  have Hd02 := Lib.hid (show w.heap.size ≠ w.heap.size + 1 + 1 by omega)
  have Hd12 := Lib.hid (show w.heap.size + 1 ≠ w.heap.size + 1 + 1 by omega)
  go_enter Tryz.func32, Tryz.ntmps32
  go_wp2_with fail
  generalize ((w.alloc _).alloc _).alloc _ = W at B ⊢
  obtain ⟨G0, t0, t1, t2⟩ := B
  generalize w.heap.size + 1 + 1 = b2 at t2 Hb2 Hd02 Hd12 ⊢
  generalize w.heap.size + 1 = b1 at t1 Hb1 Hd01 Hd12 ⊢
  generalize hb0 : w.heap.size = b0 at t0 Hd01 Hd02 ⊢
  have Hb0 := Lib.hid (show ¬ b0 < w.heap.size by omega)
  have G := Lib.hid G0
  have T0 := Lib.hid t0
  have T1 := Lib.hid t1
  have T2 := Lib.hid t2
  clear hb0 G0 t0 t1 t2
  have HA := Lib.hid (HA.out.grow G.out)
  have HB := Lib.hid (HB.out.grow G.out)
  have HN := Lib.hid (HN.out.grow G.out)
  have HM := Lib.hid (HM.out.grow G.out)
  have g0 : Gr W W.drew := (Gr.refl _).drew
  have T0_0 := T0.out.c0
  have T0_1 := T0.out.c1
  have T0_2 := T0.out.c2
  have T1_0 := T1.out.c0
  have T1_1 := T1.out.c1
  have T1_2 := T1.out.c2
  refine wp_region_late zcI 60 [(0, 1), (1, 1), (2, 1), (3, 0), (4, 1), (5, 0), (6, 2), (7, 0)] (by kernel_rfl) (by kernel_rfl) rfl (by kernel_rfl) (fun _ _ d _ _ h => by cases d <;> exact h) (fun _ _ d _ _ h => by cases d <;> exact h) (by intro i hi; simp at hi; subst hi; exact ⟨_, _, rfl, rfl, rfl, allocI⟩) ?_
  repeat (refine wpF_readB (v := ?_) g0 rfl rfl (fun w' hg => ?_) (fun K hK => ?_); rotate_left; (go_simp; rfl); go_simp; refine hK _ _ ?_; clear hK K)
  refine wpF_do rfl rfl (fun K hK w1 g1 => ?_)
  go_simp
  refine (d_den _ _ z' q' M (HB.out.grow (g0.trans g1)) (by omega)).mono ?_
  rintro _ w2 ⟨r2, rfl, g2, h2⟩
  refine ⟨fun _ => g2, hK _ _ ?_⟩
  clear hK K
  have H2 := Lib.hid h2
  obtain ⟨p2, k2, c2, rfl, -⟩ := h2.slice
  have g2 := (g0.trans g1).trans g2
  clear g1 h2
  repeat (refine wpF_readB (v := ?_) g2 rfl rfl (fun w' hg => ?_) (fun K hK => ?_); rotate_left; (go_simp; rfl); go_simp; refine hK _ _ ?_; clear hK K)
  refine wpF_do rfl rfl (fun K hK w5 g5 => ?_)
  go_simp
  refine (e_Mul _ _ _ z q' _ L (M + 1) (HN.out.grow (g2.trans g5)) ((H2.out.iv Hd'.out).grow g5) rfl (by omega) (by omega)).mono ?_
  rintro _ w6 ⟨qa, rfl, g6, hq⟩
  refine ⟨fun _ => g6, hK _ _ ?_⟩
  clear hK K
  have g7 := g2.trans (g5.trans g6)
  have HQ := Lib.hid hq
  obtain ⟨pa1, ka1, ca1, rfl⟩ := hq.1.agg
  clear g2 g5 g6 hq
  repeat (refine wpF_readB (v := ?_) g7 rfl rfl (fun w' hg => ?_) (fun K hK => ?_); rotate_left; (go_simp; rfl); go_simp; refine hK _ _ ?_; clear hK K)
  obtain ⟨sa, hsa⟩ : ∃ sa, decide (z * (q' : Int) < 0) = sa := ⟨_, rfl⟩
  rw [hsa] at HQ ⊢
  clear hsa
  refine wpF_new rfl rfl (fun K w8 b12 g8 f2 n2 hK => hK _ _ ?_)
  clear hK K
  have T2' := f2.two
  clear f2
  refine wpF_do rfl rfl (fun K hK w10 g10 => ?_)
  have e2 := T2'.grow g10
  have d0 := e2.c0 w10 (Gr.refl _)
  have d1 := e2.c1 w10 (Gr.refl _)
  have d2 := e2.f0 0
  have d3 := e2.f0 1
  go_simp
  refine ⟨fun h => Bool.noConfusion h, hK _ _ ?_⟩
  clear hK K
  have h13 := (g7.trans (g8.trans g10)).two n2 (.bool sa) (.slice pa1 ka1 ca1)
  have TQ := e2.set (.bool sa) (.slice pa1 ka1 ca1)
  have HQ := Lib.hid ((HQ.out.grow (g8.trans g10)).keepBox e2 (.bool sa) (.slice pa1 ka1 ca1))
  clear d0 d1 d2 d3 e2 T2'
  generalize (w10.setCell _ _).setCell _ _ = W2 at h13 TQ HQ ⊢
  repeat (refine wpF_readB (v := ?_) h13 rfl rfl (fun w' hg => ?_) (fun K hK => ?_); rotate_left; (go_simp; rfl); go_simp; refine hK _ _ ?_; clear hK K)
  refine wpF_nil ?_
  have TQ := Lib.hid TQ
  clear n2 g7 g8 g10 g0
  clear T0_0 T0_1 T0_2 T1_0 T1_1 T1_2
  have G := Lib.hid (G.out.trans h13)
  have T0 := Lib.hid (T0.out.grow h13)
  have T1 := Lib.hid (T1.out.grow h13)
  have T2 := Lib.hid (T2.out.grow h13)
  have HA := Lib.hid (HA.out.grow h13)
  have HB := Lib.hid (HB.out.grow h13)
  have HN := Lib.hid (HN.out.grow h13)
  have HM := Lib.hid (HM.out.grow h13)
  clear h13
  go_wp2_with fail
  have g0 : Gr W2 W2.drew := (Gr.refl _).drew
  have T0_0 := T0.out.c0
  have T0_1 := T0.out.c1
  have T0_2 := T0.out.c2
  have T1_0 := T1.out.c0
  have T1_1 := T1.out.c1
  have T1_2 := T1.out.c2
  have TQ_0 := TQ.out.c0
  have TQ_1 := TQ.out.c1
  refine wp_region_late zcI 60 [(0, 1), (1, 1), (2, 1), (3, 0), (4, 1), (5, 0), (6, 2), (7, 0)] (by kernel_rfl) (by kernel_rfl) rfl (by kernel_rfl) (fun _ _ d _ _ h => by cases d <;> exact h) (fun _ _ d _ _ h => by cases d <;> exact h) (by intro i hi; simp at hi; subst hi; exact ⟨_, _, rfl, rfl, rfl, allocI⟩) ?_
  repeat (refine wpF_readB (v := ?_) g0 rfl rfl (fun w' hg => ?_) (fun K hK => ?_); rotate_left; (go_simp; rfl); go_simp; refine hK _ _ ?_; clear hK K)
  refine wpF_do rfl rfl (fun K hK w1 g1 => ?_)
  go_simp
  refine (d_den _ _ z q L (HA.out.grow (g0.trans g1)) (by omega)).mono ?_
  rintro _ w2 ⟨r2, rfl, g2, h2⟩
  refine ⟨fun _ => g2, hK _ _ ?_⟩
  clear hK K
  have H2 := Lib.hid h2
  obtain ⟨p2, k2, c2, rfl, -⟩ := h2.slice
  have g2 := (g0.trans g1).trans g2
  clear g1 h2
  repeat (refine wpF_readB (v := ?_) g2 rfl rfl (fun w' hg => ?_) (fun K hK => ?_); rotate_left; (go_simp; rfl); go_simp; refine hK _ _ ?_; clear hK K)
  refine wpF_do rfl rfl (fun K hK w5 g5 => ?_)
  go_simp
  refine (e_Mul _ _ _ z' q _ M (L + 1) (HM.out.grow (g2.trans g5)) ((H2.out.iv Hd.out).grow g5) rfl (by omega) (by omega)).mono ?_
  rintro _ w6 ⟨qa, rfl, g6, hq⟩
  refine ⟨fun _ => g6, hK _ _ ?_⟩
  clear hK K
  have g7 := g2.trans (g5.trans g6)
  have HS := Lib.hid hq
  obtain ⟨pb1, kb1, cb1, rfl⟩ := hq.1.agg
  clear g2 g5 g6 hq
  repeat (refine wpF_readB (v := ?_) g7 rfl rfl (fun w' hg => ?_) (fun K hK => ?_); rotate_left; (go_simp; rfl); go_simp; refine hK _ _ ?_; clear hK K)
  obtain ⟨sb, hsb⟩ : ∃ sb, decide (z' * (q : Int) < 0) = sb := ⟨_, rfl⟩
  rw [hsb] at HS ⊢
  clear hsb
  refine wpF_new rfl rfl (fun K w8 b13 g8 f2 n2 hK => hK _ _ ?_)
  clear hK K
  have T2' := f2.two
  clear f2
  refine wpF_do rfl rfl (fun K hK w10 g10 => ?_)
  have e2 := T2'.grow g10
  have d0 := e2.c0 w10 (Gr.refl _)
  have d1 := e2.c1 w10 (Gr.refl _)
  have d2 := e2.f0 0
  have d3 := e2.f0 1
  go_simp
  refine ⟨fun h => Bool.noConfusion h, hK _ _ ?_⟩
  clear hK K
  have h13 := (g7.trans (g8.trans g10)).two n2 (.bool sb) (.slice pb1 kb1 cb1)
  have TS := e2.set (.bool sb) (.slice pb1 kb1 cb1)
  have HS := Lib.hid ((HS.out.grow (g8.trans g10)).keepBox e2 (.bool sb) (.slice pb1 kb1 cb1))
  clear d0 d1 d2 d3 e2 T2'
  generalize (w10.setCell _ _).setCell _ _ = W3 at h13 TS HS ⊢
  repeat (refine wpF_readB (v := ?_) h13 rfl rfl (fun w' hg => ?_) (fun K hK => ?_); rotate_left; (go_simp; rfl); go_simp; refine hK _ _ ?_; clear hK K)
  refine wpF_nil ?_
  have TS := Lib.hid TS
  clear n2 g7 g8 g10 g0
  clear T0_0 T0_1 T0_2 T1_0 T1_1 T1_2 TQ_0 TQ_1
  have G := Lib.hid (G.out.trans h13)
  have T0 := Lib.hid (T0.out.grow h13)
  have T1 := Lib.hid (T1.out.grow h13)
  have T2 := Lib.hid (T2.out.grow h13)
  have TQ := Lib.hid (TQ.out.grow h13)
  have HA := Lib.hid (HA.out.grow h13)
  have HB := Lib.hid (HB.out.grow h13)
  have HN := Lib.hid (HN.out.grow h13)
  have HM := Lib.hid (HM.out.grow h13)
  have HQ := Lib.hid (HQ.out.grow h13)
  clear h13
  go_wp2_with fail
  refine wp_region_fast [(0, true), (1, true), (3, true), (5, true), (2, false), (4, false), (6, false), (7, false), (8, false), (9, false)] (by kernel_rfl) (by kernel_rfl) rfl (by kernel_rfl) (fun _ _ d _ _ h => by cases d <;> exact h) ?_
  have T0_0 := T0.out.c0
  have T0_1 := T0.out.c1
  have T0_2 := T0.out.c2
  have T1_0 := T1.out.c0
  have T1_1 := T1.out.c1
  have T1_2 := T1.out.c2
  have T2_0 := T2.out.c0
  have T2_1 := T2.out.c1
  have T2_2 := T2.out.c2
  have TQ_0 := TQ.out.c0
  have TQ_1 := TQ.out.c1
  have TS_0 := TS.out.c0
  have TS_1 := TS.out.c1
  have g0 : Gr W3 W3.drew := (Gr.refl _).drew
  have G := Lib.hid (G.out.trans g0)
  have T0 := Lib.hid (T0.out.grow g0)
  have T1 := Lib.hid (T1.out.grow g0)
  have T2 := Lib.hid (T2.out.grow g0)
  have TQ := Lib.hid (TQ.out.grow g0)
  have TS := Lib.hid (TS.out.grow g0)
  have HA := Lib.hid (HA.out.grow g0)
  have HB := Lib.hid (HB.out.grow g0)
  have HN := Lib.hid (HN.out.grow g0)
  have HM := Lib.hid (HM.out.grow g0)
  have HQ := Lib.hid (HQ.out.grow g0)
  have HS := Lib.hid (HS.out.grow g0)
  repeat (refine wpE_readB (v := ?_) g0 rfl rfl (fun w' hg => ?_) (fun K hK => ?_); rotate_left; (go_simp; rfl); go_simp; refine hK _ _ ?_; clear hK K)
  refine wpE_fn (args := ?_) rfl rfl rfl rfl rfl rfl (by kernel_rfl) (by kernel_rfl) ?_ (fun K hK => ?_)
  rotate_left
  · go_simp; rfl
  refine (e_Add _ _ _ (z * (q' : Int)) (z' * (q : Int)) _ (L + (M + 1) + 1) (M + (L + 1) + 1) HQ.out.2 HS.out.2 rfl (by omega) (by omega)).mono ?_
  rintro _ w1 ⟨r1, rfl, g1, h1⟩
  refine ⟨_, rfl, g1, ?_⟩
  go_simp
  refine hK _ _ ?_
  clear hK K
  have G := Lib.hid (G.out.trans g1)
  have T0 := Lib.hid (T0.out.grow g1)
  have T1 := Lib.hid (T1.out.grow g1)
  have T2 := Lib.hid (T2.out.grow g1)
  have TQ := Lib.hid (TQ.out.grow g1)
  have TS := Lib.hid (TS.out.grow g1)
  have HA := Lib.hid (HA.out.grow g1)
  have HB := Lib.hid (HB.out.grow g1)
  have HN := Lib.hid (HN.out.grow g1)
  have HM := Lib.hid (HM.out.grow g1)
  have HQ := Lib.hid (HQ.out.grow g1)
  have HS := Lib.hid (HS.out.grow g1)
  replace g0 := g0.trans g1
  clear g1
  have H1 := Lib.hid h1
  clear h1
  refine wpE_fn (args := ?_) rfl rfl rfl rfl rfl rfl (by kernel_rfl) (by kernel_rfl) ?_ (fun K hK => ?_)
  rotate_left
  · go_simp; rfl
  refine (d_den _ _ z q L HA.out (by omega)).mono ?_
  rintro _ w2 ⟨r2, rfl, g2, h2⟩
  refine ⟨_, rfl, g2, ?_⟩
  go_simp
  refine hK _ _ ?_
  clear hK K
  have G := Lib.hid (G.out.trans g2)
  have T0 := Lib.hid (T0.out.grow g2)
  have T1 := Lib.hid (T1.out.grow g2)
  have T2 := Lib.hid (T2.out.grow g2)
  have TQ := Lib.hid (TQ.out.grow g2)
  have TS := Lib.hid (TS.out.grow g2)
  have HA := Lib.hid (HA.out.grow g2)
  have HB := Lib.hid (HB.out.grow g2)
  have HN := Lib.hid (HN.out.grow g2)
  have HM := Lib.hid (HM.out.grow g2)
  have HQ := Lib.hid (HQ.out.grow g2)
  have HS := Lib.hid (HS.out.grow g2)
  have H1 := Lib.hid (H1.out.grow g2)
  replace g0 := g0.trans g2
  clear g2
  have H2 := Lib.hid h2
  clear h2
  refine wpE_fn (args := ?_) rfl rfl rfl rfl rfl rfl (by kernel_rfl) (by kernel_rfl) ?_ (fun K hK => ?_)
  rotate_left
  · go_simp; rfl
  refine (d_den _ _ z' q' M HB.out (by omega)).mono ?_
  rintro _ w3 ⟨r3, rfl, g3, h3⟩
  refine ⟨_, rfl, g3, ?_⟩
  go_simp
  refine hK _ _ ?_
  clear hK K
  have G := Lib.hid (G.out.trans g3)
  have T0 := Lib.hid (T0.out.grow g3)
  have T1 := Lib.hid (T1.out.grow g3)
  have T2 := Lib.hid (T2.out.grow g3)
  have TQ := Lib.hid (TQ.out.grow g3)
  have TS := Lib.hid (TS.out.grow g3)
  have HA := Lib.hid (HA.out.grow g3)
  have HB := Lib.hid (HB.out.grow g3)
  have HN := Lib.hid (HN.out.grow g3)
  have HM := Lib.hid (HM.out.grow g3)
  have HQ := Lib.hid (HQ.out.grow g3)
  have HS := Lib.hid (HS.out.grow g3)
  have H1 := Lib.hid (H1.out.grow g3)
  have H2 := Lib.hid (H2.out.grow g3)
  replace g0 := g0.trans g3
  clear g3
  have H3 := Lib.hid h3
  clear h3
  refine wpE_fn (args := ?_) rfl rfl rfl rfl rfl rfl (by kernel_rfl) (by kernel_rfl) ?_ (fun K hK => ?_)
  rotate_left
  · go_simp; rfl
  refine (r_Mul _ _ _ q q' _ (L + 1) (M + 1) (H2.out.v Hd.out) (H3.out.v Hd'.out) rfl (by omega) (by omega)).mono ?_
  rintro _ w4 ⟨r4, rfl, g4, h4⟩
  refine ⟨_, rfl, g4, ?_⟩
  go_simp
  refine hK _ _ ?_
  clear hK K
  have G := Lib.hid (G.out.trans g4)
  have T0 := Lib.hid (T0.out.grow g4)
  have T1 := Lib.hid (T1.out.grow g4)
  have T2 := Lib.hid (T2.out.grow g4)
  have TQ := Lib.hid (TQ.out.grow g4)
  have TS := Lib.hid (TS.out.grow g4)
  have HA := Lib.hid (HA.out.grow g4)
  have HB := Lib.hid (HB.out.grow g4)
  have HN := Lib.hid (HN.out.grow g4)
  have HM := Lib.hid (HM.out.grow g4)
  have HQ := Lib.hid (HQ.out.grow g4)
  have HS := Lib.hid (HS.out.grow g4)
  have H1 := Lib.hid (H1.out.grow g4)
  have H2 := Lib.hid (H2.out.grow g4)
  have H3 := Lib.hid (H3.out.grow g4)
  replace g0 := g0.trans g4
  clear g4
  have H4 := Lib.hid h4
  clear h4
  refine wpE_fn (args := ?_) rfl rfl rfl rfl rfl rfl (by kernel_rfl) (by kernel_rfl) ?_ (fun K hK => ?_)
  rotate_left
  · go_simp; rfl
  refine (d_build _ _ _ _ (q * q') (L + (M + 1) + 1 + (M + (L + 1) + 1) + 1) (L + 1 + (M + 1) + 1) H1.out.2 H4.out.2 Hq.out (by omega) (by omega)).mono ?_
  rintro _ w5 ⟨r5, rfl, g5, h5⟩
  refine ⟨_, rfl, g5, ?_⟩
  go_simp
  refine hK _ _ ?_
  clear hK K
  have G := Lib.hid (G.out.trans g5)
  have T0 := Lib.hid (T0.out.grow g5)
  have T1 := Lib.hid (T1.out.grow g5)
  have T2 := Lib.hid (T2.out.grow g5)
  have TQ := Lib.hid (TQ.out.grow g5)
  have TS := Lib.hid (TS.out.grow g5)
  have HA := Lib.hid (HA.out.grow g5)
  have HB := Lib.hid (HB.out.grow g5)
  have HN := Lib.hid (HN.out.grow g5)
  have HM := Lib.hid (HM.out.grow g5)
  have HQ := Lib.hid (HQ.out.grow g5)
  have HS := Lib.hid (HS.out.grow g5)
  have H1 := Lib.hid (H1.out.grow g5)
  have H2 := Lib.hid (H2.out.grow g5)
  have H3 := Lib.hid (H3.out.grow g5)
  have H4 := Lib.hid (H4.out.grow g5)
  replace g0 := g0.trans g5
  clear g5
  have H5 := Lib.hid h5
  clear h5
  obtain ⟨s8, p8, k8, c8, e8, m8, n8, rfl⟩ := H5.out.agg
  clear T2_0 T2_1 T2_2
  have T2_0 := T2.out.load.1
  have T2_f0 := T2.out.f0 0
  have T2_1 := T2.out.load.2.1
  have T2_f1 := T2.out.f0 1
  have T2_2 := T2.out.load.2.2
  have T2_f2 := T2.out.f0 2
  refine wpE_do rfl rfl (fun K hK => ?_)
  go_simp
  refine ⟨fun h => Bool.noConfusion h, hK _ _ ?_⟩
  clear hK K
  clear T0_0 T0_1 T0_2 T1_0 T1_1 T1_2 T2_0 T2_1 T2_2 TQ_0 TQ_1 TS_0 TS_1 T2_f0 T2_f1 T2_f2
  have hu := upd3 w5 b2 (.bool s8) (.slice p8 k8 c8) (.slice e8 m8 n8)
  have H5 := Lib.hid (H5.out.upd T2.out.noInt hu)
  have T0 := Lib.hid (T0.out.upd hu Hd02.out)
  have T1 := Lib.hid (T1.out.upd hu Hd12.out)
  have T2 := Lib.hid (T2.out.set (.bool s8) (.slice p8 k8 c8) (.slice e8 m8 n8))
  have G := Lib.hid (G.out.three Hb2.out (.bool s8) (.slice p8 k8 c8) (.slice e8 m8 n8))
  clear hu
  generalize ((w5.setCell _ _).setCell _ _).setCell _ _ = W1 at G T0 T1 T2 H5 ⊢
  refine wpE_nil ?_
  clear g0
  go_wp2_with fail
  have T2_0 := T2.out.load.1
  have T2_1 := T2.out.load.2.1
  have T2_2 := T2.out.load.2.2
  refine bodyPost_ret (by simp [results, Tryz.results32, go_sem, T2_0, T2_1, T2_2]; rfl) rfl ?_
  exact ⟨_, rfl, G.out, H5.out⟩

set_option maxRecDepth 100000 in
set_option maxHeartbeats 1600000 in
theorem s_Sub (w : World) (va vb : Value) (x y s : Rat) (L M : Nat) (ha : RatV w va x L) (hb : RatV w vb y M) (hs : x - y = s) (h1 : 1 ≤ M) (hL : L ≤ 10000) (hM : M ≤ 10000) :
    Calls Tryz.prog 33 #[va, vb] w (Ret w fun r w' => RatC w' r s) := by
  have HA := Lib.hid ha
  have HB := Lib.hid hb
  have HZ := Lib.hid (sz_neg (hb.sz h1))
  obtain ⟨s0, p0, k0, c0, e0, m0, n0, rfl⟩ := ha.agg
  obtain ⟨s1, p1, k1, c1, e1, m1, n1, rfl⟩ := hb.agg
  clear ha hb
  have B := box333 w (.bool s0) (.slice p0 k0 c0) (.slice e0 m0 n0) (.bool s1) (.slice p1 k1 c1) (.slice e1 m1 n1) (.bool false) (.slice none 0 0) (.slice none 0 0) 27 27 27
  have Hb1 := Lib.hid (show ¬ w.heap.size + 1 < w.heap.size by omega)
  have Hb2 := Lib.hid (show ¬ w.heap.size + 1 + 1 < w.heap.size by omega)
  have Hd01 := Lib.hid (show w.heap.size ≠ w.heap.size + 1 by omega)
  have Hd02 := Lib.hid (show w.heap.size ≠ w.heap.size + 1 + 1 by omega)
  have Hd12 := Lib.hid (show w.heap.size + 1 ≠ w.heap.size + 1 + 1 by omega)
  go_enter Tryz.func33, Tryz.ntmps33
  go_wp2_with fail
  generalize ((w.alloc _).alloc _).alloc _ = W at B ⊢
  obtain ⟨G0, t0, t1, t2⟩ := B
  generalize w.heap.size + 1 + 1 = b2 at t2 Hb2 Hd02 Hd12 ⊢
  generalize w.heap.size + 1 = b1 at t1 Hb1 Hd01 Hd12 ⊢
  generalize hb0 : w.heap.size = b0 at t0 Hd01 Hd02 ⊢
  have Hb0 := Lib.hid (show ¬ b0 < w.heap.size by omega)
  have G := Lib.hid G0
  have T0 := Lib.hid t0
  have T1 := Lib.hid t1
  have T2 := Lib.hid t2
  clear hb0 G0 t0 t1 t2
  have HA := Lib.hid (HA.out.grow G.out)
  have HB := Lib.hid (HB.out.grow G.out)
  refine wp_region_fast [(0, true), (1, true), (2, false), (3, false), (4, false)] (by kernel_rfl) (by kernel_rfl) rfl (by kernel_rfl) (fun _ _ d _ _ h => by cases d <;> exact h) ?_
  have T0_0 := T0.out.c0
  have T0_1 := T0.out.c1
  have T0_2 := T0.out.c2
  have T1_0 := T1.out.c0
  have T1_1 := T1.out.c1
  have T1_2 := T1.out.c2
  have T2_0 := T2.out.c0
  have T2_1 := T2.out.c1
  have T2_2 := T2.out.c2
  have g0 : Gr W W.drew := (Gr.refl _).drew
  have G := Lib.hid (G.out.trans g0)
  have T0 := Lib.hid (T0.out.grow g0)
  have T1 := Lib.hid (T1.out.grow g0)
  have T2 := Lib.hid (T2.out.grow g0)
  have HA := Lib.hid (HA.out.grow g0)
  have HB := Lib.hid (HB.out.grow g0)
  repeat (refine wpE_readB (v := ?_) g0 rfl rfl (fun w' hg => ?_) (fun K hK => ?_); rotate_left; (go_simp; rfl); go_simp; refine hK _ _ ?_; clear hK K)
  refine wpE_fn (args := ?_) rfl rfl rfl rfl rfl rfl (by kernel_rfl) (by kernel_rfl) ?_ (fun K hK => ?_)
  rotate_left
  · go_simp; rfl
  refine (s_Neg _ _ y _ M HB.out rfl hM).mono ?_
  rintro _ w1 ⟨r1, rfl, g1, h1⟩
  refine ⟨_, rfl, g1, ?_⟩
  go_simp
  refine hK _ _ ?_
  clear hK K
  have G := Lib.hid (G.out.trans g1)
  have T0 := Lib.hid (T0.out.grow g1)
  have T1 := Lib.hid (T1.out.grow g1)
  have T2 := Lib.hid (T2.out.grow g1)
  have HA := Lib.hid (HA.out.grow g1)
  have HB := Lib.hid (HB.out.grow g1)
  replace g0 := g0.trans g1
  clear g1
  have H1 := Lib.hid h1
  clear h1
  refine wpE_fn (args := ?_) rfl rfl rfl rfl rfl rfl (by kernel_rfl) (by kernel_rfl) ?_ (fun K hK => ?_)
  rotate_left
  · go_simp; rfl
  refine (s_Add _ _ _ x (- y) s L M HA.out (H1.out.v HZ.out) (by rw [← hs, Rat.sub_eq_add_neg]) hL hM).mono ?_
  rintro _ w2 ⟨r2, rfl, g2, h2⟩
  refine ⟨_, rfl, g2, ?_⟩
  go_simp
  refine hK _ _ ?_
  clear hK K
  have G := Lib.hid (G.out.trans g2)
  have T0 := Lib.hid (T0.out.grow g2)
  have T1 := Lib.hid (T1.out.grow g2)
  have T2 := Lib.hid (T2.out.grow g2)
  have HA := Lib.hid (HA.out.grow g2)
  have HB := Lib.hid (HB.out.grow g2)
  have H1 := Lib.hid (H1.out.grow g2)
  replace g0 := g0.trans g2
  clear g2
  have H2 := Lib.hid h2
  clear h2
  obtain ⟨s8, p8, k8, c8, e8, m8, n8, rfl⟩ := H2.out.agg
  clear T2_0 T2_1 T2_2
  have T2_0 := T2.out.load.1
  have T2_f0 := T2.out.f0 0
  have T2_1 := T2.out.load.2.1
  have T2_f1 := T2.out.f0 1
  have T2_2 := T2.out.load.2.2
  have T2_f2 := T2.out.f0 2
  refine wpE_do rfl rfl (fun K hK => ?_)
  go_simp
  refine ⟨fun h => Bool.noConfusion h, hK _ _ ?_⟩
  clear hK K
  clear T0_0 T0_1 T0_2 T1_0 T1_1 T1_2 T2_0 T2_1 T2_2 T2_f0 T2_f1 T2_f2
  have hu := upd3 w2 b2 (.bool s8) (.slice p8 k8 c8) (.slice e8 m8 n8)
  have H2 := Lib.hid (H2.out.upd T2.out.noInt hu)
  have T0 := Lib.hid (T0.out.upd hu Hd02.out)
  have T1 := Lib.hid (T1.out.upd hu Hd12.out)
  have T2 := Lib.hid (T2.out.set (.bool s8) (.slice p8 k8 c8) (.slice e8 m8 n8))
  have G := Lib.hid (G.out.three Hb2.out (.bool s8) (.slice p8 k8 c8) (.slice e8 m8 n8))
  clear hu
  generalize ((w2.setCell _ _).setCell _ _).setCell _ _ = W1 at G T0 T1 T2 H2 ⊢
  refine wpE_nil ?_
  clear g0
  go_wp2_with fail
  have T2_0 := T2.out.load.1
  have T2_1 := T2.out.load.2.1
  have T2_2 := T2.out.load.2.2
  refine bodyPost_ret (by simp [results, Tryz.results33, go_sem, T2_0, T2_1, T2_2]; rfl) rfl ?_
  exact ⟨_, rfl, G.out, H2.out⟩

set_option maxRecDepth 100000 in
theorem s_Sign (w : World) (va : Value) (x : Rat) (c : Int) (L : Nat) (ha : RatV w va x L) (hc : sgn x.num = c) (hL : L ≤ 100000) :
    Calls Tryz.prog 43 #[va] w (Ret w fun r w' => r = .int .i64 c) := by
  obtain ⟨z, q, ha2, rfl⟩ := ha.p
  obtain ⟨s0, p0, k0, c0, e0, m0, n0, rfl⟩ := ha2.agg
  have HN := Lib.hid (ha2.num)
  have hs := sgn_mk z ha2.ne
  rw [hc] at hs
  clear ha ha2 hc
  have B := box3 w (.bool s0) (.slice p0 k0 c0) (.slice e0 m0 n0) 27
  go_enter Tryz.func43, Tryz.ntmps43
  go_wp2_with fail
  generalize w.alloc _ = W at B ⊢
  obtain ⟨G0, t0⟩ := B
  generalize hb0 : w.heap.size = b0 at t0  ⊢
  have Hb0 := Lib.hid (show ¬ b0 < w.heap.size by omega)
  have G := Lib.hid G0
  have T0 := Lib.hid t0
  clear hb0 G0 t0
  have HN := Lib.hid (HN.out.grow G.out)
  refine (e_Sign W _ z c L HN.out hs (by omega)).mono ?_
  rintro _ w1 ⟨_, rfl, g1, rfl⟩
  have G := Lib.hid (G.out.trans g1)
  have T0 := Lib.hid (T0.out.grow g1)
  have HN := Lib.hid (HN.out.grow g1)
  clear g1
  go_wp2_with fail
  go_ret
  exact ⟨_, rfl, G.out, rfl⟩

set_option maxRecDepth 100000 in
set_option maxHeartbeats 1600000 in
theorem s_Cmp (w : World) (va vb : Value) (x y : Rat) (c : Int) (L M : Nat) (ha : RatV w va x L) (hb : RatV w vb y M) (hc : cmpQ x y = c) (h0 : 1 ≤ L) (h1 : 1 ≤ M) (hL : L ≤ 10000) (hM : M ≤ 10000) :
    Calls Tryz.prog 16 #[va, vb] w (Ret w fun r w' => r = .int .i64 c) := by
  have HA := Lib.hid ha
  have HB := Lib.hid hb
  have HZ := Lib.hid (sz_sub (ha.sz h0) (hb.sz h1))
  obtain ⟨s0, p0, k0, c0, e0, m0, n0, rfl⟩ := ha.agg
  obtain ⟨s1, p1, k1, c1, e1, m1, n1, rfl⟩ := hb.agg
  clear ha hb
  rw [← sgn_cmp] at hc
  have B := box33 w (.bool s0) (.slice p0 k0 c0) (.slice e0 m0 n0) (.bool s1) (.slice p1 k1 c1) (.slice e1 m1 n1) 27 27
  have Hb1 := Lib.hid (show ¬ w.heap.size + 1 < w.heap.size by omega)
  have Hd01 := Lib.hid (show w.heap.size ≠ w.heap.size + 1 by omega)
  go_enter Tryz.func16, Tryz.ntmps16
  go_wp2_with fail
  generalize (w.alloc _).alloc _ = W at B ⊢
  obtain ⟨G0, t0, t1⟩ := B
  generalize w.heap.size + 1 = b1 at t1 Hb1 Hd01 ⊢
  generalize hb0 : w.heap.size = b0 at t0 Hd01 ⊢
  have Hb0 := Lib.hid (show ¬ b0 < w.heap.size by omega)
  have G := Lib.hid G0
  have T0 := Lib.hid t0
  have T1 := Lib.hid t1
  clear hb0 G0 t0 t1
  have HA := Lib.hid (HA.out.grow G.out)
  have HB := Lib.hid (HB.out.grow G.out)
  refine (s_Sub W _ _ x y _ L M HA.out HB.out rfl h1 hL hM).mono ?_
  rintro _ w1 ⟨r1, rfl, g1, h1⟩
  have G := Lib.hid (G.out.trans g1)
  have T0 := Lib.hid (T0.out.grow g1)
  have T1 := Lib.hid (T1.out.grow g1)
  have HA := Lib.hid (HA.out.grow g1)
  have HB := Lib.hid (HB.out.grow g1)
  clear g1
  have H1 := Lib.hid h1
  clear h1
  go_wp2_with fail
  refine (s_Sign w1 _ (x - y) c (L + M + 1) (H1.out.v HZ.out) hc (by omega)).mono ?_
  rintro _ w2 ⟨_, rfl, g2, rfl⟩
  have G := Lib.hid (G.out.trans g2)
  have T0 := Lib.hid (T0.out.grow g2)
  have T1 := Lib.hid (T1.out.grow g2)
  have HA := Lib.hid (HA.out.grow g2)
  have HB := Lib.hid (HB.out.grow g2)
  have H1 := Lib.hid (H1.out.grow g2)
  clear g2
  go_wp2_with fail
  go_ret
  exact ⟨_, rfl, G.out, rfl⟩
end Go.Proofs.YtmcgkglmlfbijaaGreatDoor

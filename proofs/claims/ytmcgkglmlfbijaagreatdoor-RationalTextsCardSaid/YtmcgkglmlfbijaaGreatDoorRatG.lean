/-
  Fractions: division, rounding, forms.
-/
import Derived.Test.YtmcgkglmlfbijaaGreatDoorRatF
import Derived.Test.YtmcgkglmlfbijaaGreatDoorEarly
namespace Go.Proofs.YtmcgkglmlfbijaaGreatDoor
open Go.RowKit Go.Lib
set_option linter.unusedVariables false
set_option linter.unusedSimpArgs false

theorem sgn_of_pos {a : Int} (h : 0 < a) : sgn a = 1 := by unfold sgn; rw [if_neg (by omega), if_neg (by omega)]
theorem sgn_of_neg {a : Int} (h : a < 0) : sgn a = -1 := by unfold sgn; rw [if_pos h]
theorem quo_t (x y : Int) : quoZ false x y = x.tdiv y := by
  unfold quoZ
  simp only [Bool.false_and, Bool.false_eq_true, if_false, Nat.add_zero]
  have key : ∀ (m n : Nat), (((m / n : Nat) : Int)) = Int.tdiv m n := fun m n => rfl
  rcases Int.lt_trichotomy x 0 with hx | hx | hx <;> rcases Int.lt_trichotomy y 0 with hy | hy | hy
  all_goals (try subst hx) <;> (try subst hy)
  · obtain ⟨m, rfl⟩ : ∃ m : Nat, x = -m := ⟨x.natAbs, by omega⟩
    obtain ⟨n, rfl⟩ : ∃ n : Nat, y = -n := ⟨y.natAbs, by omega⟩
    rw [sgn_of_neg hx, sgn_of_neg hy, if_neg (by decide), Int.neg_tdiv, Int.tdiv_neg, Int.neg_neg, Int.natAbs_neg, Int.natAbs_neg]
    rfl
  · simp [sgn]
  · obtain ⟨m, rfl⟩ : ∃ m : Nat, x = -m := ⟨x.natAbs, by omega⟩
    obtain ⟨n, rfl⟩ : ∃ n : Nat, y = n := ⟨y.natAbs, by omega⟩
    rw [sgn_of_neg hx, sgn_of_pos hy, if_pos (by decide), Int.neg_tdiv, Int.natAbs_neg]
    rfl
  · simp [sgn]
  · simp [sgn]
  · simp [sgn]
  · obtain ⟨m, rfl⟩ : ∃ m : Nat, x = m := ⟨x.natAbs, by omega⟩
    obtain ⟨n, rfl⟩ : ∃ n : Nat, y = -n := ⟨y.natAbs, by omega⟩
    rw [sgn_of_pos hx, sgn_of_neg hy, if_pos (by decide), Int.tdiv_neg, Int.natAbs_neg]
    rfl
  · simp [sgn]
  · obtain ⟨m, rfl⟩ : ∃ m : Nat, x = m := ⟨x.natAbs, by omega⟩
    obtain ⟨n, rfl⟩ : ∃ n : Nat, y = n := ⟨y.natAbs, by omega⟩
    rw [sgn_of_pos hx, sgn_of_pos hy, if_neg (by decide)]
    rfl
theorem rem_t (x y : Int) : x - quoZ false x y * y = x.tmod y := by
  rw [quo_t, Int.tmod_def, Int.mul_comm]

theorem den_one (z : Int) {q : Nat} (hq : q ≠ 0) : (mkRat z q).den = 1 ↔ z.tmod (q : Int) = 0 := by
  have hg : 0 < Nat.gcd z.natAbs q := Nat.gcd_pos_of_pos_right _ (by omega)
  rw [low_den z q hq, ← Int.dvd_iff_tmod_eq_zero, Int.ofNat_dvd_left]
  constructor
  · intro h
    have h2 : Nat.gcd z.natAbs q = q := by
      have h3 := Nat.div_mul_cancel (Nat.gcd_dvd_right z.natAbs q)
      rw [h, Nat.one_mul] at h3
      exact h3
    rw [← h2]; exact Nat.gcd_dvd_left _ _
  · intro h
    rw [Nat.gcd_eq_right h]
    exact Nat.div_self (by omega)
theorem num_one (z : Int) {q : Nat} (hq : q ≠ 0) (h : z.tmod (q : Int) = 0) : (mkRat z q).num = z.tdiv (q : Int) := by
  have hd := (den_one z hq).2 h
  rw [low_den z q hq] at hd
  have h2 : Nat.gcd z.natAbs q = q := by
    have h3 := Nat.div_mul_cancel (Nat.gcd_dvd_right z.natAbs q)
    rw [hd, Nat.one_mul] at h3
    exact h3
  rw [low_num z q hq, h2, Int.tdiv_eq_ediv_of_dvd (Int.dvd_of_tmod_eq_zero h)]

theorem quoZ_floor (p : Int) {q : Nat} (hq : q ≠ 0) : quoZ true p (q : Int) = p / (q : Int) := by
  have e := Nat.div_add_mod p.natAbs q
  have l := Nat.mod_lt p.natAbs (show 0 < q by omega)
  unfold quoZ
  have h1 : sgn (q : Int) = 1 := by unfold sgn; rw [if_neg (by omega), if_neg (by omega)]
  rw [h1, Int.natAbs_natCast]
  generalize p.natAbs / q = d at e ⊢
  generalize p.natAbs % q = m at e l ⊢
  have e' : (p.natAbs : Int) = (q : Int) * d + m := by exact_mod_cast e.symm
  by_cases hp : p < 0
  · have hs : sgn p * 1 < 0 := by unfold sgn; rw [if_pos hp]; decide
    have hpe : p = -((q : Int) * d + m) := by omega
    symm
    by_cases hm : 0 < m
    · simp only [hs, hm, if_true, decide_true, Bool.and_self]
      refine (Int.ediv_emod_unique (b := (q : Int)) (r := q - m) (by omega)).2 ⟨?_, by omega, by omega⟩ |>.1
      rw [hpe, Int.natCast_add, Int.mul_neg, Int.mul_add]
      simp only [Int.natCast_one, Int.mul_one]
      omega
    · have hm0 : m = 0 := by omega
      subst hm0
      simp only [hs, if_true, decide_true, Nat.lt_irrefl, decide_false, Bool.and_false, Bool.false_eq_true, if_false, Nat.add_zero]
      refine (Int.ediv_emod_unique (b := (q : Int)) (r := 0) (by omega)).2 ⟨?_, by omega, by omega⟩ |>.1
      rw [hpe, Int.mul_neg]
      simp
  · have hs : ¬ sgn p * 1 < 0 := by unfold sgn; rw [if_neg hp]; split <;> decide
    have hpe : p = ((q : Int) * d + m) := by omega
    symm
    simp only [hs, if_false, decide_false, Bool.and_false, Bool.false_and, Bool.false_eq_true, Nat.add_zero]
    refine (Int.ediv_emod_unique (b := (q : Int)) (r := m) (by omega)).2 ⟨?_, by omega, by omega⟩ |>.1
    rw [hpe]; omega

set_option maxRecDepth 100000 in
set_option maxHeartbeats 3200000 in
theorem q_Floor (w : World) (va : Value) (x : Rat) (f : Int) (L : Nat) (ha : RatV w va x L) (hf : x.floor = f) (hL : L ≤ 1000) :
    Calls Tryz.prog 12 #[va] w (Ret w fun r w' => IntC w' r f) := by
  obtain ⟨z, q, ha2, rfl⟩ := ha.p
  clear ha
  have HA := Lib.hid ha2
  obtain ⟨s0, p0, k0, c0, e0, m0, n0, rfl⟩ := ha2.agg
  have HN := Lib.hid ha2.num
  have Hq := Lib.hid ha2.ne
  have HF := Lib.hid (show quoZ true z q = f by rw [quoZ_floor z ha2.ne, floor_mk z ha2.ne, hf])
  clear ha2 hf
  have B := box32 w (.bool s0) (.slice p0 k0 c0) (.slice e0 m0 n0) (.bool false) (.slice none 0 0) 27 25
  have Hb1 := Lib.hid (show ¬ w.heap.size + 1 < w.heap.size by omega)
  have Hd01 := Lib.hid (show w.heap.size ≠ w.heap.size + 1 by omega)
  go_enter Tryz.func12, Tryz.ntmps12
  go_wp2_with fail
  generalize (w.alloc _).alloc _ = W at B ⊢
  obtain ⟨G0, t0, t1⟩ := B
  generalize w.heap.size + 1 = b1 at t1 Hb1 Hd01 ⊢
  generalize hb0 : w.heap.size = b0 at t0 Hd01 ⊢
  have Hb0 := Lib.hid (show ¬ b0 < w.heap.size by omega)
  have G := Lib.hid G0
  have T0 := Lib.hid t0
  have T1 := Lib.hid t1
  clear hb0 G0 t0 t1
  have HA := Lib.hid (HA.out.grow G.out)
  have HN := Lib.hid (HN.out.grow G.out)
  have g0 : Gr W W.drew := (Gr.refl _).drew
  have T0_0 := T0.out.c0
  have T0_1 := T0.out.c1
  have T0_2 := T0.out.c2
  refine wp_region_late zcI 60 [(0, 1), (1, 1), (2, 1), (3, 0), (4, 0), (5, 1), (6, 1), (7, 1), (8, 1), (9, 2), (10, 2), (11, 0), (12, 0), (13, 1)] (by kernel_rfl) (by kernel_rfl) rfl (by kernel_rfl) (fun _ _ d _ _ h => by cases d <;> exact h) (fun _ _ d _ _ h => by cases d <;> exact h) (by intro i hi; simp at hi; rcases hi with rfl | rfl <;> exact ⟨_, _, rfl, rfl, rfl, allocI⟩) ?_
  repeat (refine wpF_readB (v := ?_) g0 rfl rfl (fun w' hg => ?_) (fun K hK => ?_); rotate_left; (go_simp; rfl); go_simp; refine hK _ _ ?_; clear hK K)
  refine wpF_do rfl rfl (fun K hK w1 g1 => ?_)
  go_simp
  refine (p_den _ _ z q L (HA.out.grow (g0.trans g1)) (by omega)).mono ?_
  rintro _ w2 ⟨r2, rfl, g2, h2⟩
  refine ⟨fun _ => g2, hK _ _ ?_⟩
  clear hK K
  have H2 := Lib.hid h2
  have g2 := (g0.trans g1).trans g2
  clear g1 h2
  refine wpF_do rfl rfl (fun K hK w5 g5 => ?_)
  go_simp
  refine (v_Floor _ _ _ z q f L (L + 1) (HN.out.grow (g2.trans g5)) (H2.out.grow g5) (by have := Hq.out; omega) HF.out (by omega) (by omega)).mono ?_
  rintro _ w6 ⟨_, rfl, g6, qa, qb, rfl, hq, hs⟩
  refine ⟨fun _ => g6, hK _ _ ?_⟩
  clear hK K
  have g7 := g2.trans (g5.trans g6)
  have HQ := Lib.hid hq
  have HS := Lib.hid hs
  obtain ⟨pa1, ka1, ca1, rfl, _⟩ := hq
  obtain ⟨pb1, kb1, cb1, rfl, _⟩ := hs
  clear g2 g5 g6
  repeat (refine wpF_readB (v := ?_) g7 rfl rfl (fun w' hg => ?_) (fun K hK => ?_); rotate_left; (go_simp; rfl); go_simp; refine hK _ _ ?_; clear hK K)
  generalize decide (f < 0) = sa at HQ ⊢
  generalize decide (z - f * (q : Int) < 0) = sb at HS ⊢
  refine wpF_new rfl rfl (fun K w8 b12 g8 f2 n2 hK => hK _ _ ?_)
  clear hK K
  refine wpF_new rfl rfl (fun K w9 b13 g9 f3 n3 hK => hK _ _ ?_)
  clear hK K
  have T2' := f2.two
  have T3' := f3.two
  clear f2 f3
  refine wpF_do rfl rfl (fun K hK w10 g10 => ?_)
  have e2 := T2'.grow (g9.trans g10)
  have d0 := e2.c0 w10 (Gr.refl _)
  have d1 := e2.c1 w10 (Gr.refl _)
  have d2 := e2.f0 0
  have d3 := e2.f0 1
  go_simp
  refine ⟨fun h => Bool.noConfusion h, hK _ _ ?_⟩
  clear hK K
  have h11 := (g7.trans (g8.trans (g9.trans g10))).two n2 (.bool sa) (.slice pa1 ka1 ca1)
  have U2 := e2.set (.bool sa) (.slice pa1 ka1 ca1)
  have e3 := (T3'.grow g10).other (fun e => n3 (.inr e)) (.bool sa) (.slice pa1 ka1 ca1)
  have HQ := Lib.hid ((HQ.out.grow (g8.trans (g9.trans g10))).keepBox e2 (.bool sa) (.slice pa1 ka1 ca1))
  have HS := Lib.hid ((HS.out.grow (g8.trans (g9.trans g10))).keepBox e2 (.bool sa) (.slice pa1 ka1 ca1))
  clear d0 d1 d2 d3 e2 T2' T3'
  generalize (w10.setCell _ _).setCell _ _ = w11 at h11 U2 e3 HQ HS ⊢
  refine wpF_do rfl rfl (fun K hK w12 g12 => ?_)
  have e3 := e3.grow g12
  have d0 := e3.c0 w12 (Gr.refl _)
  have d1 := e3.c1 w12 (Gr.refl _)
  have d2 := e3.f0 0
  have d3 := e3.f0 1
  go_simp
  refine ⟨fun h => Bool.noConfusion h, hK _ _ ?_⟩
  clear hK K
  have h13 := (h11.trans g12).two (fun h => n3 (.inl h)) (.bool sb) (.slice pb1 kb1 cb1)
  have U3 := e3.set (.bool sb) (.slice pb1 kb1 cb1)
  have U2 := (U2.grow g12).other (fun e => n3 (.inr e.symm)) (.bool sb) (.slice pb1 kb1 cb1)
  have HQ := Lib.hid ((HQ.out.grow g12).keepBox e3 (.bool sb) (.slice pb1 kb1 cb1))
  have HS := Lib.hid ((HS.out.grow g12).keepBox e3 (.bool sb) (.slice pb1 kb1 cb1))
  clear d0 d1 d2 d3 e3
  generalize (w12.setCell _ _).setCell _ _ = W2 at h13 U2 U3 HQ HS ⊢
  repeat (refine wpF_readB (v := ?_) h13 rfl rfl (fun w' hg => ?_) (fun K hK => ?_); rotate_left; (go_simp; rfl); go_simp; refine hK _ _ ?_; clear hK K)
  refine wpF_nil ?_
  have TQ := Lib.hid U2
  have TS := Lib.hid U3
  clear h11 U2 U3 n2 n3 g7 g8 g9 g10 g12 g0
  clear T0_0 T0_1 T0_2
  have G := Lib.hid (G.out.trans h13)
  have T0 := Lib.hid (T0.out.grow h13)
  have T1 := Lib.hid (T1.out.grow h13)
  clear h13
  have T1_0 := T1.out.load.1
  have T1_f0 := T1.out.f0 0
  have T1_1 := T1.out.load.2
  have T1_f1 := T1.out.f0 1
  have TQ_0 := TQ.out.load.1
  have TQ_f0 := TQ.out.f0 0
  have TQ_1 := TQ.out.load.2
  have TQ_f1 := TQ.out.f0 1
  go_wp2_with fail
  clear T1_0 T1_f0 T1_1 T1_f1 TQ_0 TQ_f0 TQ_1 TQ_f1
  have hu := upd2 W2 b1 (.bool sa) (.slice pa1 ka1 ca1)
  have HQ := Lib.hid (HQ.out.upd T1.out.noInt hu)
  have T0 := Lib.hid (T0.out.upd hu Hd01.out)
  have T1 := Lib.hid (T1.out.set (.bool sa) (.slice pa1 ka1 ca1))
  have G := Lib.hid (G.out.two Hb1.out (.bool sa) (.slice pa1 ka1 ca1))
  clear hu
  generalize (W2.setCell _ _).setCell _ _ = W3 at G T0 T1 HQ ⊢
  have T1_0 := T1.out.load.1
  have T1_1 := T1.out.load.2
  refine bodyPost_ret (by simp [results, Tryz.results12, go_sem, T1_0, T1_1]; rfl) rfl ?_
  exact ⟨_, rfl, G.out, HQ.out⟩

theorem RatV.sz {w : World} {v : Value} {x : Rat} {L : Nat} (h : RatV w v x L) (hL : 1 ≤ L) : Sz L x := by
  obtain ⟨n, l, d, ⟨p, k, c, q, m, e, rfl, h1, h2⟩, rfl, h3, h4⟩ := h
  refine sz_mk (denV_ne d) ?_ ?_
  · rw [zval_natAbs]; exact Nat.le_trans (digs_nval_length h1.dig) h3
  · unfold denV
    split
    · exact Nat.le_trans (by decide +kernel) hL
    · exact Nat.le_trans (digs_nval_length h2.dig) h4
theorem RatV.mono {w : World} {v : Value} {x : Rat} {L M : Nat} (h : RatV w v x L) (hM : L ≤ M) : RatV w v x M := by
  obtain ⟨n, l, d, h1, h2, h3, h4⟩ := h; exact ⟨n, l, d, h1, h2, Nat.le_trans h3 hM, Nat.le_trans h4 hM⟩
theorem floor_len {x : Rat} {L : Nat} (h : Sz L x) : (digs x.floor.natAbs).length ≤ L + 1 := by
  rw [Rat.floor_def]
  have hd : (0 : Int) < x.den := by have := x.den_nz; omega
  have h0 : (x.num / (x.den : Int)).natAbs ≤ x.num.natAbs + 1 := by
    have a := Int.ediv_mul_le x.num (b := (x.den : Int)) (by omega)
    have b := Int.lt_ediv_add_one_mul_self x.num hd
    by_cases hn : 0 ≤ x.num
    · have c := Int.ediv_le_self (x.den : Int) hn
      have d := Int.ediv_nonneg hn (by omega : (0 : Int) ≤ x.den)
      omega
    · have c : x.num ≤ x.num / (x.den : Int) := by
        refine Int.le_ediv_of_mul_le hd ?_
        have := Int.mul_le_mul_of_nonpos_left (a := x.num) (b := x.den) (c := 1) (by omega) (by omega)
        omega
      have d : x.num / (x.den : Int) < 0 := Int.ediv_lt_of_lt_mul hd (by omega)
      omega
  exact Nat.le_trans (digs_mono_length h0) (digs_add_length (k := L) h.1 (Nat.le_trans (by decide +kernel) (digs_ne_len x.den_nz h.2)))

set_option maxRecDepth 100000 in
set_option maxHeartbeats 3200000 in
theorem q_Ceil (w : World) (va : Value) (x : Rat) (f : Int) (L : Nat) (ha : RatV w va x L) (hf : -(-x).floor = f) (hL : L ≤ 900) (h1 : 1 ≤ L) :
    Calls Tryz.prog 13 #[va] w (Ret w fun r w' => IntC w' r f) := by
  have HA := Lib.hid ha
  have HZ := Lib.hid (sz_neg (ha.sz h1))
  have HF := Lib.hid hf
  obtain ⟨s0, p0, k0, c0, e0, m0, n0, rfl⟩ := ha.agg
  clear ha hf
  have B := box32 w (.bool s0) (.slice p0 k0 c0) (.slice e0 m0 n0) (.bool false) (.slice none 0 0) 27 25
  have Hb1 := Lib.hid (show ¬ w.heap.size + 1 < w.heap.size by omega)
  have Hd01 := Lib.hid (show w.heap.size ≠ w.heap.size + 1 by omega)
  go_enter Tryz.func13, Tryz.ntmps13
  go_wp2_with fail
  generalize (w.alloc _).alloc _ = W at B ⊢
  obtain ⟨G0, t0, t1⟩ := B
  generalize w.heap.size + 1 = b1 at t1 Hb1 Hd01 ⊢
  generalize hb0 : w.heap.size = b0 at t0 Hd01 ⊢
  have Hb0 := Lib.hid (show ¬ b0 < w.heap.size by omega)
  have G := Lib.hid G0
  have T0 := Lib.hid t0
  have T1 := Lib.hid t1
  clear hb0 G0 t0 t1
  have HA := Lib.hid (HA.out.grow G.out)
  refine (q_Neg W _ x _ L HA.out rfl (by omega)).mono ?_
  rintro _ w1 ⟨r1, rfl, g1, h1⟩
  have G := Lib.hid (G.out.trans g1)
  have T0 := Lib.hid (T0.out.grow g1)
  have T1 := Lib.hid (T1.out.grow g1)
  have HA := Lib.hid (HA.out.grow g1)
  clear g1
  have H1 := Lib.hid h1
  clear h1
  go_wp2_with fail
  refine (q_Floor w1 _ (-x) _ L (H1.out.v HZ.out) rfl (by omega)).mono ?_
  rintro _ w2 ⟨r2, rfl, g2, h2⟩
  have G := Lib.hid (G.out.trans g2)
  have T0 := Lib.hid (T0.out.grow g2)
  have T1 := Lib.hid (T1.out.grow g2)
  have HA := Lib.hid (HA.out.grow g2)
  have H1 := Lib.hid (H1.out.grow g2)
  clear g2
  have H2 := Lib.hid h2
  clear h2
  go_wp2_with fail
  refine (v_Neg w2 _ _ f (L + 1) (H2.out.v (floor_len HZ.out)) HF.out (by omega)).mono ?_
  rintro _ w3 ⟨r3, rfl, g3, h3⟩
  have G := Lib.hid (G.out.trans g3)
  have T0 := Lib.hid (T0.out.grow g3)
  have T1 := Lib.hid (T1.out.grow g3)
  have HA := Lib.hid (HA.out.grow g3)
  have H1 := Lib.hid (H1.out.grow g3)
  have H2 := Lib.hid (H2.out.grow g3)
  clear g3
  have H3 := Lib.hid h3
  clear h3
  have HV := Lib.hid H3.out.1
  obtain ⟨p1, k1, c1, rfl⟩ := HV.out.agg
  generalize decide (f < 0) = sa at HV H3 ⊢
  have T1_0 := T1.out.load.1
  have T1_f0 := T1.out.f0 0
  have T1_1 := T1.out.load.2
  have T1_f1 := T1.out.f0 1
  go_wp2_with fail
  clear T1_0 T1_f0 T1_1 T1_f1
  have hu := upd2 w3 b1 (.bool sa) (.slice p1 k1 c1)
  have HV := Lib.hid (HV.out.upd T1.out.noInt hu)
  have T0 := Lib.hid (T0.out.upd hu Hd01.out)
  have T1 := Lib.hid (T1.out.set (.bool sa) (.slice p1 k1 c1))
  have G := Lib.hid (G.out.two Hb1.out (.bool sa) (.slice p1 k1 c1))
  clear hu
  generalize (w3.setCell _ _).setCell _ _ = W3 at G T0 T1 HV ⊢
  have T1_0 := T1.out.load.1
  have T1_1 := T1.out.load.2
  refine bodyPost_ret (by simp [results, Tryz.results13, go_sem, T1_0, T1_1]; rfl) rfl ?_
  exact ⟨_, rfl, G.out, HV.out⟩

set_option maxRecDepth 100000 in
set_option maxHeartbeats 3200000 in
theorem q_Int64 (w : World) (va : Value) (x : Rat) (t : Bool) (L : Nat) (ha : RatV w va x L) (ht : (decide (x.den = 1) && fits x.num) = t) (hL : L ≤ 1000) :
    Calls Tryz.prog 38 #[va] w (Ret w fun r w' => r = .tuple #[.int .i64 (if t then x.num else 0), .bool t]) := by
  obtain ⟨z, q, ha2, rfl⟩ := ha.p
  clear ha
  have HA := Lib.hid ha2
  obtain ⟨s0, p0, k0, c0, e0, m0, n0, rfl⟩ := ha2.agg
  have HN := Lib.hid ha2.num
  have Hq := Lib.hid ha2.ne
  obtain ⟨f, hf⟩ : ∃ f, quoZ false z q = f := ⟨_, rfl⟩
  have HF := Lib.hid hf
  have HR := Lib.hid (show z - f * (q : Int) = z.tmod q by rw [← hf, rem_t])
  have HT := Lib.hid ht
  have HRl := Lib.hid (show (digs (z - f * (q : Int)).natAbs).length ≤ L + 2 by
    rw [HR.out]
    have h := ha2.num.len
    refine Nat.le_trans (digs_mono_length (b := z.natAbs) ?_) (Nat.le_trans h (by omega))
    rw [Int.natAbs_tmod]; exact Nat.mod_le _ _)
  clear ha2 hf ht
  have B := box3 w (.bool s0) (.slice p0 k0 c0) (.slice e0 m0 n0) 27
  go_enter Tryz.func38, Tryz.ntmps38
  go_wp2_with fail
  generalize w.alloc _ = W at B ⊢
  obtain ⟨G0, t0⟩ := B
  generalize hb0 : w.heap.size = b0 at t0  ⊢
  have Hb0 := Lib.hid (show ¬ b0 < w.heap.size by omega)
  have G := Lib.hid G0
  have T0 := Lib.hid t0
  clear hb0 G0 t0
  have HA := Lib.hid (HA.out.grow G.out)
  have HN := Lib.hid (HN.out.grow G.out)
  have g0 : Gr W W.drew := (Gr.refl _).drew
  have T0_0 := T0.out.c0
  have T0_1 := T0.out.c1
  have T0_2 := T0.out.c2
  refine wp_region_late zcI 60 [(0, 1), (1, 1), (2, 1), (3, 0), (4, 0), (5, 1), (6, 1), (7, 1), (8, 1), (9, 2), (10, 2), (11, 0), (12, 0), (13, 1)] (by kernel_rfl) (by kernel_rfl) rfl (by kernel_rfl) (fun _ _ d _ _ h => by cases d <;> exact h) (fun _ _ d _ _ h => by cases d <;> exact h) (by intro i hi; simp at hi; rcases hi with rfl | rfl <;> exact ⟨_, _, rfl, rfl, rfl, allocI⟩) ?_
  repeat (refine wpF_readB (v := ?_) g0 rfl rfl (fun w' hg => ?_) (fun K hK => ?_); rotate_left; (go_simp; rfl); go_simp; refine hK _ _ ?_; clear hK K)
  refine wpF_do rfl rfl (fun K hK w1 g1 => ?_)
  go_simp
  refine (p_den _ _ z q L (HA.out.grow (g0.trans g1)) (by omega)).mono ?_
  rintro _ w2 ⟨r2, rfl, g2, h2⟩
  refine ⟨fun _ => g2, hK _ _ ?_⟩
  clear hK K
  have H2 := Lib.hid h2
  have g2 := (g0.trans g1).trans g2
  clear g1 h2
  refine wpF_do rfl rfl (fun K hK w5 g5 => ?_)
  go_simp
  refine (v_Quo _ _ _ z q f L (L + 1) (HN.out.grow (g2.trans g5)) (H2.out.grow g5) (by have := Hq.out; omega) HF.out (by omega) (by omega)).mono ?_
  rintro _ w6 ⟨_, rfl, g6, qa, qb, rfl, hq, hs⟩
  refine ⟨fun _ => g6, hK _ _ ?_⟩
  clear hK K
  have g7 := g2.trans (g5.trans g6)
  have HQ := Lib.hid hq
  have HS := Lib.hid hs
  obtain ⟨pa1, ka1, ca1, rfl, _⟩ := hq
  obtain ⟨pb1, kb1, cb1, rfl, _⟩ := hs
  clear g2 g5 g6
  repeat (refine wpF_readB (v := ?_) g7 rfl rfl (fun w' hg => ?_) (fun K hK => ?_); rotate_left; (go_simp; rfl); go_simp; refine hK _ _ ?_; clear hK K)
  obtain ⟨sa, hsa⟩ : ∃ sa, decide (f < 0) = sa := ⟨_, rfl⟩
  have HQ := Lib.hid (show IntC _ (.agg #[.bool sa, .slice pa1 ka1 ca1]) f by rw [← hsa]; exact HQ.out)
  rw [hsa]
  clear hsa
  generalize decide (z - f * (q : Int) < 0) = sb at HS ⊢
  refine wpF_new rfl rfl (fun K w8 b12 g8 f2 n2 hK => hK _ _ ?_)
  clear hK K
  refine wpF_new rfl rfl (fun K w9 b13 g9 f3 n3 hK => hK _ _ ?_)
  clear hK K
  have T2' := f2.two
  have T3' := f3.two
  clear f2 f3
  refine wpF_do rfl rfl (fun K hK w10 g10 => ?_)
  have e2 := T2'.grow (g9.trans g10)
  have d0 := e2.c0 w10 (Gr.refl _)
  have d1 := e2.c1 w10 (Gr.refl _)
  have d2 := e2.f0 0
  have d3 := e2.f0 1
  go_simp
  refine ⟨fun h => Bool.noConfusion h, hK _ _ ?_⟩
  clear hK K
  have h11 := (g7.trans (g8.trans (g9.trans g10))).two n2 (.bool sa) (.slice pa1 ka1 ca1)
  have U2 := e2.set (.bool sa) (.slice pa1 ka1 ca1)
  have e3 := (T3'.grow g10).other (fun e => n3 (.inr e)) (.bool sa) (.slice pa1 ka1 ca1)
  have HQ := Lib.hid ((HQ.out.grow (g8.trans (g9.trans g10))).keepBox e2 (.bool sa) (.slice pa1 ka1 ca1))
  have HS := Lib.hid ((HS.out.grow (g8.trans (g9.trans g10))).keepBox e2 (.bool sa) (.slice pa1 ka1 ca1))
  clear d0 d1 d2 d3 e2 T2' T3'
  generalize (w10.setCell _ _).setCell _ _ = w11 at h11 U2 e3 HQ HS ⊢
  refine wpF_do rfl rfl (fun K hK w12 g12 => ?_)
  have e3 := e3.grow g12
  have d0 := e3.c0 w12 (Gr.refl _)
  have d1 := e3.c1 w12 (Gr.refl _)
  have d2 := e3.f0 0
  have d3 := e3.f0 1
  go_simp
  refine ⟨fun h => Bool.noConfusion h, hK _ _ ?_⟩
  clear hK K
  have h13 := (h11.trans g12).two (fun h => n3 (.inl h)) (.bool sb) (.slice pb1 kb1 cb1)
  have U3 := e3.set (.bool sb) (.slice pb1 kb1 cb1)
  have U2 := (U2.grow g12).other (fun e => n3 (.inr e.symm)) (.bool sb) (.slice pb1 kb1 cb1)
  have HQ := Lib.hid ((HQ.out.grow g12).keepBox e3 (.bool sb) (.slice pb1 kb1 cb1))
  have HS := Lib.hid ((HS.out.grow g12).keepBox e3 (.bool sb) (.slice pb1 kb1 cb1))
  clear d0 d1 d2 d3 e3
  generalize (w12.setCell _ _).setCell _ _ = W2 at h13 U2 U3 HQ HS ⊢
  repeat (refine wpF_readB (v := ?_) h13 rfl rfl (fun w' hg => ?_) (fun K hK => ?_); rotate_left; (go_simp; rfl); go_simp; refine hK _ _ ?_; clear hK K)
  refine wpF_nil ?_
  have TQ := Lib.hid U2
  have TS := Lib.hid U3
  clear h11 U2 U3 n2 n3 g7 g8 g9 g10 g12 g0
  clear T0_0 T0_1 T0_2
  have G := Lib.hid (G.out.trans h13)
  have T0 := Lib.hid (T0.out.grow h13)
  clear h13
  have TS_0 := TS.out.load.1
  have TS_1 := TS.out.load.2
  go_wp2_with fail
  obtain ⟨sr, hsr⟩ : ∃ sr, sgn (z - f * (q : Int)) = sr := ⟨_, rfl⟩
  refine (v_Sign W2 _ _ sr (L + 2) (HS.out.v HRl.out) hsr (by omega)).mono ?_
  rintro _ w8 ⟨_, rfl, g8, rfl⟩
  clear TS_0 TS_1
  have G := Lib.hid (G.out.trans g8)
  have T0 := Lib.hid (T0.out.grow g8)
  have TQ := Lib.hid (TQ.out.grow g8)
  have TS := Lib.hid (TS.out.grow g8)
  have HQ := Lib.hid (HQ.out.grow g8)
  have HS := Lib.hid (HS.out.grow g8)
  clear g8
  by_cases h0 : z - f * (q : Int) = 0
  · have hs0 : sr = 0 := by rw [← hsr, h0]; rfl
    subst hs0
    have hm : z.tmod q = 0 := by rw [← HR.out]; exact h0
    have hfz : f = (mkRat z q).num := by rw [num_one z Hq.out hm, ← quo_t]; exact HF.out.symm
    have htf : fits f = t := by rw [← HT.out, (den_one z Hq.out).2 hm, hfz]; simp
    have HX := Lib.hid hfz
    clear hsr h0 hm hfz
    have TQ_0 := TQ.out.load.1
    have TQ_1 := TQ.out.load.2
    go_wp2_with fail
    refine (int_Int64 w8 _ _ _ f t (zval_digsR f) htf HQ.out).mono ?_
    rintro _ w9 ⟨_, rfl, g9, rfl⟩
    clear TQ_0 TQ_1
    have G := Lib.hid (G.out.trans g9)
    have T0 := Lib.hid (T0.out.grow g9)
    have TQ := Lib.hid (TQ.out.grow g9)
    have TS := Lib.hid (TS.out.grow g9)
    have HQ := Lib.hid (HQ.out.grow g9)
    have HS := Lib.hid (HS.out.grow g9)
    clear g9
    clear htf
    cases t
    all_goals
      go_wp2_with fail
      go_ret2
      exact ⟨_, rfl, G.out, by first | rfl | (rw [← HX.out]; rfl)⟩
  · have hs0 : ¬ sr = 0 := by rw [← hsr]; unfold sgn; split <;> simp_all
    have hm : ¬ z.tmod q = 0 := by rw [← HR.out]; exact h0
    have ht2 : t = false := by
      rw [← HT.out, decide_eq_false (fun e => hm ((den_one z Hq.out).1 e))]; rfl
    subst ht2
    clear hsr h0 hm
    go_wp2_with fail
    go_ret2
    exact ⟨_, rfl, G.out, rfl⟩

set_option maxRecDepth 100000 in
set_option maxHeartbeats 3200000 in
theorem q_DivOk (w : World) (va vb : Value) (x y s : Rat) (L M : Nat) (ha : RatV w va x L) (hb : RatV w vb y M) (hs : x / y = s) (h0 : y ≠ 0) (hL : L ≤ 1000) (hM : M ≤ 1000) :
    Calls Tryz.prog 29 #[va, vb] w (Ret w fun r w' => ∃ u, r = .tuple #[u, .int .i64 0] ∧ RatC w' u s) := by
  have HBV := Lib.hid hb
  obtain ⟨z, q, ha2, rfl⟩ := ha.p
  obtain ⟨z', q', hb2, rfl⟩ := hb.p
  subst hs
  clear ha hb
  have HA := Lib.hid ha2
  have HB := Lib.hid hb2
  obtain ⟨s0, p0, k0, c0, e0, m0, n0, rfl⟩ := ha2.agg
  obtain ⟨s1, p1, k1, c1, e1, m1, n1, rfl⟩ := hb2.agg
  have Hq := Lib.hid ha2.ne
  have Hq' := Lib.hid hb2.ne
  have hz' : z' ≠ 0 := fun e => h0 ((Rat.mkRat_eq_zero hb2.ne).2 e)
  have HD := Lib.hid (show (q : Int) * z' ≠ 0 from Int.mul_ne_zero (by have := ha2.ne; omega) hz')
  obtain ⟨c, hc⟩ : ∃ c, sgn (mkRat z' q').num = c := ⟨_, rfl⟩
  have hc0 : ¬ c = 0 := by rw [← hc, ← sgn_mk z' hb2.ne]; unfold sgn; split <;> simp_all
  clear ha2 hb2 hz' h0
  have B := box333 w (.bool s0) (.slice p0 k0 c0) (.slice e0 m0 n0) (.bool s1) (.slice p1 k1 c1) (.slice e1 m1 n1) (.bool false) (.slice none 0 0) (.slice none 0 0) 27 27 27
  have Hb1 := Lib.hid (show ¬ w.heap.size + 1 < w.heap.size by omega)
  have Hb2 := Lib.hid (show ¬ w.heap.size + 1 + 1 < w.heap.size by omega)
  have Hd01 := Lib.hid (show w.heap.size ≠ w.heap.size + 1 by omega)
  have Hd02 := Lib.hid (show w.heap.size ≠ w.heap.size + 1 + 1 by omega)
  have Hd12 := Lib.hid (show w.heap.size + 1 ≠ w.heap.size + 1 + 1 by omega)
  go_enter Tryz.func29, Tryz.ntmps29
  go_wp2_with fail
  generalize ((w.alloc _).alloc _).alloc _ = W at B ⊢
  obtain ⟨G0, t0, t1, t2⟩ := B
  generalize w.heap.size + 1 + 1 = b2 at t2 Hb2 Hd02 Hd12 ⊢
  generalize w.heap.size + 1 = b1 at t1 Hb1 Hd01 Hd12 ⊢
  generalize hb0 : w.heap.size = b0 at t0 Hd01 Hd02 ⊢
  have Hb0 := Lib.hid (show ¬ b0 < w.heap.size by omega)
  have G := Lib.hid G0
  have T0 := Lib.hid t0
  have T1 := Lib.hid t1
  have T2 := Lib.hid t2
  clear hb0 G0 t0 t1 t2
  have HA := Lib.hid (HA.out.grow G.out)
  have HB := Lib.hid (HB.out.grow G.out)
  have HBV := Lib.hid (HBV.out.grow G.out)
  refine (q_Sign W _ _ c M HBV.out hc hM).mono ?_
  rintro _ w1 ⟨_, rfl, g1, rfl⟩
  have G := Lib.hid (G.out.trans g1)
  have T0 := Lib.hid (T0.out.grow g1)
  have T1 := Lib.hid (T1.out.grow g1)
  have T2 := Lib.hid (T2.out.grow g1)
  have HA := Lib.hid (HA.out.grow g1)
  have HB := Lib.hid (HB.out.grow g1)
  have HBV := Lib.hid (HBV.out.grow g1)
  clear g1
  have T0_0 := T0.out.load.1
  have T0_1 := T0.out.load.2.1
  have T0_2 := T0.out.load.2.2
  have T1_0 := T1.out.load.1
  have T1_1 := T1.out.load.2.1
  have T1_2 := T1.out.load.2.2
  go_wp2_with fail
  refine (rat_crossDiv w1 _ _ z z' q q' (z * (q' : Int)) ((q : Int) * z') (2 * (L + 1) + 2 * (M + 1) + 4) L M HA.out HB.out (by omega) (by omega) (by omega) HD.out (fun w' v1 v2 v3 v4 i1 i2 i3 i4 => clo_Div w' v1 v2 v3 v4 z q z' q' (L + 1) (M + 1) i1 i2 i3 i4 (by omega) (by omega))).mono ?_
  rintro _ w2 ⟨r2, rfl, g2, h2⟩
  clear T0_0 T0_1 T0_2 T1_0 T1_1 T1_2
  have G := Lib.hid (G.out.trans g2)
  have T0 := Lib.hid (T0.out.grow g2)
  have T1 := Lib.hid (T1.out.grow g2)
  have T2 := Lib.hid (T2.out.grow g2)
  have HA := Lib.hid (HA.out.grow g2)
  have HB := Lib.hid (HB.out.grow g2)
  have HBV := Lib.hid (HBV.out.grow g2)
  clear g2
  have H2 := Lib.hid h2
  clear h2
  have HV := Lib.hid (show RatC _ _ (mkRat z q / mkRat z' q') by rw [div_mk _ _ Hq.out Hq'.out]; exact H2.out)
  obtain ⟨s8, p8, k8, c8, e8, m8, n8, rfl⟩ := H2.out.agg
  have T2_0 := T2.out.load.1
  have T2_f0 := T2.out.f0 0
  have T2_1 := T2.out.load.2.1
  have T2_f1 := T2.out.f0 1
  have T2_2 := T2.out.load.2.2
  have T2_f2 := T2.out.f0 2
  go_wp2_with fail
  clear T2_0 T2_f0 T2_1 T2_f1 T2_2 T2_f2
  have hu := upd3 w2 b2 (.bool s8) (.slice p8 k8 c8) (.slice e8 m8 n8)
  have HV := Lib.hid (HV.out.upd T2.out.noInt hu)
  have T0 := Lib.hid (T0.out.upd hu Hd02.out)
  have T1 := Lib.hid (T1.out.upd hu Hd12.out)
  have T2 := Lib.hid (T2.out.set (.bool s8) (.slice p8 k8 c8) (.slice e8 m8 n8))
  have G := Lib.hid (G.out.three Hb2.out (.bool s8) (.slice p8 k8 c8) (.slice e8 m8 n8))
  clear hu
  generalize ((w2.setCell _ _).setCell _ _).setCell _ _ = W1 at G T0 T1 T2 HV ⊢
  have T2_0 := T2.out.load.1
  have T2_1 := T2.out.load.2.1
  have T2_2 := T2.out.load.2.2
  refine bodyPost_ret (by simp [results, Tryz.results29, go_sem, T2_0, T2_1, T2_2]; rfl) rfl ?_
  exact ⟨_, rfl, G.out, _, rfl, HV.out⟩
set_option maxRecDepth 100000 in
set_option maxHeartbeats 3200000 in
theorem q_DivNo (w : World) (va vb : Value) (x : Rat) (L M : Nat) (ha : RatV w va x L) (hb : RatV w vb 0 M) (hM : M ≤ 1000) :
    Calls Tryz.prog 29 #[va, vb] w (Ret w fun r w' => r = .tuple #[.agg #[.bool false, .slice none 0 0, .slice none 0 0], .int .i64 2]) := by
  have HB := Lib.hid hb
  obtain ⟨s0, p0, k0, c0, e0, m0, n0, rfl⟩ := ha.agg
  obtain ⟨s1, p1, k1, c1, e1, m1, n1, rfl⟩ := hb.agg
  clear ha hb
  have B := box333 w (.bool s0) (.slice p0 k0 c0) (.slice e0 m0 n0) (.bool s1) (.slice p1 k1 c1) (.slice e1 m1 n1) (.bool false) (.slice none 0 0) (.slice none 0 0) 27 27 27
  have Hb1 := Lib.hid (show ¬ w.heap.size + 1 < w.heap.size by omega)
  have Hb2 := Lib.hid (show ¬ w.heap.size + 1 + 1 < w.heap.size by omega)
  have Hd01 := Lib.hid (show w.heap.size ≠ w.heap.size + 1 by omega)
  have Hd02 := Lib.hid (show w.heap.size ≠ w.heap.size + 1 + 1 by omega)
  have Hd12 := Lib.hid (show w.heap.size + 1 ≠ w.heap.size + 1 + 1 by omega)
  go_enter Tryz.func29, Tryz.ntmps29
  go_wp2_with fail
  generalize ((w.alloc _).alloc _).alloc _ = W at B ⊢
  obtain ⟨G0, t0, t1, t2⟩ := B
  generalize w.heap.size + 1 + 1 = b2 at t2 Hb2 Hd02 Hd12 ⊢
  generalize w.heap.size + 1 = b1 at t1 Hb1 Hd01 Hd12 ⊢
  generalize hb0 : w.heap.size = b0 at t0 Hd01 Hd02 ⊢
  have Hb0 := Lib.hid (show ¬ b0 < w.heap.size by omega)
  have G := Lib.hid G0
  have T0 := Lib.hid t0
  have T1 := Lib.hid t1
  have T2 := Lib.hid t2
  clear hb0 G0 t0 t1 t2
  have HB := Lib.hid (HB.out.grow G.out)
  refine (q_Sign W _ 0 0 M HB.out (by decide) hM).mono ?_
  rintro _ w1 ⟨_, rfl, g1, rfl⟩
  have G := Lib.hid (G.out.trans g1)
  have T0 := Lib.hid (T0.out.grow g1)
  have T1 := Lib.hid (T1.out.grow g1)
  have T2 := Lib.hid (T2.out.grow g1)
  have HB := Lib.hid (HB.out.grow g1)
  clear g1
  have T2_0 := T2.out.load.1
  have T2_f0 := T2.out.f0 0
  have T2_1 := T2.out.load.2.1
  have T2_f1 := T2.out.f0 1
  have T2_2 := T2.out.load.2.2
  have T2_f2 := T2.out.f0 2
  go_wp2_with fail
  clear T2_0 T2_f0 T2_1 T2_f1 T2_2 T2_f2
  have hu := upd3 w1 b2 (.bool false) (.slice none 0 0) (.slice none 0 0)
  have HB := Lib.hid (HB.out.upd T2.out.noInt hu)
  have T0 := Lib.hid (T0.out.upd hu Hd02.out)
  have T1 := Lib.hid (T1.out.upd hu Hd12.out)
  have T2 := Lib.hid (T2.out.set (.bool false) (.slice none 0 0) (.slice none 0 0))
  have G := Lib.hid (G.out.three Hb2.out (.bool false) (.slice none 0 0) (.slice none 0 0))
  clear hu
  generalize ((w1.setCell _ _).setCell _ _).setCell _ _ = W1 at G T0 T1 T2 HB ⊢
  have T2_0 := T2.out.load.1
  have T2_1 := T2.out.load.2.1
  have T2_2 := T2.out.load.2.2
  refine bodyPost_ret (by simp [results, Tryz.results29, go_sem, T2_0, T2_1, T2_2]; rfl) rfl ?_
  exact ⟨_, rfl, G.out, rfl⟩
end Go.Proofs.YtmcgkglmlfbijaaGreatDoor

/-
  Integer quotients: the walk.
-/
import Derived.Test.YtpjblmedcipopaaLawE
import Derived.Test.YtpjblmedcipopaaFast
namespace Go.Proofs.Ytpjblmedcipopaa
open Go.RowKit
set_option linter.unusedVariables false
set_option linter.unusedSimpArgs false

theorem nval_of_zval {n : Bool} {l : List Nat} (h : zval n l = 0) : nval l = 0 := by
  unfold zval at h; split at h <;> omega

theorem v_Quo (w : World) (va vb : Value) (x y : Int) (L M : Nat) (hx : IntV w va x L) (hy : IntV w vb y M) (hL : L ≤ 1000000) (hM : M ≤ 1000000) (h0 : y ≠ 0) :
    Calls Try.prog 10 #[va, vb] w (Ret w fun r w' => ∃ nq pq kq cq ns ps ks cs, r = .tuple #[.agg #[.bool nq, .slice pq kq cq], .agg #[.bool ns, .slice ps ks cs], .int .i64 0] ∧
      IntC w' (.agg #[.bool nq, .slice pq kq cq]) (quoZ false x y) ∧ IntC w' (.agg #[.bool ns, .slice ps ks cs]) (x - quoZ false x y * y)) := by
  obtain ⟨n, l, h1, rfl, h3⟩ := hx
  obtain ⟨n', l', k1, rfl, k3⟩ := hy
  refine (int_Quo w va vb n n' l l' _ _ _ _ rfl rfl rfl rfl h1 k1 (by omega) (by omega) h0).mono ?_
  rintro _ w1 ⟨_, rfl, g, q, s, rfl, hq, hs⟩
  have hq' := hq
  have hs' := hs
  obtain ⟨p, k, c, rfl, _⟩ := hq
  obtain ⟨p', k', c', rfl, _⟩ := hs
  exact ⟨_, rfl, g, _, _, _, _, _, _, _, _, rfl, hq', hs'⟩
theorem v_Floor (w : World) (va vb : Value) (x y : Int) (L M : Nat) (hx : IntV w va x L) (hy : IntV w vb y M) (hL : L ≤ 1000000) (hM : M ≤ 1000000) (h0 : y ≠ 0) :
    Calls Try.prog 11 #[va, vb] w (Ret w fun r w' => ∃ nq pq kq cq ns ps ks cs, r = .tuple #[.agg #[.bool nq, .slice pq kq cq], .agg #[.bool ns, .slice ps ks cs], .int .i64 0] ∧
      IntC w' (.agg #[.bool nq, .slice pq kq cq]) (quoZ true x y) ∧ IntC w' (.agg #[.bool ns, .slice ps ks cs]) (x - quoZ true x y * y)) := by
  obtain ⟨n, l, h1, rfl, h3⟩ := hx
  obtain ⟨n', l', k1, rfl, k3⟩ := hy
  refine (int_Floor w va vb n n' l l' _ _ _ _ rfl rfl rfl rfl h1 k1 (by omega) (by omega) h0).mono ?_
  rintro _ w1 ⟨_, rfl, g, q, s, rfl, hq, hs⟩
  have hq' := hq
  have hs' := hs
  obtain ⟨p, k, c, rfl, _⟩ := hq
  obtain ⟨p', k', c', rfl, _⟩ := hs
  exact ⟨_, rfl, g, _, _, _, _, _, _, _, _, rfl, hq', hs'⟩
theorem v_Quo0 (w : World) (va vb : Value) (x : Int) (L M : Nat) (hx : IntV w va x L) (hy : IntV w vb 0 M) :
    Calls Try.prog 10 #[va, vb] w (Ret w fun r w' => r = .tuple #[.agg #[.bool false, .slice none 0 0], .agg #[.bool false, .slice none 0 0], .int .i64 2]) := by
  obtain ⟨n, l, h1, rfl, h3⟩ := hx
  obtain ⟨n', l', k1, h, k3⟩ := hy
  exact int_Quo_zero w va vb n n' l l' h1 k1 (nval_of_zval h)
theorem v_Floor0 (w : World) (va vb : Value) (x : Int) (L M : Nat) (hx : IntV w va x L) (hy : IntV w vb 0 M) :
    Calls Try.prog 11 #[va, vb] w (Ret w fun r w' => r = .tuple #[.agg #[.bool false, .slice none 0 0], .agg #[.bool false, .slice none 0 0], .int .i64 2]) := by
  obtain ⟨n, l, h1, rfl, h3⟩ := hx
  obtain ⟨n', l', k1, h, k3⟩ := hy
  exact int_Floor_zero w va vb n n' l l' h1 k1 (nval_of_zval h)
theorem v_QuoV (w : World) (va vb : Value) (x y Q : Int) (L M : Nat) (hx : IntV w va x L) (hy : IntV w vb y M) (hL : L ≤ 1000000) (hM : M ≤ 1000000) (h0 : y ≠ 0) (hQ : quoZ false x y = Q) :
    Calls Try.prog 10 #[va, vb] w (Ret w fun r w' => ∃ nq pq kq cq ns ps ks cs, r = .tuple #[.agg #[.bool nq, .slice pq kq cq], .agg #[.bool ns, .slice ps ks cs], .int .i64 0] ∧
      IntC w' (.agg #[.bool nq, .slice pq kq cq]) Q ∧ IntC w' (.agg #[.bool ns, .slice ps ks cs]) (x - Q * y)) := by
  subst hQ; exact v_Quo w va vb x y L M hx hy hL hM h0
theorem v_FloorV (w : World) (va vb : Value) (x y Q : Int) (L M : Nat) (hx : IntV w va x L) (hy : IntV w vb y M) (hL : L ≤ 1000000) (hM : M ≤ 1000000) (h0 : y ≠ 0) (hQ : quoZ true x y = Q) :
    Calls Try.prog 11 #[va, vb] w (Ret w fun r w' => ∃ nq pq kq cq ns ps ks cs, r = .tuple #[.agg #[.bool nq, .slice pq kq cq], .agg #[.bool ns, .slice ps ks cs], .int .i64 0] ∧
      IntC w' (.agg #[.bool nq, .slice pq kq cq]) Q ∧ IntC w' (.agg #[.bool ns, .slice ps ks cs]) (x - Q * y)) := by
  subst hQ; exact v_Floor w va vb x y L M hx hy hL hM h0
theorem zeroC (w : World) : IntC w (.agg #[.bool false, .slice none 0 0]) 0 := by
  obtain ⟨n, l, h, h2, h3⟩ := zeroV w
  obtain rfl : l = [] := List.eq_nil_of_length_eq_zero (by omega)
  obtain ⟨p, k, c, he, h⟩ := h
  injection he with he
  have he := congrArg (·[0]?) he
  simp at he
  subst he
  exact ⟨none, 0, 0, rfl, by rw [show digs (0 : Int).natAbs = [] from digs_eq_nil.2 rfl]; exact NatL.nil w⟩
theorem quo_len (fl : Bool) (x y : Int) (hx : (digs x.natAbs).length ≤ 10) : (digs (quoZ fl x y).natAbs).length ≤ 11 := by
  have h : (quoZ fl x y).natAbs ≤ x.natAbs + 1 := by
    have h1 := Nat.div_le_self x.natAbs y.natAbs
    have h2 : (if (fl && (decide (sgn x * sgn y < 0) && decide (0 < x.natAbs % y.natAbs))) = true then 1 else 0 : Nat) ≤ 1 := by split <;> omega
    unfold quoZ
    dsimp only
    generalize (if (fl && (decide (sgn x * sgn y < 0) && decide (0 < x.natAbs % y.natAbs))) = true then 1 else 0 : Nat) = e at *
    generalize x.natAbs / y.natAbs = q at *
    split <;> omega
  refine Nat.le_trans (digs_mono_length h) ?_
  exact digs_add_length (k := 10) hx (Nat.le_trans (digs_length_le (k := 1) (by decide)) (by decide))
theorem ref_SignV (w : World) (va : Value) (x z : Int) (L : Nat) (hx : IntV w va x L) (hz : sgn x = z) (hL : L ≤ 1000000) :
    Calls Try.prog 12 #[va] w (Ret w fun r w' => r = .int .i64 z) := by
  obtain ⟨n, l, h1, rfl, h3⟩ := hx
  exact ref2_Sign w va n l z hz h1 (by omega)

set_option maxRecDepth 100000 in
set_option maxHeartbeats 6400000 in
theorem law_Quotients (w : World) (va : Value) (n0 : Bool) (l0 : List Nat) (i0 : IntL w va n0 l0) (vb : Value) (n1 : Bool) (l1 : List Nat) (i1 : IntL w vb n1 l1) :
    Calls Try.prog 3 #[va, vb] w (Ret w fun r w' => r = .bool true) := by
  have HA0 := Lib.hid i0
  have HA1 := Lib.hid i1
  obtain ⟨p0, k0, c0, rfl, i0⟩ := i0
  obtain ⟨p1, k1, c1, rfl, i1⟩ := i1
  have hl0 := Lib.hid i0.len
  have hl1 := Lib.hid i1.len
  have HN1 := Lib.hid i1
  have B := boxed2 w (.bool n0) (.slice p0 k0 c0) (.bool n1) (.slice p1 k1 c1) 25 25
  clear i0 i1
  go_enter Try.func3, Try.ntmps3
  go_wp2_with fail
  generalize (w.alloc _).alloc _ = W at B ⊢
  obtain ⟨G0, t0, t1⟩ := B
  generalize w.heap.size = b0 at t0 t1 ⊢
  have HW := Lib.hid G0
  have T0 := Lib.hid t0
  have T1 := Lib.hid t1
  clear G0 t0 t1
  refine (law_awake W).mono ?_
  rintro _ w1 ⟨_, rfl, g1, rfl⟩
  have a0 := T0.out.c0 w1 g1
  have d0 := T0.out.c1 w1 g1
  have a1 := T1.out.c0 w1 g1
  have d1 := T1.out.c1 w1 g1
  have G1 := Lib.hid g1
  clear g1
  go_wp2_with fail
  obtain ⟨t, ht⟩ : ∃ t, decide (∀ i, i < 2 → (if i = 0 then k0 else k1) ≤ 10) = t := ⟨_, rfl⟩
  have HT := Lib.hid ht
  refine (law_few _ _ 2 2 (fun i => if i = 0 then n0 else n1) (fun i => if i = 0 then p0 else p1) (fun i => if i = 0 then k0 else k1) (fun i => if i = 0 then c0 else c1) (by decide) (by decide) t ht (fun i hi => ?_)).mono ?_
  · match i, hi with
    | 0, _ => exact ⟨cell_new _ _ _ _, cell_new _ _ _ _⟩
    | 1, _ => exact ⟨cell_new _ _ _ _, cell_new _ _ _ _⟩
  rintro _ w3 ⟨_, rfl, g3, rfl⟩
  have G3 := Lib.hid (G1.out.trans (((Gr.refl w1).alloc _).trans g3))
  clear a0 d0 a1 d1 g3 G1
  cases t
  · clear ht
    go_wp2_with fail
    refine (law_awake w3).mono ?_
    rintro _ w4 ⟨_, rfl, g4, rfl⟩
    have G4 := Lib.hid g4
    clear g4
    go_wp2_with fail
    go_ret
    exact ⟨_, rfl, HW.out.trans (G3.out.trans G4.out), rfl⟩
  · have hh := of_decide_eq_true ht
    have m0 : k0 ≤ 10 := hh 0 (by decide)
    have m1 : k1 ≤ 10 := hh 1 (by decide)
    obtain ⟨x0, hx0⟩ : ∃ x, zval n0 l0 = x := ⟨_, rfl⟩
    obtain ⟨x1, hx1⟩ : ∃ x, zval n1 l1 = x := ⟨_, rfl⟩
    have LA0 := Lib.hid (show l0.length ≤ 10 by rw [hl0.out]; exact m0)
    have LA1 := Lib.hid (show l1.length ≤ 10 by rw [hl1.out]; exact m1)
    have HL0 := Lib.hid (HA0.out.grow (HW.out.trans G3.out))
    have HL1 := Lib.hid (HA1.out.grow (HW.out.trans G3.out))
    have HN1 := Lib.hid (HN1.out.grow (HW.out.trans G3.out))
    have HX0 := Lib.hid hx0
    have HX1 := Lib.hid hx1
    have IA0 := Lib.hid (show IntV w3 _ _ 10 from ⟨n0, l0, HL0.out, HX0.out, LA0.out⟩)
    have IA1 := Lib.hid (show IntV w3 _ _ 10 from ⟨n1, l1, HL1.out, HX1.out, LA1.out⟩)
    have U0 := Lib.hid (T0.out.grow G3.out)
    have U1 := Lib.hid (T1.out.grow G3.out)
    have a0 := U0.out.c0 w3 (Gr.refl _)
    have d0 := U0.out.c1 w3 (Gr.refl _)
    have a1 := U1.out.c0 w3 (Gr.refl _)
    have d1 := U1.out.c1 w3 (Gr.refl _)
    clear hh ht m0 m1 hx0 hx1 T0 T1 HA0 HA1 hl0 hl1
    go_wp2_with fail
    clear a0 a1 d0 d1
    by_cases hy0 : x1 = 0
    · subst hy0
      refine (v_Quo0 _ _ _ _ 10 10 IA0.out IA1.out).mono ?_
      rintro _ w4 ⟨_, rfl, gn, rfl⟩
      have U0 := Lib.hid (U0.out.grow gn)
      have U1 := Lib.hid (U1.out.grow gn)
      have IA0 := Lib.hid (IA0.out.grow gn)
      have IA1 := Lib.hid (IA1.out.grow gn)
      have B := boxed2 w4 (.bool false) (.slice none 0 0) (.bool false) (.slice none 0 0) 25 25
      obtain ⟨GB, tq, tr⟩ := B
      have a0 := (U0.out.grow GB).c0 _ (Gr.refl _)
      have d0 := (U0.out.grow GB).c1 _ (Gr.refl _)
      have a1 := (U1.out.grow GB).c0 _ (Gr.refl _)
      have d1 := (U1.out.grow GB).c1 _ (Gr.refl _)
      have U0 := Lib.hid (U0.out.grow GB)
      have U1 := Lib.hid (U1.out.grow GB)
      have IA0 := Lib.hid (IA0.out.grow GB)
      have IA1 := Lib.hid (IA1.out.grow GB)
      have G3 := Lib.hid (G3.out.trans (gn.trans GB))
      have TQ := Lib.hid tq
      have TR := Lib.hid tr
      clear tq tr GB gn
      go_wp2_with fail
      clear a0 a1 d0 d1
      generalize (w4.alloc _).alloc _ = W5 at U0 U1 IA0 IA1 TQ TR G3 ⊢
      refine (v_Floor0 _ _ _ _ 10 10 IA0.out IA1.out).mono ?_
      rintro _ w6 ⟨_, rfl, gn, rfl⟩
      have U0 := Lib.hid (U0.out.grow gn)
      have U1 := Lib.hid (U1.out.grow gn)
      have IA0 := Lib.hid (IA0.out.grow gn)
      have IA1 := Lib.hid (IA1.out.grow gn)
      have TQ := Lib.hid (TQ.out.grow gn)
      have TR := Lib.hid (TR.out.grow gn)
      have B := boxed2 w6 (.bool false) (.slice none 0 0) (.bool false) (.slice none 0 0) 25 25
      obtain ⟨GB, tq, tr⟩ := B
      have a0 := (U0.out.grow GB).c0 _ (Gr.refl _)
      have d0 := (U0.out.grow GB).c1 _ (Gr.refl _)
      have a1 := (U1.out.grow GB).c0 _ (Gr.refl _)
      have d1 := (U1.out.grow GB).c1 _ (Gr.refl _)
      have U0 := Lib.hid (U0.out.grow GB)
      have U1 := Lib.hid (U1.out.grow GB)
      have IA0 := Lib.hid (IA0.out.grow GB)
      have IA1 := Lib.hid (IA1.out.grow GB)
      have TQ := Lib.hid (TQ.out.grow GB)
      have TR := Lib.hid (TR.out.grow GB)
      have G3 := Lib.hid (G3.out.trans (gn.trans GB))
      have TF := Lib.hid tq
      have TG := Lib.hid tr
      clear tq tr GB gn
      go_wp2_with fail
      clear a0 a1 d0 d1
      generalize (w6.alloc _).alloc _ = W7 at U0 U1 IA0 IA1 TQ TR TF TG G3 ⊢
      refine (ref_SignV _ _ _ 0 10 IA1.out rfl (by decide)).mono ?_
      rintro _ w8 ⟨_, rfl, gn, rfl⟩
      have TQ := Lib.hid (TQ.out.grow gn)
      have TR := Lib.hid (TR.out.grow gn)
      have TF := Lib.hid (TF.out.grow gn)
      have TG := Lib.hid (TG.out.grow gn)
      have G3 := Lib.hid (G3.out.trans gn)
      clear gn
      have cx := TQ.out.c0 w8 (Gr.refl _)
      have dx := TQ.out.c1 w8 (Gr.refl _)
      go_wp2_with fail
      clear cx dx
      refine (v_Same _ _ _ 0 0 true (zeroC _) (zeroC _) (by simp)).mono ?_
      rintro _ w9 ⟨_, rfl, gn, rfl⟩
      have TR := Lib.hid (TR.out.grow gn)
      have TF := Lib.hid (TF.out.grow gn)
      have TG := Lib.hid (TG.out.grow gn)
      have G3 := Lib.hid (G3.out.trans gn)
      clear gn
      have cx := TR.out.c0 w9 (Gr.refl _)
      have dx := TR.out.c1 w9 (Gr.refl _)
      go_wp2_with fail
      clear cx dx
      refine (v_Same _ _ _ 0 0 true (zeroC _) (zeroC _) (by simp)).mono ?_
      rintro _ w10 ⟨_, rfl, gn, rfl⟩
      have TF := Lib.hid (TF.out.grow gn)
      have TG := Lib.hid (TG.out.grow gn)
      have G3 := Lib.hid (G3.out.trans gn)
      clear gn
      have cx := TF.out.c0 w10 (Gr.refl _)
      have dx := TF.out.c1 w10 (Gr.refl _)
      go_wp2_with fail
      clear cx dx
      refine (v_Same _ _ _ 0 0 true (zeroC _) (zeroC _) (by simp)).mono ?_
      rintro _ w11 ⟨_, rfl, gn, rfl⟩
      have TG := Lib.hid (TG.out.grow gn)
      have G3 := Lib.hid (G3.out.trans gn)
      clear gn
      have cx := TG.out.c0 w11 (Gr.refl _)
      have dx := TG.out.c1 w11 (Gr.refl _)
      go_wp2_with fail
      clear cx dx
      refine (v_Same _ _ _ 0 0 true (zeroC _) (zeroC _) (by simp)).mono ?_
      rintro _ w12 ⟨_, rfl, gn, rfl⟩
      have G3 := Lib.hid (G3.out.trans gn)
      clear gn
      go_wp2_with fail
      go_ret
      exact ⟨_, rfl, HW.out.trans G3.out, rfl⟩
    · have FQ := Lib.hid (quo_facts false x0 x1 hy0)
      have FF := Lib.hid (quo_facts true x0 x1 hy0)
      have LQ := Lib.hid (quo_len false x0 x1 IA0.out.len)
      have LF := Lib.hid (quo_len true x0 x1 IA0.out.len)
      have LY := Lib.hid IA1.out.len
      obtain ⟨Q, hQ⟩ : ∃ Q, quoZ false x0 x1 = Q := ⟨_, rfl⟩
      obtain ⟨F, hF⟩ : ∃ F, quoZ true x0 x1 = F := ⟨_, rfl⟩
      rw [hQ] at FQ LQ
      rw [hF] at FF LF
      have HQ := Lib.hid hQ
      have HF := Lib.hid hF
      clear hQ hF
      refine (v_QuoV _ _ _ _ _ Q 10 10 IA0.out IA1.out (by decide) (by decide) hy0 HQ.out).mono ?_
      rintro _ w4 ⟨_, rfl, gn, nq, pq, kq, cq, ns, ps, ks, cs, rfl, hq, hs⟩
      have U0 := Lib.hid (U0.out.grow gn)
      have U1 := Lib.hid (U1.out.grow gn)
      have IA0 := Lib.hid (IA0.out.grow gn)
      have IA1 := Lib.hid (IA1.out.grow gn)
      have HL0 := Lib.hid (HL0.out.grow gn)
      have HL1 := Lib.hid (HL1.out.grow gn)
      have HN1 := Lib.hid (HN1.out.grow gn)
      have B := boxed2 w4 (.bool nq) (.slice pq kq cq) (.bool ns) (.slice ps ks cs) 25 25
      obtain ⟨GB, tq, tr⟩ := B
      have KQ := Lib.hid (hq.grow GB)
      have KR := Lib.hid (hs.grow GB)
      clear hq hs
      have a0 := (U0.out.grow GB).c0 _ (Gr.refl _)
      have d0 := (U0.out.grow GB).c1 _ (Gr.refl _)
      have a1 := (U1.out.grow GB).c0 _ (Gr.refl _)
      have d1 := (U1.out.grow GB).c1 _ (Gr.refl _)
      have U0 := Lib.hid (U0.out.grow GB)
      have U1 := Lib.hid (U1.out.grow GB)
      have IA0 := Lib.hid (IA0.out.grow GB)
      have IA1 := Lib.hid (IA1.out.grow GB)
      have HL0 := Lib.hid (HL0.out.grow GB)
      have HL1 := Lib.hid (HL1.out.grow GB)
      have HN1 := Lib.hid (HN1.out.grow GB)
      have G3 := Lib.hid (G3.out.trans (gn.trans GB))
      have TQ := Lib.hid tq
      have TR := Lib.hid tr
      clear tq tr GB gn
      go_wp2_with fail
      clear a0 a1 d0 d1
      generalize (w4.alloc _).alloc _ = W5 at U0 U1 IA0 IA1 HL0 HL1 HN1 TQ TR G3 KQ KR ⊢
      refine (v_FloorV _ _ _ _ _ F 10 10 IA0.out IA1.out (by decide) (by decide) hy0 HF.out).mono ?_
      rintro _ w6 ⟨_, rfl, gn, nf, pf, kf, cf, ng, pg, kg, cg, rfl, hq, hs⟩
      have U0 := Lib.hid (U0.out.grow gn)
      have U1 := Lib.hid (U1.out.grow gn)
      have IA0 := Lib.hid (IA0.out.grow gn)
      have IA1 := Lib.hid (IA1.out.grow gn)
      have HL0 := Lib.hid (HL0.out.grow gn)
      have HL1 := Lib.hid (HL1.out.grow gn)
      have HN1 := Lib.hid (HN1.out.grow gn)
      have TQ := Lib.hid (TQ.out.grow gn)
      have TR := Lib.hid (TR.out.grow gn)
      have KQ := Lib.hid (KQ.out.grow gn)
      have KR := Lib.hid (KR.out.grow gn)
      have B := boxed2 w6 (.bool nf) (.slice pf kf cf) (.bool ng) (.slice pg kg cg) 25 25
      obtain ⟨GB, tq, tr⟩ := B
      have KF := Lib.hid (hq.grow GB)
      have KG := Lib.hid (hs.grow GB)
      clear hq hs
      have a0 := (U0.out.grow GB).c0 _ (Gr.refl _)
      have d0 := (U0.out.grow GB).c1 _ (Gr.refl _)
      have a1 := (U1.out.grow GB).c0 _ (Gr.refl _)
      have d1 := (U1.out.grow GB).c1 _ (Gr.refl _)
      have U0 := Lib.hid (U0.out.grow GB)
      have U1 := Lib.hid (U1.out.grow GB)
      have IA0 := Lib.hid (IA0.out.grow GB)
      have IA1 := Lib.hid (IA1.out.grow GB)
      have HL0 := Lib.hid (HL0.out.grow GB)
      have HL1 := Lib.hid (HL1.out.grow GB)
      have HN1 := Lib.hid (HN1.out.grow GB)
      have TQ := Lib.hid (TQ.out.grow GB)
      have TR := Lib.hid (TR.out.grow GB)
      have KQ := Lib.hid (KQ.out.grow GB)
      have KR := Lib.hid (KR.out.grow GB)
      have G3 := Lib.hid (G3.out.trans (gn.trans GB))
      have TF := Lib.hid tq
      have TG := Lib.hid tr
      clear tq tr GB gn
      go_wp2_with fail
      clear a0 a1 d0 d1
      generalize (w6.alloc _).alloc _ = W7 at U0 U1 IA0 IA1 HL0 HL1 HN1 TQ TR KQ KR TF TG G3 KF KG ⊢
      obtain ⟨s0, hs0⟩ : ∃ s, sgn x0 = s := ⟨_, rfl⟩
      obtain ⟨s1, hs1⟩ : ∃ s, sgn x1 = s := ⟨_, rfl⟩
      have S0 := Lib.hid hs0
      have S1 := Lib.hid hs1
      have hne : s1 ≠ 0 := by rw [← hs1]; unfold sgn; split <;> (try split) <;> omega
      clear hs0 hs1 hy0
      refine (ref_SignV _ _ _ s1 10 IA1.out S1.out (by decide)).mono ?_
      rintro _ w8 ⟨_, rfl, gn, rfl⟩
      have U0 := Lib.hid (U0.out.grow gn)
      have U1 := Lib.hid (U1.out.grow gn)
      have IA0 := Lib.hid (IA0.out.grow gn)
      have IA1 := Lib.hid (IA1.out.grow gn)
      have HL0 := Lib.hid (HL0.out.grow gn)
      have HL1 := Lib.hid (HL1.out.grow gn)
      have HN1 := Lib.hid (HN1.out.grow gn)
      have TQ := Lib.hid (TQ.out.grow gn)
      have TR := Lib.hid (TR.out.grow gn)
      have TF := Lib.hid (TF.out.grow gn)
      have TG := Lib.hid (TG.out.grow gn)
      have KQ := Lib.hid (KQ.out.grow gn)
      have KR := Lib.hid (KR.out.grow gn)
      have KF := Lib.hid (KF.out.grow gn)
      have KG := Lib.hid (KG.out.grow gn)
      have G3 := Lib.hid (G3.out.trans gn)
      clear gn
      go_wp2_with fail
      clear hne
      have a0 := U0.out.c0
      have d0 := U0.out.c1
      have a1 := U1.out.c0
      have d1 := U1.out.c1
      have q0 := TQ.out.c0
      have q1 := TQ.out.c1
      have r0 := TR.out.c0
      have r1 := TR.out.c1
      have f0 := TF.out.c0
      have f1 := TF.out.c1
      have g0 := TG.out.c0
      have g1 := TG.out.c1
      refine wp_region_fast [(0, true), (1, true), (2, true), (3, true), (4, true), (5, true), (6, true), (7, true), (8, true), (9, true), (10, true), (11, false), (12, false), (13, true), (14, true), (15, true), (16, true), (17, true), (18, true), (19, false), (20, false), (21, true), (22, true)] (by kernel_rfl) (by kernel_rfl) rfl (by kernel_rfl) (fun _ _ d _ _ h => by cases d <;> exact h) ?_
      have g0 : Gr w8 w8.drew := (Gr.refl _).drew
      repeat (refine wpE_readB (v := ?_) g0 rfl rfl (fun w' hg => ?_) (fun K hK => ?_); rotate_left; (go_simp; rfl); go_simp; refine hK _ _ ?_; clear hK K)
      refine wpE_fn (args := ?_) rfl rfl rfl rfl rfl rfl (by kernel_rfl) (by kernel_rfl) ?_ (fun K hK => ?_)
      rotate_left
      · go_simp; rfl
      refine (ref_SignV _ _ _ s0 10 (IA0.out.grow g0) S0.out (by decide)).mono ?_
      rintro _ v1 ⟨_, rfl, gn, rfl⟩
      refine ⟨_, rfl, gn, ?_⟩
      go_simp
      refine hK _ _ ?_
      clear hK K
      have h1 := g0.trans gn
      clear gn g0
      repeat (refine wpE_readB (v := ?_) h1 rfl rfl (fun w' hg => ?_) (fun K hK => ?_); rotate_left; (go_simp; rfl); go_simp; refine hK _ _ ?_; clear hK K)
      refine wpE_fn (args := ?_) rfl rfl rfl rfl rfl rfl (by kernel_rfl) (by kernel_rfl) ?_ (fun K hK => ?_)
      rotate_left
      · go_simp; rfl
      refine (law_Quo1 _ _ _ Q _ x0 x1 s0 (b0 + 1) b0 n1 n0 p1 p0 k1 c1 k0 c0 l1 l0 (KQ.out.grow h1) (KR.out.grow h1) (Nat.le_trans LQ.out (by decide)) (Nat.le_trans (digs_mono_length (Nat.le_of_lt FQ.out.1)) (Nat.le_trans LY.out (by decide))) (Nat.le_trans (len_mul LQ.out LY.out) (by decide)) (Nat.le_trans LA1.out (by decide)) (Nat.le_trans LA0.out (by decide)) (a1 _ h1) (d1 _ h1) (a0 _ h1) (d0 _ h1) (HL1.out.grow h1) (HL0.out.grow h1) (HN1.out.grow h1) HX1.out HX0.out (by omega) FQ.out.1 (by have h := FQ.out.2; simp only [if_true, if_false, Bool.false_eq_true, S0.out, S1.out] at h; exact h)).mono ?_
      rintro _ v2 ⟨_, rfl, gn, rfl⟩
      refine ⟨_, rfl, gn, ?_⟩
      go_simp
      refine hK _ _ ?_
      clear hK K
      have h2 := h1.trans gn
      clear gn h1
      repeat (refine wpE_readB (v := ?_) h2 rfl rfl (fun w' hg => ?_) (fun K hK => ?_); rotate_left; (go_simp; rfl); go_simp; refine hK _ _ ?_; clear hK K)
      refine wpE_fn (args := ?_) rfl rfl rfl rfl rfl rfl (by kernel_rfl) (by kernel_rfl) ?_ (fun K hK => ?_)
      rotate_left
      · go_simp; rfl
      refine (ref_SignV _ _ _ s1 10 (IA1.out.grow h2) S1.out (by decide)).mono ?_
      rintro _ v3 ⟨_, rfl, gn, rfl⟩
      refine ⟨_, rfl, gn, ?_⟩
      go_simp
      refine hK _ _ ?_
      clear hK K
      have h3 := h2.trans gn
      clear gn h2
      repeat (refine wpE_readB (v := ?_) h3 rfl rfl (fun w' hg => ?_) (fun K hK => ?_); rotate_left; (go_simp; rfl); go_simp; refine hK _ _ ?_; clear hK K)
      refine wpE_fn (args := ?_) rfl rfl rfl rfl rfl rfl (by kernel_rfl) (by kernel_rfl) ?_ (fun K hK => ?_)
      rotate_left
      · go_simp; rfl
      refine (law_Quo1 _ _ _ F _ x0 x1 s1 (b0 + 1) b0 n1 n0 p1 p0 k1 c1 k0 c0 l1 l0 (KF.out.grow h3) (KG.out.grow h3) (Nat.le_trans LF.out (by decide)) (Nat.le_trans (digs_mono_length (Nat.le_of_lt FF.out.1)) (Nat.le_trans LY.out (by decide))) (Nat.le_trans (len_mul LF.out LY.out) (by decide)) (Nat.le_trans LA1.out (by decide)) (Nat.le_trans LA0.out (by decide)) (a1 _ h3) (d1 _ h3) (a0 _ h3) (d0 _ h3) (HL1.out.grow h3) (HL0.out.grow h3) (HN1.out.grow h3) HX1.out HX0.out (by omega) FF.out.1 (by have h := FF.out.2; simp only [if_true, if_false, Bool.false_eq_true, S0.out, S1.out] at h; exact h)).mono ?_
      rintro _ v4 ⟨_, rfl, gn, rfl⟩
      refine ⟨_, rfl, gn, ?_⟩
      go_simp
      refine hK _ _ ?_
      clear hK K
      have h4 := h3.trans gn
      clear gn h3
      repeat (refine wpE_readB (v := ?_) h4 rfl rfl (fun w' hg => ?_) (fun K hK => ?_); rotate_left; (go_simp; rfl); go_simp; refine hK _ _ ?_; clear hK K)
      refine wpE_nil ?_
      go_wp2_with fail
      go_ret
      exact ⟨_, rfl, HW.out.trans (G3.out.trans h4), rfl⟩
end Go.Proofs.Ytpjblmedcipopaa

/-
  RationalForms: the walk.
-/
import Derived.Test.YtmcgkglmlfbijaaGreatDoorRatT
namespace Go.Proofs.YtmcgkglmlfbijaaGreatDoor
open Go.RowKit Go.Lib
set_option linter.unusedVariables false
set_option linter.unusedSimpArgs false

theorem RatL.num {w : World} {s : Bool} {p q : Option Addr} {k c m e : Nat} {l d : List Nat} (h : RatL w (.agg #[.bool s, .slice p k c, .slice q m e]) s l d) : IntV w (.agg #[.bool s, .slice p k c]) (zval s l) l.length := by
  obtain ⟨p1, k1, c1, q1, m1, e1, hv, h1, h2⟩ := h
  simp only [Value.agg.injEq, Array.mk.injEq, List.cons.injEq, Value.bool.injEq, Value.slice.injEq, and_true] at hv
  obtain ⟨-, ⟨rfl, rfl, rfl⟩, -⟩ := hv
  exact ⟨s, l, ⟨_, _, _, rfl, h1⟩, rfl, Nat.le_refl _⟩

set_option maxRecDepth 100000 in
set_option maxHeartbeats 12800000 in
theorem law_RationalForms (w : World) (htab : Tab w) (v0 : Value) (s0 : Bool) (l0 d0 : List Nat) (m n : Int) (hm1 : -9223372036854775808 ≤ m) (hm2 : m ≤ 9223372036854775807) (hn1 : -9223372036854775808 ≤ n) (hn2 : n ≤ 9223372036854775807) (i0 : RatL w v0 s0 l0 d0) :
    Calls Tryz.prog 8 #[v0, .int .i64 m, .int .i64 n] w (Ret w fun r w' => r = .bool true) := by
  have HTab := Lib.hid htab
  clear htab
  have HA0 := Lib.hid i0
  obtain ⟨p0, k0, c0, e0, m0, n0, rfl, j0, j0'⟩ := i0
  have Hl0 := Lib.hid j0.len
  have Hm0 := Lib.hid j0'.len
  clear j0 j0'
  have B := box3 w (.bool s0) (.slice p0 k0 c0) (.slice e0 m0 n0) 27
  go_enter Tryz.func8, Tryz.ntmps8
  go_wp2_with fail
  generalize w.alloc _ = W at B ⊢
  obtain ⟨G0, t0⟩ := B
  generalize hb0 : w.heap.size = b0 at t0  ⊢
  have Hb0 := Lib.hid (show ¬ b0 < w.heap.size by omega)
  have G := Lib.hid G0
  have T0 := Lib.hid t0
  clear hb0 G0 t0
  have HA0 := Lib.hid (HA0.out.grow G.out)
  refine (law_awake3 W (HTab.out.grow G.out)).mono ?_
  rintro _ w1 ⟨_, rfl, g1, rfl⟩
  have G := Lib.hid (G.out.trans g1)
  have T0 := Lib.hid (T0.out.grow g1)
  have HA0 := Lib.hid (HA0.out.grow g1)
  clear g1
  have T0_0 := T0.out.load.1
  have T0_1 := T0.out.load.2.1
  have T0_2 := T0.out.load.2.2
  go_wp2_with fail
  clear T0_0 T0_1 T0_2
  obtain ⟨t, ht⟩ : ∃ t, decide (∀ i, i < 1 → (k0) ≤ 6 ∧ (m0) ≤ 6) = t := ⟨_, rfl⟩
  refine (ref_Few _ _ 1 1 6 (fun i => s0) (fun i => p0) (fun i => e0) (fun i => k0) (fun i => c0) (fun i => m0) (fun i => n0) (by decide) (by decide) (by decide) t ht (fun i hi => ?_)).mono ?_
  · match i, hi with
    | 0, _ => exact ⟨cell_new3 _ _ _ _, cell_new3 _ _ _ _, cell_new3 _ _ _ _⟩
  rintro _ w3 ⟨_, rfl, g3, rfl⟩
  have g4 : Gr w1 w3 := ((Gr.refl w1).alloc _).trans g3
  clear g3
  have G := Lib.hid (G.out.trans g4)
  have T0 := Lib.hid (T0.out.grow g4)
  have HA0 := Lib.hid (HA0.out.grow g4)
  clear g4
  cases t
  · clear ht
    go_wp2_with fail
    refine (law_awake3 w3 (HTab.out.grow G.out)).mono ?_
    rintro _ w5 ⟨_, rfl, g5, rfl⟩
    have G := Lib.hid (G.out.trans g5)
    have T0 := Lib.hid (T0.out.grow g5)
    have HA0 := Lib.hid (HA0.out.grow g5)
    clear g5
    go_wp2_with fail
    go_ret
    exact ⟨_, rfl, G.out, rfl⟩
  · have hh := of_decide_eq_true ht
    have hk0 := hh 0 (by decide)
    obtain ⟨x0, hx0⟩ : ∃ x, ratv s0 l0 d0 = x := ⟨_, rfl⟩
    have HR0 := Lib.hid (show RatV w3 _ x0 6 from ⟨s0, l0, d0, HA0.out, hx0, by rw [Hl0.out]; exact hk0.1, by rw [Hm0.out]; exact hk0.2⟩)
    have SR0 := Lib.hid (HR0.out.sz (by decide))
    have hk6 : k0 ≤ 6 := hk0.1
    have hm6 : m0 ≤ 6 := hk0.2
    clear ht hh hk0
    have HN := Lib.hid (HA0.out.num.mono (show l0.length ≤ 6 by rw [Hl0.out]; exact hk6))
    generalize zval s0 l0 = z at HN
    obtain ⟨vt, hvt⟩ : ∃ v, validQ s0 l0 d0 = v := ⟨_, rfl⟩
    obtain ⟨ft, hft⟩ : ∃ t, (decide (x0.den = 1) && fits x0.num) = t := ⟨_, rfl⟩
    obtain ⟨vv, hvv⟩ : ∃ v, (if ft then x0.num else 0) = v := ⟨_, rfl⟩
    obtain ⟨tx, htx⟩ : ∃ t, ratText x0 = t := ⟨_, rfl⟩
    obtain ⟨sg, hsg⟩ : ∃ s, sgn x0.num = s := ⟨_, rfl⟩
    have HLl := Lib.hid (show l0.length ≤ 6 by rw [Hl0.out]; exact hk6)
    have HLd := Lib.hid (show d0.length ≤ 6 by rw [Hm0.out]; exact hm6)
    clear hk6 hm6
    by_cases hz0 : n = 0
    · subst hz0
      have T0_0 := T0.out.load.1
      have T0_1 := T0.out.load.2.1
      have T0_2 := T0.out.load.2.2
      go_wp2_with fail
      refine (q_FracNo w3 m hm1 hm2).mono ?_
      rintro _ w61 ⟨_, rfl, g61, rfl⟩
      clear T0_0 T0_1 T0_2
      have G := Lib.hid (G.out.trans g61)
      have T0 := Lib.hid (T0.out.grow g61)
      have HR0 := Lib.hid (HR0.out.grow g61)
      have HA0 := Lib.hid (HA0.out.grow g61)
      have HN := Lib.hid (HN.out.grow g61)
      clear g61
      have B := box3 w61 (.bool false) (.slice none 0 0) (.slice none 0 0) 27
      have GB := Lib.hid B.1
      have T0_0 := (T0.out.grow B.1).load.1
      have T0_1 := (T0.out.grow B.1).load.2.1
      have T0_2 := (T0.out.grow B.1).load.2.2
      have T7 := Lib.hid B.2
      have T7_0 := B.2.load.1
      have T7_1 := B.2.load.2.1
      have T7_2 := B.2.load.2.2
      clear B
      go_wp2_with fail
      clear T0_0 T0_1 T0_2 T7_0 T7_1 T7_2
      generalize w61.heap.size = b_T7 at T7 ⊢
      generalize w61.alloc _ = W4 at GB T7 ⊢
      have G := Lib.hid (G.out.trans GB.out)
      have T0 := Lib.hid (T0.out.grow GB.out)
      have HR0 := Lib.hid (HR0.out.grow GB.out)
      have HA0 := Lib.hid (HA0.out.grow GB.out)
      have HN := Lib.hid (HN.out.grow GB.out)
      refine (s_FracNo W4 m hm1 hm2).mono ?_
      rintro _ w62 ⟨_, rfl, g62, rfl⟩
      have G := Lib.hid (G.out.trans g62)
      have T0 := Lib.hid (T0.out.grow g62)
      have T7 := Lib.hid (T7.out.grow g62)
      have HR0 := Lib.hid (HR0.out.grow g62)
      have HA0 := Lib.hid (HA0.out.grow g62)
      have HN := Lib.hid (HN.out.grow g62)
      clear g62
      have B := box3 w62 (.bool false) (.slice none 0 0) (.slice none 0 0) 27
      have GB := Lib.hid B.1
      have T0_0 := (T0.out.grow B.1).load.1
      have T0_1 := (T0.out.grow B.1).load.2.1
      have T0_2 := (T0.out.grow B.1).load.2.2
      have T7_0 := (T7.out.grow B.1).load.1
      have T7_1 := (T7.out.grow B.1).load.2.1
      have T7_2 := (T7.out.grow B.1).load.2.2
      have T9 := Lib.hid B.2
      have T9_0 := B.2.load.1
      have T9_1 := B.2.load.2.1
      have T9_2 := B.2.load.2.2
      clear B
      go_wp2_with fail
      clear T0_0 T0_1 T0_2 T7_0 T7_1 T7_2 T9_0 T9_1 T9_2
      generalize w62.heap.size = b_T9 at T9 ⊢
      generalize w62.alloc _ = W5 at GB T9 ⊢
      have G := Lib.hid (G.out.trans GB.out)
      have T0 := Lib.hid (T0.out.grow GB.out)
      have T7 := Lib.hid (T7.out.grow GB.out)
      have HR0 := Lib.hid (HR0.out.grow GB.out)
      have HA0 := Lib.hid (HA0.out.grow GB.out)
      have HN := Lib.hid (HN.out.grow GB.out)
      have g0 : Gr W5 W5.drew := (Gr.refl _).drew
      have T0_0 := T0.out.c0
      have T0_1 := T0.out.c1
      have T0_2 := T0.out.c2
      have T7_0 := T7.out.c0
      have T7_1 := T7.out.c1
      have T7_2 := T7.out.c2
      have T9_0 := T9.out.c0
      have T9_1 := T9.out.c1
      have T9_2 := T9.out.c2
      refine wp_region_late zcR 60 [ (0, 1), (1, 1), (2, 1), (3, 0), (4, 0), (5, 1), (6, 1), (7, 1), (8, 2), (9, 0), (10, 1)] (by kernel_rfl) (by kernel_rfl) rfl (by kernel_rfl) (fun _ _ d _ _ h => by cases d <;> exact h) (fun _ _ d _ _ h => by cases d <;> exact h) (by intro i hi; simp at hi; subst hi; exact ⟨_, _, rfl, rfl, rfl, allocR⟩) ?_
      repeat (refine wpF_readB (v := ?_) g0 rfl rfl (fun w' hg => ?_) (fun K hK => ?_); rotate_left; (go_simp; rfl); go_simp; refine hK _ _ ?_; clear hK K)
      refine wpF_do rfl rfl (fun K hK v1 g1 => ?_)
      go_simp
      refine (ref2_From _ 0 hn1 hn2).mono ?_
      rintro _ v2 ⟨r2, rfl, g2, h2⟩
      refine ⟨fun _ => g2, hK _ _ ?_⟩
      clear hK K
      have HP := Lib.hid h2
      have g2 := (g0.trans g1).trans g2
      clear g1 h2
      refine wpF_do rfl rfl (fun K hK v5 g5 => ?_)
      go_simp
      refine (q_MakeNo _ _ _ z  6 2 (HN.out.grow (g2.trans g5)) ((HP.out.v (i64_len 0 hn1 hn2)).grow g5) (by decide) (by decide)).mono ?_
      rintro _ v6 ⟨_, rfl, g6, rfl⟩
      refine ⟨fun _ => g6, hK _ _ ?_⟩
      clear hK K
      have g7 := g2.trans (g5.trans g6)
      clear g2 g5 g6
      repeat (refine wpF_readB (v := ?_) g7 rfl rfl (fun w' hg => ?_) (fun K hK => ?_); rotate_left; (go_simp; rfl); go_simp; refine hK _ _ ?_; clear hK K)
      have HM1 := Lib.hid (ratZero v6)
      refine wpF_new rfl rfl (fun K w8 b_T11 g8 f2 n2 hK => hK _ _ ?_)
      clear hK K
      have T2' := f2.three
      clear f2
      refine wpF_do rfl rfl (fun K hK w10 g10 => ?_)
      have e2 := T2'.grow g10
      have d0 := e2.c0 w10 (Gr.refl _)
      have d1 := e2.c1 w10 (Gr.refl _)
      have d2 := e2.c2 w10 (Gr.refl _)
      have d3 := e2.f0 0
      have d4 := e2.f0 1
      have d5 := e2.f0 2
      go_simp
      refine ⟨fun h => Bool.noConfusion h, hK _ _ ?_⟩
      clear hK K
      have h13 := (g7.trans (g8.trans g10)).three n2 (.bool false) (.slice none 0 0) (.slice none 0 0)
      have U2 := e2.set (.bool false) (.slice none 0 0) (.slice none 0 0)
      have HM1 := Lib.hid ((HM1.out.grow (g8.trans g10)).keepR e2 (.bool false) (.slice none 0 0) (.slice none 0 0))
      clear d0 d1 d2 d3 d4 d5 e2 T2'
      generalize ((w10.setCell _ _).setCell _ _).setCell _ _ = W6 at h13 U2 HM1 ⊢
      repeat (refine wpF_readB (v := ?_) h13 rfl rfl (fun w' hg => ?_) (fun K hK => ?_); rotate_left; (go_simp; rfl); go_simp; refine hK _ _ ?_; clear hK K)
      refine wpF_nil ?_
      have T11 := Lib.hid U2
      clear n2 g7 g8 g10 g0 U2
      clear T0_0 T0_1 T0_2 T7_0 T7_1 T7_2 T9_0 T9_1 T9_2
      have G := Lib.hid (G.out.trans h13)
      have T0 := Lib.hid (T0.out.grow h13)
      have T7 := Lib.hid (T7.out.grow h13)
      have T9 := Lib.hid (T9.out.grow h13)
      have HR0 := Lib.hid (HR0.out.grow h13)
      have HA0 := Lib.hid (HA0.out.grow h13)
      have HN := Lib.hid (HN.out.grow h13)
      clear h13
      have T0_0 := T0.out.load.1
      have T0_1 := T0.out.load.2.1
      have T0_2 := T0.out.load.2.2
      have T7_0 := T7.out.load.1
      have T7_1 := T7.out.load.2.1
      have T7_2 := T7.out.load.2.2
      have T9_0 := T9.out.load.1
      have T9_1 := T9.out.load.2.1
      have T9_2 := T9.out.load.2.2
      have T11_0 := T11.out.load.1
      have T11_1 := T11.out.load.2.1
      have T11_2 := T11.out.load.2.2
      go_wp2_with fail
      have g0 : Gr W6 W6.drew := (Gr.refl _).drew
      clear T0_0 T0_1 T0_2 T7_0 T7_1 T7_2 T9_0 T9_1 T9_2 T11_0 T11_1 T11_2
      have T0_0 := T0.out.c0
      have T0_1 := T0.out.c1
      have T0_2 := T0.out.c2
      have T7_0 := T7.out.c0
      have T7_1 := T7.out.c1
      have T7_2 := T7.out.c2
      have T9_0 := T9.out.c0
      have T9_1 := T9.out.c1
      have T9_2 := T9.out.c2
      have T11_0 := T11.out.c0
      have T11_1 := T11.out.c1
      have T11_2 := T11.out.c2
      refine wp_region_late zcR 60 [ (0, 1), (1, 1), (2, 1), (3, 0), (4, 0), (5, 1), (6, 1), (7, 1), (8, 2), (9, 0), (10, 1)] (by kernel_rfl) (by kernel_rfl) rfl (by kernel_rfl) (fun _ _ d _ _ h => by cases d <;> exact h) (fun _ _ d _ _ h => by cases d <;> exact h) (by intro i hi; simp at hi; subst hi; exact ⟨_, _, rfl, rfl, rfl, allocR⟩) ?_
      repeat (refine wpF_readB (v := ?_) g0 rfl rfl (fun w' hg => ?_) (fun K hK => ?_); rotate_left; (go_simp; rfl); go_simp; refine hK _ _ ?_; clear hK K)
      refine wpF_do rfl rfl (fun K hK v1 g1 => ?_)
      go_simp
      refine (ref2_From _ 0 hn1 hn2).mono ?_
      rintro _ v2 ⟨r2, rfl, g2, h2⟩
      refine ⟨fun _ => g2, hK _ _ ?_⟩
      clear hK K
      have HP := Lib.hid h2
      have g2 := (g0.trans g1).trans g2
      clear g1 h2
      refine wpF_do rfl rfl (fun K hK v5 g5 => ?_)
      go_simp
      refine (s_MakeNo _ _ _ z  6 2 (HN.out.grow (g2.trans g5)) ((HP.out.v (i64_len 0 hn1 hn2)).grow g5) (by decide) (by decide)).mono ?_
      rintro _ v6 ⟨_, rfl, g6, rfl⟩
      refine ⟨fun _ => g6, hK _ _ ?_⟩
      clear hK K
      have g7 := g2.trans (g5.trans g6)
      clear g2 g5 g6
      repeat (refine wpF_readB (v := ?_) g7 rfl rfl (fun w' hg => ?_) (fun K hK => ?_); rotate_left; (go_simp; rfl); go_simp; refine hK _ _ ?_; clear hK K)
      have HM2 := Lib.hid (ratZero v6)
      refine wpF_new rfl rfl (fun K w8 b_T13 g8 f2 n2 hK => hK _ _ ?_)
      clear hK K
      have T2' := f2.three
      clear f2
      refine wpF_do rfl rfl (fun K hK w10 g10 => ?_)
      have e2 := T2'.grow g10
      have d0 := e2.c0 w10 (Gr.refl _)
      have d1 := e2.c1 w10 (Gr.refl _)
      have d2 := e2.c2 w10 (Gr.refl _)
      have d3 := e2.f0 0
      have d4 := e2.f0 1
      have d5 := e2.f0 2
      go_simp
      refine ⟨fun h => Bool.noConfusion h, hK _ _ ?_⟩
      clear hK K
      have h13 := (g7.trans (g8.trans g10)).three n2 (.bool false) (.slice none 0 0) (.slice none 0 0)
      have U2 := e2.set (.bool false) (.slice none 0 0) (.slice none 0 0)
      have HM2 := Lib.hid ((HM2.out.grow (g8.trans g10)).keepR e2 (.bool false) (.slice none 0 0) (.slice none 0 0))
      clear d0 d1 d2 d3 d4 d5 e2 T2'
      generalize ((w10.setCell _ _).setCell _ _).setCell _ _ = W7 at h13 U2 HM2 ⊢
      repeat (refine wpF_readB (v := ?_) h13 rfl rfl (fun w' hg => ?_) (fun K hK => ?_); rotate_left; (go_simp; rfl); go_simp; refine hK _ _ ?_; clear hK K)
      refine wpF_nil ?_
      have T13 := Lib.hid U2
      clear n2 g7 g8 g10 g0 U2
      clear T0_0 T0_1 T0_2 T7_0 T7_1 T7_2 T9_0 T9_1 T9_2 T11_0 T11_1 T11_2
      have G := Lib.hid (G.out.trans h13)
      have T0 := Lib.hid (T0.out.grow h13)
      have T7 := Lib.hid (T7.out.grow h13)
      have T9 := Lib.hid (T9.out.grow h13)
      have T11 := Lib.hid (T11.out.grow h13)
      have HR0 := Lib.hid (HR0.out.grow h13)
      have HA0 := Lib.hid (HA0.out.grow h13)
      have HN := Lib.hid (HN.out.grow h13)
      have HM1 := Lib.hid (HM1.out.grow h13)
      clear h13
      have T0_0 := T0.out.load.1
      have T0_1 := T0.out.load.2.1
      have T0_2 := T0.out.load.2.2
      have T7_0 := T7.out.load.1
      have T7_1 := T7.out.load.2.1
      have T7_2 := T7.out.load.2.2
      have T9_0 := T9.out.load.1
      have T9_1 := T9.out.load.2.1
      have T9_2 := T9.out.load.2.2
      have T11_0 := T11.out.load.1
      have T11_1 := T11.out.load.2.1
      have T11_2 := T11.out.load.2.2
      have T13_0 := T13.out.load.1
      have T13_1 := T13.out.load.2.1
      have T13_2 := T13.out.load.2.2
      go_wp2_with fail
      refine (q_Int64 W7 _ x0 ft 6 HR0.out hft (by decide)).mono ?_
      rintro _ w71 ⟨_, rfl, g71, rfl⟩
      clear T0_0 T0_1 T0_2 T7_0 T7_1 T7_2 T9_0 T9_1 T9_2 T11_0 T11_1 T11_2 T13_0 T13_1 T13_2
      have G := Lib.hid (G.out.trans g71)
      have T0 := Lib.hid (T0.out.grow g71)
      have T7 := Lib.hid (T7.out.grow g71)
      have T9 := Lib.hid (T9.out.grow g71)
      have T11 := Lib.hid (T11.out.grow g71)
      have T13 := Lib.hid (T13.out.grow g71)
      have HR0 := Lib.hid (HR0.out.grow g71)
      have HA0 := Lib.hid (HA0.out.grow g71)
      have HN := Lib.hid (HN.out.grow g71)
      have HM1 := Lib.hid (HM1.out.grow g71)
      have HM2 := Lib.hid (HM2.out.grow g71)
      clear g71
      simp only [hvv]
      have T0_0 := T0.out.load.1
      have T0_1 := T0.out.load.2.1
      have T0_2 := T0.out.load.2.2
      have T7_0 := T7.out.load.1
      have T7_1 := T7.out.load.2.1
      have T7_2 := T7.out.load.2.2
      have T9_0 := T9.out.load.1
      have T9_1 := T9.out.load.2.1
      have T9_2 := T9.out.load.2.2
      have T11_0 := T11.out.load.1
      have T11_1 := T11.out.load.2.1
      have T11_2 := T11.out.load.2.2
      have T13_0 := T13.out.load.1
      have T13_1 := T13.out.load.2.1
      have T13_2 := T13.out.load.2.2
      go_wp2_with fail
      refine (s_Int64 w71 _ x0 ft 6 HR0.out hft (by decide) (by decide)).mono ?_
      rintro _ w72 ⟨_, rfl, g72, rfl⟩
      clear T0_0 T0_1 T0_2 T7_0 T7_1 T7_2 T9_0 T9_1 T9_2 T11_0 T11_1 T11_2 T13_0 T13_1 T13_2
      have G := Lib.hid (G.out.trans g72)
      have T0 := Lib.hid (T0.out.grow g72)
      have T7 := Lib.hid (T7.out.grow g72)
      have T9 := Lib.hid (T9.out.grow g72)
      have T11 := Lib.hid (T11.out.grow g72)
      have T13 := Lib.hid (T13.out.grow g72)
      have HR0 := Lib.hid (HR0.out.grow g72)
      have HA0 := Lib.hid (HA0.out.grow g72)
      have HN := Lib.hid (HN.out.grow g72)
      have HM1 := Lib.hid (HM1.out.grow g72)
      have HM2 := Lib.hid (HM2.out.grow g72)
      clear g72
      simp only [hvv]
      go_wp2_with fail
      have H61 := Lib.hid (ratZero w72)
      have H62 := Lib.hid (ratZero w72)
      refine wp_region_fast [(0, true), (2, true), (1, false), (3, false), (4, true), (5, true), (6, true), (7, true), (8, false), (9, true), (10, true), (11, true), (12, true), (13, true), (14, true), (15, true), (16, true), (17, true), (18, false), (19, true), (20, true), (21, true), (22, true), (23, true), (24, true), (25, true), (26, true), (28, true), (27, false), (29, false), (30, false), (31, true), (32, true), (33, true), (35, true), (34, false), (36, false), (37, true), (38, true), (39, true), (40, true), (41, true), (42, true), (43, true), (44, true), (45, true), (46, true), (47, true), (48, true), (49, true), (50, true), (52, true), (51, false), (53, false), (54, true), (55, true), (56, true)] (by kernel_rfl) (by kernel_rfl) rfl (by kernel_rfl) (fun _ _ d _ _ h => by cases d <;> exact h) ?_
      have T0_0 := T0.out.c0
      have T0_1 := T0.out.c1
      have T0_2 := T0.out.c2
      have T7_0 := T7.out.c0
      have T7_1 := T7.out.c1
      have T7_2 := T7.out.c2
      have T9_0 := T9.out.c0
      have T9_1 := T9.out.c1
      have T9_2 := T9.out.c2
      have T11_0 := T11.out.c0
      have T11_1 := T11.out.c1
      have T11_2 := T11.out.c2
      have T13_0 := T13.out.c0
      have T13_1 := T13.out.c1
      have T13_2 := T13.out.c2
      have g0 : Gr w72 w72.drew := (Gr.refl _).drew
      have G := Lib.hid (G.out.trans g0)
      have T0 := Lib.hid (T0.out.grow g0)
      have T7 := Lib.hid (T7.out.grow g0)
      have T9 := Lib.hid (T9.out.grow g0)
      have T11 := Lib.hid (T11.out.grow g0)
      have T13 := Lib.hid (T13.out.grow g0)
      have HR0 := Lib.hid (HR0.out.grow g0)
      have HA0 := Lib.hid (HA0.out.grow g0)
      have HN := Lib.hid (HN.out.grow g0)
      have HM1 := Lib.hid (HM1.out.grow g0)
      have HM2 := Lib.hid (HM2.out.grow g0)
      have H61 := Lib.hid (H61.out.grow g0)
      have H62 := Lib.hid (H62.out.grow g0)
      repeat (refine wpE_readB (v := ?_) g0 rfl rfl (fun w' hg => ?_) (fun K hK => ?_); rotate_left; (go_simp; rfl); go_simp; refine hK _ _ ?_; clear hK K)
      refine wpE_fn (args := ?_) rfl rfl rfl rfl rfl rfl (by kernel_rfl) (by kernel_rfl) ?_ (fun K hK => ?_)
      rotate_left
      · go_simp; rfl
      refine (rat_Valid _ _ s0 l0 d0 vt 6 HA0.out HLl.out HLd.out (by decide) hvt).mono ?_
      rintro _ w81 ⟨_, rfl, g81, rfl⟩
      refine ⟨_, rfl, g81, ?_⟩
      go_simp
      refine hK _ _ ?_
      clear hK K
      have G := Lib.hid (G.out.trans g81)
      have T0 := Lib.hid (T0.out.grow g81)
      have T7 := Lib.hid (T7.out.grow g81)
      have T9 := Lib.hid (T9.out.grow g81)
      have T11 := Lib.hid (T11.out.grow g81)
      have T13 := Lib.hid (T13.out.grow g81)
      have HR0 := Lib.hid (HR0.out.grow g81)
      have HA0 := Lib.hid (HA0.out.grow g81)
      have HN := Lib.hid (HN.out.grow g81)
      have HM1 := Lib.hid (HM1.out.grow g81)
      have HM2 := Lib.hid (HM2.out.grow g81)
      have H61 := Lib.hid (H61.out.grow g81)
      have H62 := Lib.hid (H62.out.grow g81)
      replace g0 := g0.trans g81
      clear g81
      repeat (refine wpE_readB (v := ?_) g0 rfl rfl (fun w' hg => ?_) (fun K hK => ?_); rotate_left; (go_simp; rfl); go_simp; refine hK _ _ ?_; clear hK K)
      refine wpE_fn (args := ?_) rfl rfl rfl rfl rfl rfl (by kernel_rfl) (by kernel_rfl) ?_ (fun K hK => ?_)
      rotate_left
      · go_simp; rfl
      refine (ref_Valid3 _ _ s0 l0 d0 vt 6 HA0.out HLl.out HLd.out (by decide) hvt).mono ?_
      rintro _ w82 ⟨_, rfl, g82, rfl⟩
      refine ⟨_, rfl, g82, ?_⟩
      go_simp
      refine hK _ _ ?_
      clear hK K
      have G := Lib.hid (G.out.trans g82)
      have T0 := Lib.hid (T0.out.grow g82)
      have T7 := Lib.hid (T7.out.grow g82)
      have T9 := Lib.hid (T9.out.grow g82)
      have T11 := Lib.hid (T11.out.grow g82)
      have T13 := Lib.hid (T13.out.grow g82)
      have HR0 := Lib.hid (HR0.out.grow g82)
      have HA0 := Lib.hid (HA0.out.grow g82)
      have HN := Lib.hid (HN.out.grow g82)
      have HM1 := Lib.hid (HM1.out.grow g82)
      have HM2 := Lib.hid (HM2.out.grow g82)
      have H61 := Lib.hid (H61.out.grow g82)
      have H62 := Lib.hid (H62.out.grow g82)
      replace g0 := g0.trans g82
      clear g82
      repeat (refine wpE_readB (v := ?_) g0 rfl rfl (fun w' hg => ?_) (fun K hK => ?_); rotate_left; (go_simp; rfl); go_simp; refine hK _ _ ?_; clear hK K)
      refine wpE_fn (args := ?_) rfl rfl rfl rfl rfl rfl (by kernel_rfl) (by kernel_rfl) ?_ (fun K hK => ?_)
      rotate_left
      · go_simp; rfl
      refine (d_SameC _ _ _ 0 0 true H61.out H62.out (decide_eq_true (rfl))).mono ?_
      rintro _ w83 ⟨_, rfl, g83, rfl⟩
      refine ⟨_, rfl, g83, ?_⟩
      go_simp
      refine hK _ _ ?_
      clear hK K
      have G := Lib.hid (G.out.trans g83)
      have T0 := Lib.hid (T0.out.grow g83)
      have T7 := Lib.hid (T7.out.grow g83)
      have T9 := Lib.hid (T9.out.grow g83)
      have T11 := Lib.hid (T11.out.grow g83)
      have T13 := Lib.hid (T13.out.grow g83)
      have HR0 := Lib.hid (HR0.out.grow g83)
      have HA0 := Lib.hid (HA0.out.grow g83)
      have HN := Lib.hid (HN.out.grow g83)
      have HM1 := Lib.hid (HM1.out.grow g83)
      have HM2 := Lib.hid (HM2.out.grow g83)
      have H61 := Lib.hid (H61.out.grow g83)
      have H62 := Lib.hid (H62.out.grow g83)
      replace g0 := g0.trans g83
      clear g83
      repeat (refine wpE_readB (v := ?_) g0 rfl rfl (fun w' hg => ?_) (fun K hK => ?_); rotate_left; (go_simp; rfl); go_simp; refine hK _ _ ?_; clear hK K)
      refine wpE_fn (args := ?_) rfl rfl rfl rfl rfl rfl (by kernel_rfl) (by kernel_rfl) ?_ (fun K hK => ?_)
      rotate_left
      · go_simp; rfl
      refine (d_SameC _ _ _ 0 0 true HM1.out HM2.out (decide_eq_true (rfl))).mono ?_
      rintro _ w84 ⟨_, rfl, g84, rfl⟩
      refine ⟨_, rfl, g84, ?_⟩
      go_simp
      refine hK _ _ ?_
      clear hK K
      have G := Lib.hid (G.out.trans g84)
      have T0 := Lib.hid (T0.out.grow g84)
      have T7 := Lib.hid (T7.out.grow g84)
      have T9 := Lib.hid (T9.out.grow g84)
      have T11 := Lib.hid (T11.out.grow g84)
      have T13 := Lib.hid (T13.out.grow g84)
      have HR0 := Lib.hid (HR0.out.grow g84)
      have HA0 := Lib.hid (HA0.out.grow g84)
      have HN := Lib.hid (HN.out.grow g84)
      have HM1 := Lib.hid (HM1.out.grow g84)
      have HM2 := Lib.hid (HM2.out.grow g84)
      have H61 := Lib.hid (H61.out.grow g84)
      have H62 := Lib.hid (H62.out.grow g84)
      replace g0 := g0.trans g84
      clear g84
      repeat (refine wpE_readB (v := ?_) g0 rfl rfl (fun w' hg => ?_) (fun K hK => ?_); rotate_left; (go_simp; rfl); go_simp; refine hK _ _ ?_; clear hK K)
      refine wpE_fn (args := ?_) rfl rfl rfl rfl rfl rfl (by kernel_rfl) (by kernel_rfl) ?_ (fun K hK => ?_)
      rotate_left
      · go_simp; rfl
      refine (q_From _ 0 hn1 hn2).mono ?_
      rintro _ w91 ⟨r91, rfl, g91, h91⟩
      refine ⟨_, rfl, g91, ?_⟩
      go_simp
      refine hK _ _ ?_
      clear hK K
      have G := Lib.hid (G.out.trans g91)
      have T0 := Lib.hid (T0.out.grow g91)
      have T7 := Lib.hid (T7.out.grow g91)
      have T9 := Lib.hid (T9.out.grow g91)
      have T11 := Lib.hid (T11.out.grow g91)
      have T13 := Lib.hid (T13.out.grow g91)
      have HR0 := Lib.hid (HR0.out.grow g91)
      have HA0 := Lib.hid (HA0.out.grow g91)
      have HN := Lib.hid (HN.out.grow g91)
      have HM1 := Lib.hid (HM1.out.grow g91)
      have HM2 := Lib.hid (HM2.out.grow g91)
      have H61 := Lib.hid (H61.out.grow g91)
      have H62 := Lib.hid (H62.out.grow g91)
      replace g0 := g0.trans g91
      clear g91
      have H91 := Lib.hid h91
      clear h91
      refine wpE_fn (args := ?_) rfl rfl rfl rfl rfl rfl (by kernel_rfl) (by kernel_rfl) ?_ (fun K hK => ?_)
      rotate_left
      · go_simp; rfl
      refine (s_From _ 0 hn1 hn2).mono ?_
      rintro _ w92 ⟨r92, rfl, g92, h92⟩
      refine ⟨_, rfl, g92, ?_⟩
      go_simp
      refine hK _ _ ?_
      clear hK K
      have G := Lib.hid (G.out.trans g92)
      have T0 := Lib.hid (T0.out.grow g92)
      have T7 := Lib.hid (T7.out.grow g92)
      have T9 := Lib.hid (T9.out.grow g92)
      have T11 := Lib.hid (T11.out.grow g92)
      have T13 := Lib.hid (T13.out.grow g92)
      have HR0 := Lib.hid (HR0.out.grow g92)
      have HA0 := Lib.hid (HA0.out.grow g92)
      have HN := Lib.hid (HN.out.grow g92)
      have HM1 := Lib.hid (HM1.out.grow g92)
      have HM2 := Lib.hid (HM2.out.grow g92)
      have H61 := Lib.hid (H61.out.grow g92)
      have H62 := Lib.hid (H62.out.grow g92)
      have H91 := Lib.hid (H91.out.grow g92)
      replace g0 := g0.trans g92
      clear g92
      have H92 := Lib.hid h92
      clear h92
      repeat (refine wpE_readB (v := ?_) g0 rfl rfl (fun w' hg => ?_) (fun K hK => ?_); rotate_left; (go_simp; rfl); go_simp; refine hK _ _ ?_; clear hK K)
      refine wpE_fn (args := ?_) rfl rfl rfl rfl rfl rfl (by kernel_rfl) (by kernel_rfl) ?_ (fun K hK => ?_)
      rotate_left
      · go_simp; rfl
      refine (d_SameC _ _ _ ((0 : Int) : Rat) ((0 : Int) : Rat) true H91.out H92.out (decide_eq_true (rfl))).mono ?_
      rintro _ w93 ⟨_, rfl, g93, rfl⟩
      refine ⟨_, rfl, g93, ?_⟩
      go_simp
      refine hK _ _ ?_
      clear hK K
      have G := Lib.hid (G.out.trans g93)
      have T0 := Lib.hid (T0.out.grow g93)
      have T7 := Lib.hid (T7.out.grow g93)
      have T9 := Lib.hid (T9.out.grow g93)
      have T11 := Lib.hid (T11.out.grow g93)
      have T13 := Lib.hid (T13.out.grow g93)
      have HR0 := Lib.hid (HR0.out.grow g93)
      have HA0 := Lib.hid (HA0.out.grow g93)
      have HN := Lib.hid (HN.out.grow g93)
      have HM1 := Lib.hid (HM1.out.grow g93)
      have HM2 := Lib.hid (HM2.out.grow g93)
      have H61 := Lib.hid (H61.out.grow g93)
      have H62 := Lib.hid (H62.out.grow g93)
      have H91 := Lib.hid (H91.out.grow g93)
      have H92 := Lib.hid (H92.out.grow g93)
      replace g0 := g0.trans g93
      clear g93
      repeat (refine wpE_readB (v := ?_) g0 rfl rfl (fun w' hg => ?_) (fun K hK => ?_); rotate_left; (go_simp; rfl); go_simp; refine hK _ _ ?_; clear hK K)
      refine wpE_fn (args := ?_) rfl rfl rfl rfl rfl rfl (by kernel_rfl) (by kernel_rfl) ?_ (fun K hK => ?_)
      rotate_left
      · go_simp; rfl
      refine (q_Sign _ _ x0 (sg) 6 HR0.out (hsg) (by decide)).mono ?_
      rintro _ w94 ⟨_, rfl, g94, rfl⟩
      refine ⟨_, rfl, g94, ?_⟩
      go_simp
      refine hK _ _ ?_
      clear hK K
      have G := Lib.hid (G.out.trans g94)
      have T0 := Lib.hid (T0.out.grow g94)
      have T7 := Lib.hid (T7.out.grow g94)
      have T9 := Lib.hid (T9.out.grow g94)
      have T11 := Lib.hid (T11.out.grow g94)
      have T13 := Lib.hid (T13.out.grow g94)
      have HR0 := Lib.hid (HR0.out.grow g94)
      have HA0 := Lib.hid (HA0.out.grow g94)
      have HN := Lib.hid (HN.out.grow g94)
      have HM1 := Lib.hid (HM1.out.grow g94)
      have HM2 := Lib.hid (HM2.out.grow g94)
      have H61 := Lib.hid (H61.out.grow g94)
      have H62 := Lib.hid (H62.out.grow g94)
      have H91 := Lib.hid (H91.out.grow g94)
      have H92 := Lib.hid (H92.out.grow g94)
      replace g0 := g0.trans g94
      clear g94
      repeat (refine wpE_readB (v := ?_) g0 rfl rfl (fun w' hg => ?_) (fun K hK => ?_); rotate_left; (go_simp; rfl); go_simp; refine hK _ _ ?_; clear hK K)
      refine wpE_fn (args := ?_) rfl rfl rfl rfl rfl rfl (by kernel_rfl) (by kernel_rfl) ?_ (fun K hK => ?_)
      rotate_left
      · go_simp; rfl
      refine (s_Sign _ _ x0 (sg) 6 HR0.out (hsg) (by decide)).mono ?_
      rintro _ w95 ⟨_, rfl, g95, rfl⟩
      refine ⟨_, rfl, g95, ?_⟩
      go_simp
      refine hK _ _ ?_
      clear hK K
      have G := Lib.hid (G.out.trans g95)
      have T0 := Lib.hid (T0.out.grow g95)
      have T7 := Lib.hid (T7.out.grow g95)
      have T9 := Lib.hid (T9.out.grow g95)
      have T11 := Lib.hid (T11.out.grow g95)
      have T13 := Lib.hid (T13.out.grow g95)
      have HR0 := Lib.hid (HR0.out.grow g95)
      have HA0 := Lib.hid (HA0.out.grow g95)
      have HN := Lib.hid (HN.out.grow g95)
      have HM1 := Lib.hid (HM1.out.grow g95)
      have HM2 := Lib.hid (HM2.out.grow g95)
      have H61 := Lib.hid (H61.out.grow g95)
      have H62 := Lib.hid (H62.out.grow g95)
      have H91 := Lib.hid (H91.out.grow g95)
      have H92 := Lib.hid (H92.out.grow g95)
      replace g0 := g0.trans g95
      clear g95
      repeat (refine wpE_readB (v := ?_) g0 rfl rfl (fun w' hg => ?_) (fun K hK => ?_); rotate_left; (go_simp; rfl); go_simp; refine hK _ _ ?_; clear hK K)
      refine wpE_fn (args := ?_) rfl rfl rfl rfl rfl rfl (by kernel_rfl) (by kernel_rfl) ?_ (fun K hK => ?_)
      rotate_left
      · go_simp; rfl
      refine (q_Text _ _ x0 6 tx HR0.out htx (by decide) (by decide) (HTab.out.grow G.out)).mono ?_
      rintro _ w101 ⟨_, rfl, g101, rfl⟩
      refine ⟨_, rfl, g101, ?_⟩
      go_simp
      refine hK _ _ ?_
      clear hK K
      have G := Lib.hid (G.out.trans g101)
      have T0 := Lib.hid (T0.out.grow g101)
      have T7 := Lib.hid (T7.out.grow g101)
      have T9 := Lib.hid (T9.out.grow g101)
      have T11 := Lib.hid (T11.out.grow g101)
      have T13 := Lib.hid (T13.out.grow g101)
      have HR0 := Lib.hid (HR0.out.grow g101)
      have HA0 := Lib.hid (HA0.out.grow g101)
      have HN := Lib.hid (HN.out.grow g101)
      have HM1 := Lib.hid (HM1.out.grow g101)
      have HM2 := Lib.hid (HM2.out.grow g101)
      have H61 := Lib.hid (H61.out.grow g101)
      have H62 := Lib.hid (H62.out.grow g101)
      have H91 := Lib.hid (H91.out.grow g101)
      have H92 := Lib.hid (H92.out.grow g101)
      replace g0 := g0.trans g101
      clear g101
      repeat (refine wpE_readB (v := ?_) g0 rfl rfl (fun w' hg => ?_) (fun K hK => ?_); rotate_left; (go_simp; rfl); go_simp; refine hK _ _ ?_; clear hK K)
      refine wpE_fn (args := ?_) rfl rfl rfl rfl rfl rfl (by kernel_rfl) (by kernel_rfl) ?_ (fun K hK => ?_)
      rotate_left
      · go_simp; rfl
      refine (s_Text _ _ x0 6 tx HR0.out htx (by decide) (by decide)).mono ?_
      rintro _ w102 ⟨_, rfl, g102, rfl⟩
      refine ⟨_, rfl, g102, ?_⟩
      go_simp
      refine hK _ _ ?_
      clear hK K
      have G := Lib.hid (G.out.trans g102)
      have T0 := Lib.hid (T0.out.grow g102)
      have T7 := Lib.hid (T7.out.grow g102)
      have T9 := Lib.hid (T9.out.grow g102)
      have T11 := Lib.hid (T11.out.grow g102)
      have T13 := Lib.hid (T13.out.grow g102)
      have HR0 := Lib.hid (HR0.out.grow g102)
      have HA0 := Lib.hid (HA0.out.grow g102)
      have HN := Lib.hid (HN.out.grow g102)
      have HM1 := Lib.hid (HM1.out.grow g102)
      have HM2 := Lib.hid (HM2.out.grow g102)
      have H61 := Lib.hid (H61.out.grow g102)
      have H62 := Lib.hid (H62.out.grow g102)
      have H91 := Lib.hid (H91.out.grow g102)
      have H92 := Lib.hid (H92.out.grow g102)
      replace g0 := g0.trans g102
      clear g102
      repeat (refine wpE_readB (v := ?_) g0 rfl rfl (fun w' hg => ?_) (fun K hK => ?_); rotate_left; (go_simp; rfl); go_simp; refine hK _ _ ?_; clear hK K)
      refine wpE_nil ?_
      clear g0
      clear T0_0 T0_1 T0_2 T7_0 T7_1 T7_2 T9_0 T9_1 T9_2 T11_0 T11_1 T11_2 T13_0 T13_1 T13_2
      go_wp2_with fail
      go_ret
      exact ⟨_, rfl, G.out, rfl⟩
    · have T0_0 := T0.out.load.1
      have T0_1 := T0.out.load.2.1
      have T0_2 := T0.out.load.2.2
      go_wp2_with fail
      refine (q_FracOk w3 m n hm1 hm2 hn1 hn2 hz0).mono ?_
      rintro _ w61 ⟨_, rfl, g61, u, rfl, hu⟩
      clear T0_0 T0_1 T0_2
      have G := Lib.hid (G.out.trans g61)
      have T0 := Lib.hid (T0.out.grow g61)
      have HR0 := Lib.hid (HR0.out.grow g61)
      have HA0 := Lib.hid (HA0.out.grow g61)
      have HN := Lib.hid (HN.out.grow g61)
      clear g61
      have H61 := Lib.hid hu
      clear hu
      obtain ⟨s_61, p_61, k_61, c_61, e_61, m_61, n_61, rfl⟩ := H61.out.agg
      have B := box3 w61 (.bool s_61) (.slice p_61 k_61 c_61) (.slice e_61 m_61 n_61) 27
      have GB := Lib.hid B.1
      have T0_0 := (T0.out.grow B.1).load.1
      have T0_1 := (T0.out.grow B.1).load.2.1
      have T0_2 := (T0.out.grow B.1).load.2.2
      have T7 := Lib.hid B.2
      have T7_0 := B.2.load.1
      have T7_1 := B.2.load.2.1
      have T7_2 := B.2.load.2.2
      clear B
      go_wp2_with fail
      clear T0_0 T0_1 T0_2 T7_0 T7_1 T7_2
      generalize w61.heap.size = b_T7 at T7 ⊢
      generalize w61.alloc _ = W4 at GB T7 ⊢
      have G := Lib.hid (G.out.trans GB.out)
      have T0 := Lib.hid (T0.out.grow GB.out)
      have HR0 := Lib.hid (HR0.out.grow GB.out)
      have HA0 := Lib.hid (HA0.out.grow GB.out)
      have HN := Lib.hid (HN.out.grow GB.out)
      have H61 := Lib.hid (H61.out.grow GB.out)
      refine (s_FracOk W4 m n hm1 hm2 hn1 hn2 hz0).mono ?_
      rintro _ w62 ⟨_, rfl, g62, u, rfl, hu⟩
      have G := Lib.hid (G.out.trans g62)
      have T0 := Lib.hid (T0.out.grow g62)
      have T7 := Lib.hid (T7.out.grow g62)
      have HR0 := Lib.hid (HR0.out.grow g62)
      have HA0 := Lib.hid (HA0.out.grow g62)
      have HN := Lib.hid (HN.out.grow g62)
      have H61 := Lib.hid (H61.out.grow g62)
      clear g62
      have H62 := Lib.hid hu
      clear hu
      obtain ⟨s_62, p_62, k_62, c_62, e_62, m_62, n_62, rfl⟩ := H62.out.agg
      have B := box3 w62 (.bool s_62) (.slice p_62 k_62 c_62) (.slice e_62 m_62 n_62) 27
      have GB := Lib.hid B.1
      have T0_0 := (T0.out.grow B.1).load.1
      have T0_1 := (T0.out.grow B.1).load.2.1
      have T0_2 := (T0.out.grow B.1).load.2.2
      have T7_0 := (T7.out.grow B.1).load.1
      have T7_1 := (T7.out.grow B.1).load.2.1
      have T7_2 := (T7.out.grow B.1).load.2.2
      have T9 := Lib.hid B.2
      have T9_0 := B.2.load.1
      have T9_1 := B.2.load.2.1
      have T9_2 := B.2.load.2.2
      clear B
      go_wp2_with fail
      clear T0_0 T0_1 T0_2 T7_0 T7_1 T7_2 T9_0 T9_1 T9_2
      generalize w62.heap.size = b_T9 at T9 ⊢
      generalize w62.alloc _ = W5 at GB T9 ⊢
      have G := Lib.hid (G.out.trans GB.out)
      have T0 := Lib.hid (T0.out.grow GB.out)
      have T7 := Lib.hid (T7.out.grow GB.out)
      have HR0 := Lib.hid (HR0.out.grow GB.out)
      have HA0 := Lib.hid (HA0.out.grow GB.out)
      have HN := Lib.hid (HN.out.grow GB.out)
      have H61 := Lib.hid (H61.out.grow GB.out)
      have H62 := Lib.hid (H62.out.grow GB.out)
      have g0 : Gr W5 W5.drew := (Gr.refl _).drew
      have T0_0 := T0.out.c0
      have T0_1 := T0.out.c1
      have T0_2 := T0.out.c2
      have T7_0 := T7.out.c0
      have T7_1 := T7.out.c1
      have T7_2 := T7.out.c2
      have T9_0 := T9.out.c0
      have T9_1 := T9.out.c1
      have T9_2 := T9.out.c2
      refine wp_region_late zcR 60 [ (0, 1), (1, 1), (2, 1), (3, 0), (4, 0), (5, 1), (6, 1), (7, 1), (8, 2), (9, 0), (10, 1)] (by kernel_rfl) (by kernel_rfl) rfl (by kernel_rfl) (fun _ _ d _ _ h => by cases d <;> exact h) (fun _ _ d _ _ h => by cases d <;> exact h) (by intro i hi; simp at hi; subst hi; exact ⟨_, _, rfl, rfl, rfl, allocR⟩) ?_
      repeat (refine wpF_readB (v := ?_) g0 rfl rfl (fun w' hg => ?_) (fun K hK => ?_); rotate_left; (go_simp; rfl); go_simp; refine hK _ _ ?_; clear hK K)
      refine wpF_do rfl rfl (fun K hK v1 g1 => ?_)
      go_simp
      refine (ref2_From _ n hn1 hn2).mono ?_
      rintro _ v2 ⟨r2, rfl, g2, h2⟩
      refine ⟨fun _ => g2, hK _ _ ?_⟩
      clear hK K
      have HP := Lib.hid h2
      have g2 := (g0.trans g1).trans g2
      clear g1 h2
      refine wpF_do rfl rfl (fun K hK v5 g5 => ?_)
      go_simp
      refine (q_MakeOk _ _ _ z n 6 2 (HN.out.grow (g2.trans g5)) ((HP.out.v (i64_len n hn1 hn2)).grow g5) hz0 (by decide) (by decide)).mono ?_
      rintro _ v6 ⟨_, rfl, g6, u, rfl, hu⟩
      refine ⟨fun _ => g6, hK _ _ ?_⟩
      clear hK K
      have g7 := g2.trans (g5.trans g6)
      clear g2 g5 g6
      have HM1 := Lib.hid hu
      obtain ⟨s_63, p_63, k_63, c_63, e_63, m_63, n_63, rfl⟩ := hu.agg
      clear hu
      repeat (refine wpF_readB (v := ?_) g7 rfl rfl (fun w' hg => ?_) (fun K hK => ?_); rotate_left; (go_simp; rfl); go_simp; refine hK _ _ ?_; clear hK K)
      refine wpF_new rfl rfl (fun K w8 b_T11 g8 f2 n2 hK => hK _ _ ?_)
      clear hK K
      have T2' := f2.three
      clear f2
      refine wpF_do rfl rfl (fun K hK w10 g10 => ?_)
      have e2 := T2'.grow g10
      have d0 := e2.c0 w10 (Gr.refl _)
      have d1 := e2.c1 w10 (Gr.refl _)
      have d2 := e2.c2 w10 (Gr.refl _)
      have d3 := e2.f0 0
      have d4 := e2.f0 1
      have d5 := e2.f0 2
      go_simp
      refine ⟨fun h => Bool.noConfusion h, hK _ _ ?_⟩
      clear hK K
      have h13 := (g7.trans (g8.trans g10)).three n2 (.bool s_63) (.slice p_63 k_63 c_63) (.slice e_63 m_63 n_63)
      have U2 := e2.set (.bool s_63) (.slice p_63 k_63 c_63) (.slice e_63 m_63 n_63)
      have HM1 := Lib.hid ((HM1.out.grow (g8.trans g10)).keepR e2 (.bool s_63) (.slice p_63 k_63 c_63) (.slice e_63 m_63 n_63))
      clear d0 d1 d2 d3 d4 d5 e2 T2'
      generalize ((w10.setCell _ _).setCell _ _).setCell _ _ = W6 at h13 U2 HM1 ⊢
      repeat (refine wpF_readB (v := ?_) h13 rfl rfl (fun w' hg => ?_) (fun K hK => ?_); rotate_left; (go_simp; rfl); go_simp; refine hK _ _ ?_; clear hK K)
      refine wpF_nil ?_
      have T11 := Lib.hid U2
      clear n2 g7 g8 g10 g0 U2
      clear T0_0 T0_1 T0_2 T7_0 T7_1 T7_2 T9_0 T9_1 T9_2
      have G := Lib.hid (G.out.trans h13)
      have T0 := Lib.hid (T0.out.grow h13)
      have T7 := Lib.hid (T7.out.grow h13)
      have T9 := Lib.hid (T9.out.grow h13)
      have HR0 := Lib.hid (HR0.out.grow h13)
      have HA0 := Lib.hid (HA0.out.grow h13)
      have HN := Lib.hid (HN.out.grow h13)
      have H61 := Lib.hid (H61.out.grow h13)
      have H62 := Lib.hid (H62.out.grow h13)
      clear h13
      have T0_0 := T0.out.load.1
      have T0_1 := T0.out.load.2.1
      have T0_2 := T0.out.load.2.2
      have T7_0 := T7.out.load.1
      have T7_1 := T7.out.load.2.1
      have T7_2 := T7.out.load.2.2
      have T9_0 := T9.out.load.1
      have T9_1 := T9.out.load.2.1
      have T9_2 := T9.out.load.2.2
      have T11_0 := T11.out.load.1
      have T11_1 := T11.out.load.2.1
      have T11_2 := T11.out.load.2.2
      go_wp2_with fail
      have g0 : Gr W6 W6.drew := (Gr.refl _).drew
      clear T0_0 T0_1 T0_2 T7_0 T7_1 T7_2 T9_0 T9_1 T9_2 T11_0 T11_1 T11_2
      have T0_0 := T0.out.c0
      have T0_1 := T0.out.c1
      have T0_2 := T0.out.c2
      have T7_0 := T7.out.c0
      have T7_1 := T7.out.c1
      have T7_2 := T7.out.c2
      have T9_0 := T9.out.c0
      have T9_1 := T9.out.c1
      have T9_2 := T9.out.c2
      have T11_0 := T11.out.c0
      have T11_1 := T11.out.c1
      have T11_2 := T11.out.c2
      refine wp_region_late zcR 60 [ (0, 1), (1, 1), (2, 1), (3, 0), (4, 0), (5, 1), (6, 1), (7, 1), (8, 2), (9, 0), (10, 1)] (by kernel_rfl) (by kernel_rfl) rfl (by kernel_rfl) (fun _ _ d _ _ h => by cases d <;> exact h) (fun _ _ d _ _ h => by cases d <;> exact h) (by intro i hi; simp at hi; subst hi; exact ⟨_, _, rfl, rfl, rfl, allocR⟩) ?_
      repeat (refine wpF_readB (v := ?_) g0 rfl rfl (fun w' hg => ?_) (fun K hK => ?_); rotate_left; (go_simp; rfl); go_simp; refine hK _ _ ?_; clear hK K)
      refine wpF_do rfl rfl (fun K hK v1 g1 => ?_)
      go_simp
      refine (ref2_From _ n hn1 hn2).mono ?_
      rintro _ v2 ⟨r2, rfl, g2, h2⟩
      refine ⟨fun _ => g2, hK _ _ ?_⟩
      clear hK K
      have HP := Lib.hid h2
      have g2 := (g0.trans g1).trans g2
      clear g1 h2
      refine wpF_do rfl rfl (fun K hK v5 g5 => ?_)
      go_simp
      refine (s_MakeOk _ _ _ z n 6 2 (HN.out.grow (g2.trans g5)) ((HP.out.v (i64_len n hn1 hn2)).grow g5) hz0 (by decide) (by decide)).mono ?_
      rintro _ v6 ⟨_, rfl, g6, u, rfl, hu⟩
      refine ⟨fun _ => g6, hK _ _ ?_⟩
      clear hK K
      have g7 := g2.trans (g5.trans g6)
      clear g2 g5 g6
      have HM2 := Lib.hid hu
      obtain ⟨s_64, p_64, k_64, c_64, e_64, m_64, n_64, rfl⟩ := hu.agg
      clear hu
      repeat (refine wpF_readB (v := ?_) g7 rfl rfl (fun w' hg => ?_) (fun K hK => ?_); rotate_left; (go_simp; rfl); go_simp; refine hK _ _ ?_; clear hK K)
      refine wpF_new rfl rfl (fun K w8 b_T13 g8 f2 n2 hK => hK _ _ ?_)
      clear hK K
      have T2' := f2.three
      clear f2
      refine wpF_do rfl rfl (fun K hK w10 g10 => ?_)
      have e2 := T2'.grow g10
      have d0 := e2.c0 w10 (Gr.refl _)
      have d1 := e2.c1 w10 (Gr.refl _)
      have d2 := e2.c2 w10 (Gr.refl _)
      have d3 := e2.f0 0
      have d4 := e2.f0 1
      have d5 := e2.f0 2
      go_simp
      refine ⟨fun h => Bool.noConfusion h, hK _ _ ?_⟩
      clear hK K
      have h13 := (g7.trans (g8.trans g10)).three n2 (.bool s_64) (.slice p_64 k_64 c_64) (.slice e_64 m_64 n_64)
      have U2 := e2.set (.bool s_64) (.slice p_64 k_64 c_64) (.slice e_64 m_64 n_64)
      have HM2 := Lib.hid ((HM2.out.grow (g8.trans g10)).keepR e2 (.bool s_64) (.slice p_64 k_64 c_64) (.slice e_64 m_64 n_64))
      clear d0 d1 d2 d3 d4 d5 e2 T2'
      generalize ((w10.setCell _ _).setCell _ _).setCell _ _ = W7 at h13 U2 HM2 ⊢
      repeat (refine wpF_readB (v := ?_) h13 rfl rfl (fun w' hg => ?_) (fun K hK => ?_); rotate_left; (go_simp; rfl); go_simp; refine hK _ _ ?_; clear hK K)
      refine wpF_nil ?_
      have T13 := Lib.hid U2
      clear n2 g7 g8 g10 g0 U2
      clear T0_0 T0_1 T0_2 T7_0 T7_1 T7_2 T9_0 T9_1 T9_2 T11_0 T11_1 T11_2
      have G := Lib.hid (G.out.trans h13)
      have T0 := Lib.hid (T0.out.grow h13)
      have T7 := Lib.hid (T7.out.grow h13)
      have T9 := Lib.hid (T9.out.grow h13)
      have T11 := Lib.hid (T11.out.grow h13)
      have HR0 := Lib.hid (HR0.out.grow h13)
      have HA0 := Lib.hid (HA0.out.grow h13)
      have HN := Lib.hid (HN.out.grow h13)
      have H61 := Lib.hid (H61.out.grow h13)
      have H62 := Lib.hid (H62.out.grow h13)
      have HM1 := Lib.hid (HM1.out.grow h13)
      clear h13
      have T0_0 := T0.out.load.1
      have T0_1 := T0.out.load.2.1
      have T0_2 := T0.out.load.2.2
      have T7_0 := T7.out.load.1
      have T7_1 := T7.out.load.2.1
      have T7_2 := T7.out.load.2.2
      have T9_0 := T9.out.load.1
      have T9_1 := T9.out.load.2.1
      have T9_2 := T9.out.load.2.2
      have T11_0 := T11.out.load.1
      have T11_1 := T11.out.load.2.1
      have T11_2 := T11.out.load.2.2
      have T13_0 := T13.out.load.1
      have T13_1 := T13.out.load.2.1
      have T13_2 := T13.out.load.2.2
      go_wp2_with fail
      refine (q_Int64 W7 _ x0 ft 6 HR0.out hft (by decide)).mono ?_
      rintro _ w71 ⟨_, rfl, g71, rfl⟩
      clear T0_0 T0_1 T0_2 T7_0 T7_1 T7_2 T9_0 T9_1 T9_2 T11_0 T11_1 T11_2 T13_0 T13_1 T13_2
      have G := Lib.hid (G.out.trans g71)
      have T0 := Lib.hid (T0.out.grow g71)
      have T7 := Lib.hid (T7.out.grow g71)
      have T9 := Lib.hid (T9.out.grow g71)
      have T11 := Lib.hid (T11.out.grow g71)
      have T13 := Lib.hid (T13.out.grow g71)
      have HR0 := Lib.hid (HR0.out.grow g71)
      have HA0 := Lib.hid (HA0.out.grow g71)
      have HN := Lib.hid (HN.out.grow g71)
      have H61 := Lib.hid (H61.out.grow g71)
      have H62 := Lib.hid (H62.out.grow g71)
      have HM1 := Lib.hid (HM1.out.grow g71)
      have HM2 := Lib.hid (HM2.out.grow g71)
      clear g71
      simp only [hvv]
      have T0_0 := T0.out.load.1
      have T0_1 := T0.out.load.2.1
      have T0_2 := T0.out.load.2.2
      have T7_0 := T7.out.load.1
      have T7_1 := T7.out.load.2.1
      have T7_2 := T7.out.load.2.2
      have T9_0 := T9.out.load.1
      have T9_1 := T9.out.load.2.1
      have T9_2 := T9.out.load.2.2
      have T11_0 := T11.out.load.1
      have T11_1 := T11.out.load.2.1
      have T11_2 := T11.out.load.2.2
      have T13_0 := T13.out.load.1
      have T13_1 := T13.out.load.2.1
      have T13_2 := T13.out.load.2.2
      go_wp2_with fail
      refine (s_Int64 w71 _ x0 ft 6 HR0.out hft (by decide) (by decide)).mono ?_
      rintro _ w72 ⟨_, rfl, g72, rfl⟩
      clear T0_0 T0_1 T0_2 T7_0 T7_1 T7_2 T9_0 T9_1 T9_2 T11_0 T11_1 T11_2 T13_0 T13_1 T13_2
      have G := Lib.hid (G.out.trans g72)
      have T0 := Lib.hid (T0.out.grow g72)
      have T7 := Lib.hid (T7.out.grow g72)
      have T9 := Lib.hid (T9.out.grow g72)
      have T11 := Lib.hid (T11.out.grow g72)
      have T13 := Lib.hid (T13.out.grow g72)
      have HR0 := Lib.hid (HR0.out.grow g72)
      have HA0 := Lib.hid (HA0.out.grow g72)
      have HN := Lib.hid (HN.out.grow g72)
      have H61 := Lib.hid (H61.out.grow g72)
      have H62 := Lib.hid (H62.out.grow g72)
      have HM1 := Lib.hid (HM1.out.grow g72)
      have HM2 := Lib.hid (HM2.out.grow g72)
      clear g72
      simp only [hvv]
      go_wp2_with fail
      refine wp_region_fast [(0, true), (2, true), (1, false), (3, false), (4, true), (5, true), (6, true), (7, true), (8, false), (9, true), (10, true), (11, true), (12, true), (13, true), (14, true), (15, true), (16, true), (17, true), (18, false), (19, true), (20, true), (21, true), (22, true), (23, true), (24, true), (25, true), (26, true), (28, true), (27, false), (29, false), (30, false), (31, true), (32, true), (33, true), (35, true), (34, false), (36, false), (37, true), (38, true), (39, true), (40, true), (41, true), (42, true), (43, true), (44, true), (45, true), (46, true), (47, true), (48, true), (49, true), (50, true), (52, true), (51, false), (53, false), (54, true), (55, true), (56, true)] (by kernel_rfl) (by kernel_rfl) rfl (by kernel_rfl) (fun _ _ d _ _ h => by cases d <;> exact h) ?_
      have T0_0 := T0.out.c0
      have T0_1 := T0.out.c1
      have T0_2 := T0.out.c2
      have T7_0 := T7.out.c0
      have T7_1 := T7.out.c1
      have T7_2 := T7.out.c2
      have T9_0 := T9.out.c0
      have T9_1 := T9.out.c1
      have T9_2 := T9.out.c2
      have T11_0 := T11.out.c0
      have T11_1 := T11.out.c1
      have T11_2 := T11.out.c2
      have T13_0 := T13.out.c0
      have T13_1 := T13.out.c1
      have T13_2 := T13.out.c2
      have g0 : Gr w72 w72.drew := (Gr.refl _).drew
      have G := Lib.hid (G.out.trans g0)
      have T0 := Lib.hid (T0.out.grow g0)
      have T7 := Lib.hid (T7.out.grow g0)
      have T9 := Lib.hid (T9.out.grow g0)
      have T11 := Lib.hid (T11.out.grow g0)
      have T13 := Lib.hid (T13.out.grow g0)
      have HR0 := Lib.hid (HR0.out.grow g0)
      have HA0 := Lib.hid (HA0.out.grow g0)
      have HN := Lib.hid (HN.out.grow g0)
      have H61 := Lib.hid (H61.out.grow g0)
      have H62 := Lib.hid (H62.out.grow g0)
      have HM1 := Lib.hid (HM1.out.grow g0)
      have HM2 := Lib.hid (HM2.out.grow g0)
      repeat (refine wpE_readB (v := ?_) g0 rfl rfl (fun w' hg => ?_) (fun K hK => ?_); rotate_left; (go_simp; rfl); go_simp; refine hK _ _ ?_; clear hK K)
      refine wpE_fn (args := ?_) rfl rfl rfl rfl rfl rfl (by kernel_rfl) (by kernel_rfl) ?_ (fun K hK => ?_)
      rotate_left
      · go_simp; rfl
      refine (rat_Valid _ _ s0 l0 d0 vt 6 HA0.out HLl.out HLd.out (by decide) hvt).mono ?_
      rintro _ w81 ⟨_, rfl, g81, rfl⟩
      refine ⟨_, rfl, g81, ?_⟩
      go_simp
      refine hK _ _ ?_
      clear hK K
      have G := Lib.hid (G.out.trans g81)
      have T0 := Lib.hid (T0.out.grow g81)
      have T7 := Lib.hid (T7.out.grow g81)
      have T9 := Lib.hid (T9.out.grow g81)
      have T11 := Lib.hid (T11.out.grow g81)
      have T13 := Lib.hid (T13.out.grow g81)
      have HR0 := Lib.hid (HR0.out.grow g81)
      have HA0 := Lib.hid (HA0.out.grow g81)
      have HN := Lib.hid (HN.out.grow g81)
      have H61 := Lib.hid (H61.out.grow g81)
      have H62 := Lib.hid (H62.out.grow g81)
      have HM1 := Lib.hid (HM1.out.grow g81)
      have HM2 := Lib.hid (HM2.out.grow g81)
      replace g0 := g0.trans g81
      clear g81
      repeat (refine wpE_readB (v := ?_) g0 rfl rfl (fun w' hg => ?_) (fun K hK => ?_); rotate_left; (go_simp; rfl); go_simp; refine hK _ _ ?_; clear hK K)
      refine wpE_fn (args := ?_) rfl rfl rfl rfl rfl rfl (by kernel_rfl) (by kernel_rfl) ?_ (fun K hK => ?_)
      rotate_left
      · go_simp; rfl
      refine (ref_Valid3 _ _ s0 l0 d0 vt 6 HA0.out HLl.out HLd.out (by decide) hvt).mono ?_
      rintro _ w82 ⟨_, rfl, g82, rfl⟩
      refine ⟨_, rfl, g82, ?_⟩
      go_simp
      refine hK _ _ ?_
      clear hK K
      have G := Lib.hid (G.out.trans g82)
      have T0 := Lib.hid (T0.out.grow g82)
      have T7 := Lib.hid (T7.out.grow g82)
      have T9 := Lib.hid (T9.out.grow g82)
      have T11 := Lib.hid (T11.out.grow g82)
      have T13 := Lib.hid (T13.out.grow g82)
      have HR0 := Lib.hid (HR0.out.grow g82)
      have HA0 := Lib.hid (HA0.out.grow g82)
      have HN := Lib.hid (HN.out.grow g82)
      have H61 := Lib.hid (H61.out.grow g82)
      have H62 := Lib.hid (H62.out.grow g82)
      have HM1 := Lib.hid (HM1.out.grow g82)
      have HM2 := Lib.hid (HM2.out.grow g82)
      replace g0 := g0.trans g82
      clear g82
      repeat (refine wpE_readB (v := ?_) g0 rfl rfl (fun w' hg => ?_) (fun K hK => ?_); rotate_left; (go_simp; rfl); go_simp; refine hK _ _ ?_; clear hK K)
      refine wpE_fn (args := ?_) rfl rfl rfl rfl rfl rfl (by kernel_rfl) (by kernel_rfl) ?_ (fun K hK => ?_)
      rotate_left
      · go_simp; rfl
      refine (d_SameC _ _ _ (Rat.divInt m n) (Rat.divInt m n) true H61.out H62.out (decide_eq_true (rfl))).mono ?_
      rintro _ w83 ⟨_, rfl, g83, rfl⟩
      refine ⟨_, rfl, g83, ?_⟩
      go_simp
      refine hK _ _ ?_
      clear hK K
      have G := Lib.hid (G.out.trans g83)
      have T0 := Lib.hid (T0.out.grow g83)
      have T7 := Lib.hid (T7.out.grow g83)
      have T9 := Lib.hid (T9.out.grow g83)
      have T11 := Lib.hid (T11.out.grow g83)
      have T13 := Lib.hid (T13.out.grow g83)
      have HR0 := Lib.hid (HR0.out.grow g83)
      have HA0 := Lib.hid (HA0.out.grow g83)
      have HN := Lib.hid (HN.out.grow g83)
      have H61 := Lib.hid (H61.out.grow g83)
      have H62 := Lib.hid (H62.out.grow g83)
      have HM1 := Lib.hid (HM1.out.grow g83)
      have HM2 := Lib.hid (HM2.out.grow g83)
      replace g0 := g0.trans g83
      clear g83
      repeat (refine wpE_readB (v := ?_) g0 rfl rfl (fun w' hg => ?_) (fun K hK => ?_); rotate_left; (go_simp; rfl); go_simp; refine hK _ _ ?_; clear hK K)
      refine wpE_fn (args := ?_) rfl rfl rfl rfl rfl rfl (by kernel_rfl) (by kernel_rfl) ?_ (fun K hK => ?_)
      rotate_left
      · go_simp; rfl
      refine (d_SameC _ _ _ (Rat.divInt z n) (Rat.divInt z n) true HM1.out HM2.out (decide_eq_true (rfl))).mono ?_
      rintro _ w84 ⟨_, rfl, g84, rfl⟩
      refine ⟨_, rfl, g84, ?_⟩
      go_simp
      refine hK _ _ ?_
      clear hK K
      have G := Lib.hid (G.out.trans g84)
      have T0 := Lib.hid (T0.out.grow g84)
      have T7 := Lib.hid (T7.out.grow g84)
      have T9 := Lib.hid (T9.out.grow g84)
      have T11 := Lib.hid (T11.out.grow g84)
      have T13 := Lib.hid (T13.out.grow g84)
      have HR0 := Lib.hid (HR0.out.grow g84)
      have HA0 := Lib.hid (HA0.out.grow g84)
      have HN := Lib.hid (HN.out.grow g84)
      have H61 := Lib.hid (H61.out.grow g84)
      have H62 := Lib.hid (H62.out.grow g84)
      have HM1 := Lib.hid (HM1.out.grow g84)
      have HM2 := Lib.hid (HM2.out.grow g84)
      replace g0 := g0.trans g84
      clear g84
      repeat (refine wpE_readB (v := ?_) g0 rfl rfl (fun w' hg => ?_) (fun K hK => ?_); rotate_left; (go_simp; rfl); go_simp; refine hK _ _ ?_; clear hK K)
      refine wpE_fn (args := ?_) rfl rfl rfl rfl rfl rfl (by kernel_rfl) (by kernel_rfl) ?_ (fun K hK => ?_)
      rotate_left
      · go_simp; rfl
      refine (q_From _ n hn1 hn2).mono ?_
      rintro _ w91 ⟨r91, rfl, g91, h91⟩
      refine ⟨_, rfl, g91, ?_⟩
      go_simp
      refine hK _ _ ?_
      clear hK K
      have G := Lib.hid (G.out.trans g91)
      have T0 := Lib.hid (T0.out.grow g91)
      have T7 := Lib.hid (T7.out.grow g91)
      have T9 := Lib.hid (T9.out.grow g91)
      have T11 := Lib.hid (T11.out.grow g91)
      have T13 := Lib.hid (T13.out.grow g91)
      have HR0 := Lib.hid (HR0.out.grow g91)
      have HA0 := Lib.hid (HA0.out.grow g91)
      have HN := Lib.hid (HN.out.grow g91)
      have H61 := Lib.hid (H61.out.grow g91)
      have H62 := Lib.hid (H62.out.grow g91)
      have HM1 := Lib.hid (HM1.out.grow g91)
      have HM2 := Lib.hid (HM2.out.grow g91)
      replace g0 := g0.trans g91
      clear g91
      have H91 := Lib.hid h91
      clear h91
      refine wpE_fn (args := ?_) rfl rfl rfl rfl rfl rfl (by kernel_rfl) (by kernel_rfl) ?_ (fun K hK => ?_)
      rotate_left
      · go_simp; rfl
      refine (s_From _ n hn1 hn2).mono ?_
      rintro _ w92 ⟨r92, rfl, g92, h92⟩
      refine ⟨_, rfl, g92, ?_⟩
      go_simp
      refine hK _ _ ?_
      clear hK K
      have G := Lib.hid (G.out.trans g92)
      have T0 := Lib.hid (T0.out.grow g92)
      have T7 := Lib.hid (T7.out.grow g92)
      have T9 := Lib.hid (T9.out.grow g92)
      have T11 := Lib.hid (T11.out.grow g92)
      have T13 := Lib.hid (T13.out.grow g92)
      have HR0 := Lib.hid (HR0.out.grow g92)
      have HA0 := Lib.hid (HA0.out.grow g92)
      have HN := Lib.hid (HN.out.grow g92)
      have H61 := Lib.hid (H61.out.grow g92)
      have H62 := Lib.hid (H62.out.grow g92)
      have HM1 := Lib.hid (HM1.out.grow g92)
      have HM2 := Lib.hid (HM2.out.grow g92)
      have H91 := Lib.hid (H91.out.grow g92)
      replace g0 := g0.trans g92
      clear g92
      have H92 := Lib.hid h92
      clear h92
      repeat (refine wpE_readB (v := ?_) g0 rfl rfl (fun w' hg => ?_) (fun K hK => ?_); rotate_left; (go_simp; rfl); go_simp; refine hK _ _ ?_; clear hK K)
      refine wpE_fn (args := ?_) rfl rfl rfl rfl rfl rfl (by kernel_rfl) (by kernel_rfl) ?_ (fun K hK => ?_)
      rotate_left
      · go_simp; rfl
      refine (d_SameC _ _ _ ((n : Int) : Rat) ((n : Int) : Rat) true H91.out H92.out (decide_eq_true (rfl))).mono ?_
      rintro _ w93 ⟨_, rfl, g93, rfl⟩
      refine ⟨_, rfl, g93, ?_⟩
      go_simp
      refine hK _ _ ?_
      clear hK K
      have G := Lib.hid (G.out.trans g93)
      have T0 := Lib.hid (T0.out.grow g93)
      have T7 := Lib.hid (T7.out.grow g93)
      have T9 := Lib.hid (T9.out.grow g93)
      have T11 := Lib.hid (T11.out.grow g93)
      have T13 := Lib.hid (T13.out.grow g93)
      have HR0 := Lib.hid (HR0.out.grow g93)
      have HA0 := Lib.hid (HA0.out.grow g93)
      have HN := Lib.hid (HN.out.grow g93)
      have H61 := Lib.hid (H61.out.grow g93)
      have H62 := Lib.hid (H62.out.grow g93)
      have HM1 := Lib.hid (HM1.out.grow g93)
      have HM2 := Lib.hid (HM2.out.grow g93)
      have H91 := Lib.hid (H91.out.grow g93)
      have H92 := Lib.hid (H92.out.grow g93)
      replace g0 := g0.trans g93
      clear g93
      repeat (refine wpE_readB (v := ?_) g0 rfl rfl (fun w' hg => ?_) (fun K hK => ?_); rotate_left; (go_simp; rfl); go_simp; refine hK _ _ ?_; clear hK K)
      refine wpE_fn (args := ?_) rfl rfl rfl rfl rfl rfl (by kernel_rfl) (by kernel_rfl) ?_ (fun K hK => ?_)
      rotate_left
      · go_simp; rfl
      refine (q_Sign _ _ x0 (sg) 6 HR0.out (hsg) (by decide)).mono ?_
      rintro _ w94 ⟨_, rfl, g94, rfl⟩
      refine ⟨_, rfl, g94, ?_⟩
      go_simp
      refine hK _ _ ?_
      clear hK K
      have G := Lib.hid (G.out.trans g94)
      have T0 := Lib.hid (T0.out.grow g94)
      have T7 := Lib.hid (T7.out.grow g94)
      have T9 := Lib.hid (T9.out.grow g94)
      have T11 := Lib.hid (T11.out.grow g94)
      have T13 := Lib.hid (T13.out.grow g94)
      have HR0 := Lib.hid (HR0.out.grow g94)
      have HA0 := Lib.hid (HA0.out.grow g94)
      have HN := Lib.hid (HN.out.grow g94)
      have H61 := Lib.hid (H61.out.grow g94)
      have H62 := Lib.hid (H62.out.grow g94)
      have HM1 := Lib.hid (HM1.out.grow g94)
      have HM2 := Lib.hid (HM2.out.grow g94)
      have H91 := Lib.hid (H91.out.grow g94)
      have H92 := Lib.hid (H92.out.grow g94)
      replace g0 := g0.trans g94
      clear g94
      repeat (refine wpE_readB (v := ?_) g0 rfl rfl (fun w' hg => ?_) (fun K hK => ?_); rotate_left; (go_simp; rfl); go_simp; refine hK _ _ ?_; clear hK K)
      refine wpE_fn (args := ?_) rfl rfl rfl rfl rfl rfl (by kernel_rfl) (by kernel_rfl) ?_ (fun K hK => ?_)
      rotate_left
      · go_simp; rfl
      refine (s_Sign _ _ x0 (sg) 6 HR0.out (hsg) (by decide)).mono ?_
      rintro _ w95 ⟨_, rfl, g95, rfl⟩
      refine ⟨_, rfl, g95, ?_⟩
      go_simp
      refine hK _ _ ?_
      clear hK K
      have G := Lib.hid (G.out.trans g95)
      have T0 := Lib.hid (T0.out.grow g95)
      have T7 := Lib.hid (T7.out.grow g95)
      have T9 := Lib.hid (T9.out.grow g95)
      have T11 := Lib.hid (T11.out.grow g95)
      have T13 := Lib.hid (T13.out.grow g95)
      have HR0 := Lib.hid (HR0.out.grow g95)
      have HA0 := Lib.hid (HA0.out.grow g95)
      have HN := Lib.hid (HN.out.grow g95)
      have H61 := Lib.hid (H61.out.grow g95)
      have H62 := Lib.hid (H62.out.grow g95)
      have HM1 := Lib.hid (HM1.out.grow g95)
      have HM2 := Lib.hid (HM2.out.grow g95)
      have H91 := Lib.hid (H91.out.grow g95)
      have H92 := Lib.hid (H92.out.grow g95)
      replace g0 := g0.trans g95
      clear g95
      repeat (refine wpE_readB (v := ?_) g0 rfl rfl (fun w' hg => ?_) (fun K hK => ?_); rotate_left; (go_simp; rfl); go_simp; refine hK _ _ ?_; clear hK K)
      refine wpE_fn (args := ?_) rfl rfl rfl rfl rfl rfl (by kernel_rfl) (by kernel_rfl) ?_ (fun K hK => ?_)
      rotate_left
      · go_simp; rfl
      refine (q_Text _ _ x0 6 tx HR0.out htx (by decide) (by decide) (HTab.out.grow G.out)).mono ?_
      rintro _ w101 ⟨_, rfl, g101, rfl⟩
      refine ⟨_, rfl, g101, ?_⟩
      go_simp
      refine hK _ _ ?_
      clear hK K
      have G := Lib.hid (G.out.trans g101)
      have T0 := Lib.hid (T0.out.grow g101)
      have T7 := Lib.hid (T7.out.grow g101)
      have T9 := Lib.hid (T9.out.grow g101)
      have T11 := Lib.hid (T11.out.grow g101)
      have T13 := Lib.hid (T13.out.grow g101)
      have HR0 := Lib.hid (HR0.out.grow g101)
      have HA0 := Lib.hid (HA0.out.grow g101)
      have HN := Lib.hid (HN.out.grow g101)
      have H61 := Lib.hid (H61.out.grow g101)
      have H62 := Lib.hid (H62.out.grow g101)
      have HM1 := Lib.hid (HM1.out.grow g101)
      have HM2 := Lib.hid (HM2.out.grow g101)
      have H91 := Lib.hid (H91.out.grow g101)
      have H92 := Lib.hid (H92.out.grow g101)
      replace g0 := g0.trans g101
      clear g101
      repeat (refine wpE_readB (v := ?_) g0 rfl rfl (fun w' hg => ?_) (fun K hK => ?_); rotate_left; (go_simp; rfl); go_simp; refine hK _ _ ?_; clear hK K)
      refine wpE_fn (args := ?_) rfl rfl rfl rfl rfl rfl (by kernel_rfl) (by kernel_rfl) ?_ (fun K hK => ?_)
      rotate_left
      · go_simp; rfl
      refine (s_Text _ _ x0 6 tx HR0.out htx (by decide) (by decide)).mono ?_
      rintro _ w102 ⟨_, rfl, g102, rfl⟩
      refine ⟨_, rfl, g102, ?_⟩
      go_simp
      refine hK _ _ ?_
      clear hK K
      have G := Lib.hid (G.out.trans g102)
      have T0 := Lib.hid (T0.out.grow g102)
      have T7 := Lib.hid (T7.out.grow g102)
      have T9 := Lib.hid (T9.out.grow g102)
      have T11 := Lib.hid (T11.out.grow g102)
      have T13 := Lib.hid (T13.out.grow g102)
      have HR0 := Lib.hid (HR0.out.grow g102)
      have HA0 := Lib.hid (HA0.out.grow g102)
      have HN := Lib.hid (HN.out.grow g102)
      have H61 := Lib.hid (H61.out.grow g102)
      have H62 := Lib.hid (H62.out.grow g102)
      have HM1 := Lib.hid (HM1.out.grow g102)
      have HM2 := Lib.hid (HM2.out.grow g102)
      have H91 := Lib.hid (H91.out.grow g102)
      have H92 := Lib.hid (H92.out.grow g102)
      replace g0 := g0.trans g102
      clear g102
      repeat (refine wpE_readB (v := ?_) g0 rfl rfl (fun w' hg => ?_) (fun K hK => ?_); rotate_left; (go_simp; rfl); go_simp; refine hK _ _ ?_; clear hK K)
      refine wpE_nil ?_
      clear g0
      clear T0_0 T0_1 T0_2 T7_0 T7_1 T7_2 T9_0 T9_1 T9_2 T11_0 T11_1 T11_2 T13_0 T13_1 T13_2
      go_wp2_with fail
      go_ret
      exact ⟨_, rfl, G.out, rfl⟩
end Go.Proofs.YtmcgkglmlfbijaaGreatDoor

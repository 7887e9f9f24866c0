/-
  RationalRounds: the walk.
-/
import Derived.Test.YtmcgkglmlfbijaaGreatDoorRatP
import Derived.Test.YtmcgkglmlfbijaaGreatDoorEarly
import Derived.Test.YtmcgkglmlfbijaaGreatDoorLoose
namespace Go.Proofs.YtmcgkglmlfbijaaGreatDoor
open Go.RowKit Go.Lib
set_option linter.unusedVariables false
set_option linter.unusedSimpArgs false

set_option maxRecDepth 100000 in
set_option maxHeartbeats 12800000 in
theorem law_RationalRounds (w : World) (htab : Tab w) (v0 : Value) (s0 : Bool) (l0 d0 : List Nat) (i0 : RatL w v0 s0 l0 d0) :
    Calls Tryz.prog 3 #[v0] w (Ret w fun r w' => r = .bool true) := by
  have HTab := Lib.hid htab
  clear htab
  have HA0 := Lib.hid i0
  obtain ⟨p0, k0, c0, e0, m0, n0, rfl, j0, j0'⟩ := i0
  have Hl0 := Lib.hid j0.len
  have Hm0 := Lib.hid j0'.len
  clear j0 j0'
  have B := box3 w (.bool s0) (.slice p0 k0 c0) (.slice e0 m0 n0) 27
  go_enter Tryz.func3, Tryz.ntmps3
  go_wp2_with fail
  generalize w.alloc _ = W at B ⊢
  obtain ⟨G0, t0⟩ := B
  generalize hb0 : w.heap.size = b0 at t0  ⊢
  have Hb0 := Lib.hid (show ¬ b0 < w.heap.size by omega)
  have G := Lib.hid G0
  have T0 := Lib.hid t0
  clear hb0 G0 t0
  have HA0 := Lib.hid (HA0.out.grow G.out)
  refine (law_awake3 W (HTab.out.grow G.out)).mono ?_
  rintro _ w1 ⟨_, rfl, g1, rfl⟩
  have G := Lib.hid (G.out.trans g1)
  have T0 := Lib.hid (T0.out.grow g1)
  have HA0 := Lib.hid (HA0.out.grow g1)
  clear g1
  have T0_0 := T0.out.load.1
  have T0_1 := T0.out.load.2.1
  have T0_2 := T0.out.load.2.2
  go_wp2_with fail
  clear T0_0 T0_1 T0_2
  obtain ⟨t, ht⟩ : ∃ t, decide (∀ i, i < 1 → (k0) ≤ 6 ∧ (m0) ≤ 6) = t := ⟨_, rfl⟩
  refine (ref_Few _ _ 1 1 6 (fun i => s0) (fun i => p0) (fun i => e0) (fun i => k0) (fun i => c0) (fun i => m0) (fun i => n0) (by decide) (by decide) (by decide) t ht (fun i hi => ?_)).mono ?_
  · match i, hi with
    | 0, _ => exact ⟨cell_new3 _ _ _ _, cell_new3 _ _ _ _, cell_new3 _ _ _ _⟩
  rintro _ w3 ⟨_, rfl, g3, rfl⟩
  have g4 : Gr w1 w3 := ((Gr.refl w1).alloc _).trans g3
  clear g3
  have G := Lib.hid (G.out.trans g4)
  have T0 := Lib.hid (T0.out.grow g4)
  have HA0 := Lib.hid (HA0.out.grow g4)
  clear g4
  cases t
  · clear ht
    go_wp2_with fail
    refine (law_awake3 w3 (HTab.out.grow G.out)).mono ?_
    rintro _ w5 ⟨_, rfl, g5, rfl⟩
    have G := Lib.hid (G.out.trans g5)
    have T0 := Lib.hid (T0.out.grow g5)
    have HA0 := Lib.hid (HA0.out.grow g5)
    clear g5
    go_wp2_with fail
    go_ret
    exact ⟨_, rfl, G.out, rfl⟩
  · have hh := of_decide_eq_true ht
    have hk0 := hh 0 (by decide)
    obtain ⟨x0, hx0⟩ : ∃ x, ratv s0 l0 d0 = x := ⟨_, rfl⟩
    have HR0 := Lib.hid (show RatV w3 _ x0 6 from ⟨s0, l0, d0, HA0.out, hx0, by rw [Hl0.out]; exact hk0.1, by rw [Hm0.out]; exact hk0.2⟩)
    have SR0 := Lib.hid (HR0.out.sz (by decide))
    clear ht hh hk0
    go_wp2_with fail
    obtain ⟨lo, hlo⟩ : ∃ f, x0.floor = f := ⟨_, rfl⟩
    obtain ⟨hi, hhi⟩ : ∃ f, -(-x0).floor = f := ⟨_, rfl⟩
    have HF := Lib.hid (floor_facts hlo hhi)
    have HLl := Lib.hid (show (digs lo.natAbs).length ≤ 7 by rw [← hlo]; exact floor_len SR0.out)
    have HHl := Lib.hid (show (digs hi.natAbs).length ≤ 7 by rw [← hhi, Int.natAbs_neg]; exact floor_len (sz_neg SR0.out))
    have g0 : Gr w3 w3.drew := (Gr.refl _).drew
    have T0_0 := T0.out.c0
    have T0_1 := T0.out.c1
    have T0_2 := T0.out.c2
    refine wp_region_late zcI 60 [(0, 1), (2, 1), (1, 0), (3, 0), (4, 2), (5, 2), (6, 0), (7, 0)] (by kernel_rfl) (by kernel_rfl) rfl (by kernel_rfl) (fun _ _ d _ _ h => by cases d <;> exact h) (fun _ _ d _ _ h => by cases d <;> exact h) (by intro i hi; simp at hi; rcases hi with rfl | rfl <;> exact ⟨_, _, rfl, rfl, rfl, allocI⟩) ?_
    repeat (refine wpF_readB (v := ?_) g0 rfl rfl (fun w' hg => ?_) (fun K hK => ?_); rotate_left; (go_simp; rfl); go_simp; refine hK _ _ ?_; clear hK K)
    refine wpF_do rfl rfl (fun K hK v1 g1 => ?_)
    go_simp
    refine (q_Floor _ _ x0 lo 6 (HR0.out.grow (g0.trans g1)) hlo (by decide)).mono ?_
    rintro _ v2 ⟨r2, rfl, g2, h2⟩
    refine ⟨fun _ => g2, hK _ _ ?_⟩
    clear hK K
    have HQ := Lib.hid h2
    have g2 := (g0.trans g1).trans g2
    clear g1 h2
    refine wpF_do rfl rfl (fun K hK v5 g5 => ?_)
    go_simp
    refine (q_Ceil _ _ x0 hi 6 (HR0.out.grow (g2.trans g5)) hhi (by decide) (by decide)).mono ?_
    rintro _ v6 ⟨r6, rfl, g6, h6⟩
    refine ⟨fun _ => g6, hK _ _ ?_⟩
    clear hK K
    have HS := Lib.hid h6
    have HQ := Lib.hid (HQ.out.grow (g5.trans g6))
    have g7 := g2.trans (g5.trans g6)
    clear g2 g5 g6 h6 hlo hhi
    obtain ⟨pa1, ka1, ca1, rfl⟩ := HQ.out.agg
    obtain ⟨pb1, kb1, cb1, rfl⟩ := HS.out.agg
    repeat (refine wpF_readB (v := ?_) g7 rfl rfl (fun w' hg => ?_) (fun K hK => ?_); rotate_left; (go_simp; rfl); go_simp; refine hK _ _ ?_; clear hK K)
    generalize decide (lo < 0) = sa at HQ ⊢
    generalize decide (hi < 0) = sb at HS ⊢
    refine wpF_new rfl rfl (fun K w8 b12 g8 f2 n2 hK => hK _ _ ?_)
    clear hK K
    refine wpF_new rfl rfl (fun K w9 b13 g9 f3 n3 hK => hK _ _ ?_)
    clear hK K
    have T2' := f2.two
    have T3' := f3.two
    clear f2 f3
    refine wpF_do rfl rfl (fun K hK w10 g10 => ?_)
    have e2 := T2'.grow (g9.trans g10)
    have d0 := e2.c0 w10 (Gr.refl _)
    have d1 := e2.c1 w10 (Gr.refl _)
    have d2 := e2.f0 0
    have d3 := e2.f0 1
    go_simp
    refine ⟨fun h => Bool.noConfusion h, hK _ _ ?_⟩
    clear hK K
    have h11 := (g7.trans (g8.trans (g9.trans g10))).two n2 (.bool sa) (.slice pa1 ka1 ca1)
    have U2 := e2.set (.bool sa) (.slice pa1 ka1 ca1)
    have e3 := (T3'.grow g10).other (fun e => n3 (.inr e)) (.bool sa) (.slice pa1 ka1 ca1)
    have HQ := Lib.hid ((HQ.out.grow (g8.trans (g9.trans g10))).keepBox e2 (.bool sa) (.slice pa1 ka1 ca1))
    have HS := Lib.hid ((HS.out.grow (g8.trans (g9.trans g10))).keepBox e2 (.bool sa) (.slice pa1 ka1 ca1))
    clear d0 d1 d2 d3 e2 T2' T3'
    generalize (w10.setCell _ _).setCell _ _ = w11 at h11 U2 e3 HQ HS ⊢
    refine wpF_do rfl rfl (fun K hK w12 g12 => ?_)
    have e3 := e3.grow g12
    have d0 := e3.c0 w12 (Gr.refl _)
    have d1 := e3.c1 w12 (Gr.refl _)
    have d2 := e3.f0 0
    have d3 := e3.f0 1
    go_simp
    refine ⟨fun h => Bool.noConfusion h, hK _ _ ?_⟩
    clear hK K
    have h13 := (h11.trans g12).two (fun h => n3 (.inl h)) (.bool sb) (.slice pb1 kb1 cb1)
    have U3 := e3.set (.bool sb) (.slice pb1 kb1 cb1)
    have U2 := (U2.grow g12).other (fun e => n3 (.inr e.symm)) (.bool sb) (.slice pb1 kb1 cb1)
    have HQ := Lib.hid ((HQ.out.grow g12).keepBox e3 (.bool sb) (.slice pb1 kb1 cb1))
    have HS := Lib.hid ((HS.out.grow g12).keepBox e3 (.bool sb) (.slice pb1 kb1 cb1))
    clear d0 d1 d2 d3 e3
    generalize (w12.setCell _ _).setCell _ _ = W2 at h13 U2 U3 HQ HS ⊢
    repeat (refine wpF_readB (v := ?_) h13 rfl rfl (fun w' hg => ?_) (fun K hK => ?_); rotate_left; (go_simp; rfl); go_simp; refine hK _ _ ?_; clear hK K)
    refine wpF_nil ?_
    have TQ := Lib.hid U2
    have TS := Lib.hid U3
    clear h11 U2 U3 n2 n3 g7 g8 g9 g10 g12 g0
    clear T0_0 T0_1 T0_2
    have G := Lib.hid (G.out.trans h13)
    have T0 := Lib.hid (T0.out.grow h13)
    have HR0 := Lib.hid (HR0.out.grow h13)
    clear h13
    go_wp2_with fail
    refine (ref2_From _ 1 (by decide) (by decide)).mono ?_
    rintro _ w20 ⟨r20, rfl, g20, h20⟩
    have G := Lib.hid (G.out.trans g20)
    have T0 := Lib.hid (T0.out.grow g20)
    have TQ := Lib.hid (TQ.out.grow g20)
    have TS := Lib.hid (TS.out.grow g20)
    have HR0 := Lib.hid (HR0.out.grow g20)
    have HQ := Lib.hid (HQ.out.grow g20)
    have HS := Lib.hid (HS.out.grow g20)
    clear g20
    have H20 := Lib.hid h20
    clear h20
    obtain ⟨pc1, kc1, cc1, rfl⟩ := H20.out.agg
    generalize decide ((1 : Int) < 0) = sc at H20 ⊢
    have B := box2 w20 (.bool sc) (.slice pc1 kc1 cc1) 25
    have GB := Lib.hid B.1
    have T0_0 := (T0.out.grow B.1).load.1
    have T0_1 := (T0.out.grow B.1).load.2.1
    have T0_2 := (T0.out.grow B.1).load.2.2
    have TQ_0 := (TQ.out.grow B.1).load.1
    have TQ_1 := (TQ.out.grow B.1).load.2
    have TS_0 := (TS.out.grow B.1).load.1
    have TS_1 := (TS.out.grow B.1).load.2
    have TO := Lib.hid B.2
    have TO_0 := B.2.load.1
    have TO_1 := B.2.load.2
    clear B
    go_wp2_with fail
    clear T0_0 T0_1 T0_2 TQ_0 TQ_1 TS_0 TS_1 TO_0 TO_1
    generalize w20.heap.size = b_TO at TO ⊢
    generalize w20.alloc _ = W5 at GB TO ⊢
    have G := Lib.hid (G.out.trans GB.out)
    have T0 := Lib.hid (T0.out.grow GB.out)
    have TQ := Lib.hid (TQ.out.grow GB.out)
    have TS := Lib.hid (TS.out.grow GB.out)
    have HR0 := Lib.hid (HR0.out.grow GB.out)
    have HQ := Lib.hid (HQ.out.grow GB.out)
    have HS := Lib.hid (HS.out.grow GB.out)
    have H20 := Lib.hid (H20.out.grow GB.out)
    have T0_0 := T0.out.c0
    have T0_1 := T0.out.c1
    have T0_2 := T0.out.c2
    have TQ_0 := TQ.out.c0
    have TQ_1 := TQ.out.c1
    have TS_0 := TS.out.c0
    have TS_1 := TS.out.c1
    have TO_0 := TO.out.c0
    have TO_1 := TO.out.c1
    have HBB := Lib.hid (Gr.refl W5)
    refine wp_region_loose W5 (.read 0 (.read 1 (.read 2 (.read 3 (.two 4 (.one 5 (.one 6 (.one 7 .stop))) 5 (.one 4 (.one 6 (.one 7 .stop)))))))) (Gr.refl _) (by kernel_rfl) (by kernel_rfl) rfl (by kernel_rfl) (fun _ _ d _ _ h => by cases d <;> exact h) ?_
    have g0 : Gr W5 W5.drew := (Gr.refl _).drew
    refine wpL_read (v := ?_) rfl rfl (fun w' hg => ?_) (fun K hK => ?_)
    rotate_left
    · (go_simp; rfl)
    go_simp
    refine hK _ _ ?_
    clear hK K
    refine wpL_read (v := ?_) rfl rfl (fun w' hg => ?_) (fun K hK => ?_)
    rotate_left
    · (go_simp; rfl)
    go_simp
    refine hK _ _ ?_
    clear hK K
    refine wpL_read (v := ?_) rfl rfl (fun w' hg => ?_) (fun K hK => ?_)
    rotate_left
    · (go_simp; rfl)
    go_simp
    refine hK _ _ ?_
    clear hK K
    refine wpL_read (v := ?_) rfl rfl (fun w' hg => ?_) (fun K hK => ?_)
    rotate_left
    · (go_simp; rfl)
    go_simp
    refine hK _ _ ?_
    clear hK K
    refine wpL_two ?_ ?_
    · refine wpL_val rfl rfl (exec_alloc rfl allocR _ _) (g0.alloc _) (fun K hK => hK _ _ ?_)
      clear hK K
      refine wpL_val rfl rfl (exec_alloc rfl allocR _ _) ((g0.alloc _).alloc _) (fun K hK => hK _ _ ?_)
      clear hK K
      rw [World.size_alloc]
      have hl1 : ¬ W5.drew.heap.size < W5.heap.size := Nat.lt_irrefl _
      have hl2 : ¬ W5.drew.heap.size + 1 < W5.heap.size := fun h => by have h1 : W5.drew.heap.size = W5.heap.size := rfl; omega
      have hne : W5.drew.heap.size ≠ W5.drew.heap.size + 1 := by omega
      have B : Gr W5 ((W5.drew.alloc (.cells (zcR 27) 27)).alloc (.cells (zcR 27) 27)) ∧ Three ((W5.drew.alloc (.cells (zcR 27) 27)).alloc (.cells (zcR 27) 27)) W5.drew.heap.size (.bool false) (.slice none 0 0) (.slice none 0 0) ∧ Three ((W5.drew.alloc (.cells (zcR 27) 27)).alloc (.cells (zcR 27) 27)) (W5.drew.heap.size + 1) (.bool false) (.slice none 0 0) (.slice none 0 0) :=
        ⟨(g0.alloc _).alloc _, (box33 W5.drew (.bool false) (.slice none 0 0) (.slice none 0 0) (.bool false) (.slice none 0 0) (.slice none 0 0) 27 27).2⟩
      generalize (W5.drew.alloc _).alloc _ = v2 at B ⊢
      generalize W5.drew.heap.size + 1 = by_ at B hl2 hne ⊢
      generalize W5.drew.heap.size = bx at B hl1 hne ⊢
      simp only [ptr]
      obtain ⟨gb, tb1, tb2⟩ := B
      refine wpL_do rfl rfl (fun K hK => ?_)
      have d0 := tb1.load.1
      have d1 := tb1.load.2.1
      have d2 := tb1.load.2.2
      have d3 := tb1.f0 0
      have d4 := tb1.f0 1
      have d5 := tb1.f0 2
      go_simp
      refine ⟨gb.three hl1 (.bool sa) (.slice pa1 ka1 ca1) (.slice none 0 0), hK _ _ ?_⟩
      clear hK K d0 d1 d2 d3 d4 d5
      have gb := gb.three hl1 (.bool sa) (.slice pa1 ka1 ca1) (.slice none 0 0)
      have hu := upd3 v2 bx (.bool sa) (.slice pa1 ka1 ca1) (.slice none 0 0)
      have TY' := tb2.upd hu hne.symm
      have TX' := tb1.set (.bool sa) (.slice pa1 ka1 ca1) (.slice none 0 0)
      clear hu tb1 tb2
      generalize ((v2.setCell _ _).setCell _ _).setCell _ _ = v3 at gb TX' TY' ⊢
      refine wpL_do rfl rfl (fun K hK => ?_)
      have d0 := TY'.load.1
      have d1 := TY'.load.2.1
      have d2 := TY'.load.2.2
      have d3 := TY'.f0 0
      have d4 := TY'.f0 1
      have d5 := TY'.f0 2
      go_simp
      refine ⟨gb.three hl2 (.bool sb) (.slice pb1 kb1 cb1) (.slice none 0 0), hK _ _ ?_⟩
      clear hK K d0 d1 d2 d3 d4 d5
      have h13 := gb.three hl2 (.bool sb) (.slice pb1 kb1 cb1) (.slice none 0 0)
      have hu := upd3 v3 by_ (.bool sb) (.slice pb1 kb1 cb1) (.slice none 0 0)
      have TX' := TX'.upd hu hne
      have TY' := TY'.set (.bool sb) (.slice pb1 kb1 cb1) (.slice none 0 0)
      clear hu gb hl1 hl2 hne
      generalize ((v3.setCell _ _).setCell _ _).setCell _ _ = W6 at h13 TX' TY' ⊢
      refine wpL_stop ?_
      have TX := Lib.hid TX'
      have TY := Lib.hid TY'
      clear TX' TY' g0
      clear T0_0 T0_1 T0_2 TQ_0 TQ_1 TS_0 TS_1 TO_0 TO_1
      have G := Lib.hid (G.out.trans h13)
      have T0 := Lib.hid (T0.out.grow h13)
      have TQ := Lib.hid (TQ.out.grow h13)
      have TS := Lib.hid (TS.out.grow h13)
      have TO := Lib.hid (TO.out.grow h13)
      have HR0 := Lib.hid (HR0.out.grow h13)
      have HQ := Lib.hid (HQ.out.grow h13)
      have HS := Lib.hid (HS.out.grow h13)
      have H20 := Lib.hid (H20.out.grow h13)
      clear h13
      have HX := Lib.hid (RatC.ofInt HQ.out)
      have HY := Lib.hid (RatC.ofInt HS.out)
      have SX := Lib.hid (sz_int (z := lo) HLl.out (by decide))
      have SY := Lib.hid (sz_int (z := hi) HHl.out (by decide))
      by_cases hE : (lo : Rat) = x0
      · go_wp2_with fail
        refine wp_region_fast [(0, true), (1, false), (2, true), (3, true), (4, true), (5, false), (6, true), (7, true), (8, true), (9, true), (10, true), (11, false), (12, true), (13, true), (14, true), (15, true), (16, true), (17, false), (18, true), (19, true), (20, true), (21, true), (22, true), (23, true), (24, false), (25, true), (26, false), (27, true), (28, true), (29, true), (30, true), (31, true), (34, true), (32, false), (33, true), (35, false), (36, true), (37, true)] (by kernel_rfl) (by kernel_rfl) rfl (by kernel_rfl) (fun _ _ d _ _ h => by cases d <;> exact h) ?_
        have T0_0 := T0.out.c0
        have T0_1 := T0.out.c1
        have T0_2 := T0.out.c2
        have TQ_0 := TQ.out.c0
        have TQ_1 := TQ.out.c1
        have TS_0 := TS.out.c0
        have TS_1 := TS.out.c1
        have TO_0 := TO.out.c0
        have TO_1 := TO.out.c1
        have TX_0 := TX.out.c0
        have TX_1 := TX.out.c1
        have TX_2 := TX.out.c2
        have TY_0 := TY.out.c0
        have TY_1 := TY.out.c1
        have TY_2 := TY.out.c2
        have g0 : Gr W6 W6.drew := (Gr.refl _).drew
        have G := Lib.hid (G.out.trans g0)
        have T0 := Lib.hid (T0.out.grow g0)
        have TQ := Lib.hid (TQ.out.grow g0)
        have TS := Lib.hid (TS.out.grow g0)
        have TO := Lib.hid (TO.out.grow g0)
        have TX := Lib.hid (TX.out.grow g0)
        have TY := Lib.hid (TY.out.grow g0)
        have HR0 := Lib.hid (HR0.out.grow g0)
        have HQ := Lib.hid (HQ.out.grow g0)
        have HS := Lib.hid (HS.out.grow g0)
        have H20 := Lib.hid (H20.out.grow g0)
        have HX := Lib.hid (HX.out.grow g0)
        have HY := Lib.hid (HY.out.grow g0)
        repeat (refine wpE_readB (v := ?_) g0 rfl rfl (fun w' hg => ?_) (fun K hK => ?_); rotate_left; (go_simp; rfl); go_simp; refine hK _ _ ?_; clear hK K)
        refine wpE_fn (args := ?_) rfl rfl rfl rfl rfl rfl (by kernel_rfl) (by kernel_rfl) ?_ (fun K hK => ?_)
        rotate_left
        · go_simp; rfl
        refine (ref2_Valid _ _ _ (digs lo.natAbs) true (IntC.validC lo) HQ.out (Nat.le_trans HLl.out (by decide))).mono ?_
        rintro _ w31 ⟨_, rfl, g31, rfl⟩
        refine ⟨_, rfl, g31, ?_⟩
        go_simp
        refine hK _ _ ?_
        clear hK K
        have G := Lib.hid (G.out.trans g31)
        have T0 := Lib.hid (T0.out.grow g31)
        have TQ := Lib.hid (TQ.out.grow g31)
        have TS := Lib.hid (TS.out.grow g31)
        have TO := Lib.hid (TO.out.grow g31)
        have TX := Lib.hid (TX.out.grow g31)
        have TY := Lib.hid (TY.out.grow g31)
        have HR0 := Lib.hid (HR0.out.grow g31)
        have HQ := Lib.hid (HQ.out.grow g31)
        have HS := Lib.hid (HS.out.grow g31)
        have H20 := Lib.hid (H20.out.grow g31)
        have HX := Lib.hid (HX.out.grow g31)
        have HY := Lib.hid (HY.out.grow g31)
        replace g0 := g0.trans g31
        clear g31
        repeat (refine wpE_readB (v := ?_) g0 rfl rfl (fun w' hg => ?_) (fun K hK => ?_); rotate_left; (go_simp; rfl); go_simp; refine hK _ _ ?_; clear hK K)
        refine wpE_fn (args := ?_) rfl rfl rfl rfl rfl rfl (by kernel_rfl) (by kernel_rfl) ?_ (fun K hK => ?_)
        rotate_left
        · go_simp; rfl
        refine (ref2_Valid _ _ _ (digs hi.natAbs) true (IntC.validC hi) HS.out (Nat.le_trans HHl.out (by decide))).mono ?_
        rintro _ w32 ⟨_, rfl, g32, rfl⟩
        refine ⟨_, rfl, g32, ?_⟩
        go_simp
        refine hK _ _ ?_
        clear hK K
        have G := Lib.hid (G.out.trans g32)
        have T0 := Lib.hid (T0.out.grow g32)
        have TQ := Lib.hid (TQ.out.grow g32)
        have TS := Lib.hid (TS.out.grow g32)
        have TO := Lib.hid (TO.out.grow g32)
        have TX := Lib.hid (TX.out.grow g32)
        have TY := Lib.hid (TY.out.grow g32)
        have HR0 := Lib.hid (HR0.out.grow g32)
        have HQ := Lib.hid (HQ.out.grow g32)
        have HS := Lib.hid (HS.out.grow g32)
        have H20 := Lib.hid (H20.out.grow g32)
        have HX := Lib.hid (HX.out.grow g32)
        have HY := Lib.hid (HY.out.grow g32)
        replace g0 := g0.trans g32
        clear g32
        repeat (refine wpE_readB (v := ?_) g0 rfl rfl (fun w' hg => ?_) (fun K hK => ?_); rotate_left; (go_simp; rfl); go_simp; refine hK _ _ ?_; clear hK K)
        refine wpE_fn (args := ?_) rfl rfl rfl rfl rfl rfl (by kernel_rfl) (by kernel_rfl) ?_ (fun K hK => ?_)
        rotate_left
        · go_simp; rfl
        refine (s_Cmp _ _ _ (lo : Rat) x0 (0) 7 6 (HX.out.v SX.out) HR0.out ((HF.out.1 hE).1) (by decide) (by decide) (by decide) (by decide)).mono ?_
        rintro _ w33 ⟨_, rfl, g33, rfl⟩
        refine ⟨_, rfl, g33, ?_⟩
        go_simp
        refine hK _ _ ?_
        clear hK K
        have G := Lib.hid (G.out.trans g33)
        have T0 := Lib.hid (T0.out.grow g33)
        have TQ := Lib.hid (TQ.out.grow g33)
        have TS := Lib.hid (TS.out.grow g33)
        have TO := Lib.hid (TO.out.grow g33)
        have TX := Lib.hid (TX.out.grow g33)
        have TY := Lib.hid (TY.out.grow g33)
        have HR0 := Lib.hid (HR0.out.grow g33)
        have HQ := Lib.hid (HQ.out.grow g33)
        have HS := Lib.hid (HS.out.grow g33)
        have H20 := Lib.hid (H20.out.grow g33)
        have HX := Lib.hid (HX.out.grow g33)
        have HY := Lib.hid (HY.out.grow g33)
        replace g0 := g0.trans g33
        clear g33
        repeat (refine wpE_readB (v := ?_) g0 rfl rfl (fun w' hg => ?_) (fun K hK => ?_); rotate_left; (go_simp; rfl); go_simp; refine hK _ _ ?_; clear hK K)
        refine wpE_fn (args := ?_) rfl rfl rfl rfl rfl rfl (by kernel_rfl) (by kernel_rfl) ?_ (fun K hK => ?_)
        rotate_left
        · go_simp; rfl
        refine (s_Cmp _ _ _ x0 (hi : Rat) (0) 6 7 HR0.out (HY.out.v SY.out) ((HF.out.1 hE).2.1) (by decide) (by decide) (by decide) (by decide)).mono ?_
        rintro _ w34 ⟨_, rfl, g34, rfl⟩
        refine ⟨_, rfl, g34, ?_⟩
        go_simp
        refine hK _ _ ?_
        clear hK K
        have G := Lib.hid (G.out.trans g34)
        have T0 := Lib.hid (T0.out.grow g34)
        have TQ := Lib.hid (TQ.out.grow g34)
        have TS := Lib.hid (TS.out.grow g34)
        have TO := Lib.hid (TO.out.grow g34)
        have TX := Lib.hid (TX.out.grow g34)
        have TY := Lib.hid (TY.out.grow g34)
        have HR0 := Lib.hid (HR0.out.grow g34)
        have HQ := Lib.hid (HQ.out.grow g34)
        have HS := Lib.hid (HS.out.grow g34)
        have H20 := Lib.hid (H20.out.grow g34)
        have HX := Lib.hid (HX.out.grow g34)
        have HY := Lib.hid (HY.out.grow g34)
        replace g0 := g0.trans g34
        clear g34
        repeat (refine wpE_readB (v := ?_) g0 rfl rfl (fun w' hg => ?_) (fun K hK => ?_); rotate_left; (go_simp; rfl); go_simp; refine hK _ _ ?_; clear hK K)
        refine wpE_fn (args := ?_) rfl rfl rfl rfl rfl rfl (by kernel_rfl) (by kernel_rfl) ?_ (fun K hK => ?_)
        rotate_left
        · go_simp; rfl
        refine (e_Add _ _ _ lo 1 (lo + 1) 7 1 (HQ.out.v HLl.out) (H20.out.v (by decide +kernel)) rfl (by decide) (by decide)).mono ?_
        rintro _ w41 ⟨r41, rfl, g41, h41⟩
        refine ⟨_, rfl, g41, ?_⟩
        go_simp
        refine hK _ _ ?_
        clear hK K
        have G := Lib.hid (G.out.trans g41)
        have T0 := Lib.hid (T0.out.grow g41)
        have TQ := Lib.hid (TQ.out.grow g41)
        have TS := Lib.hid (TS.out.grow g41)
        have TO := Lib.hid (TO.out.grow g41)
        have TX := Lib.hid (TX.out.grow g41)
        have TY := Lib.hid (TY.out.grow g41)
        have HR0 := Lib.hid (HR0.out.grow g41)
        have HQ := Lib.hid (HQ.out.grow g41)
        have HS := Lib.hid (HS.out.grow g41)
        have H20 := Lib.hid (H20.out.grow g41)
        have HX := Lib.hid (HX.out.grow g41)
        have HY := Lib.hid (HY.out.grow g41)
        replace g0 := g0.trans g41
        clear g41
        have H41 := Lib.hid h41
        clear h41
        obtain ⟨pd, kd, cd, rfl⟩ := H41.out.1.agg
        have HU := Lib.hid (RatC.ofInt H41.out.1)
        have SU := Lib.hid (sz_int (z := lo + 1) H41.out.2.len (by decide))
        repeat (refine wpE_readB (v := ?_) g0 rfl rfl (fun w' hg => ?_) (fun K hK => ?_); rotate_left; (go_simp; rfl); go_simp; refine hK _ _ ?_; clear hK K)
        refine wpE_fn (args := ?_) rfl rfl rfl rfl rfl rfl (by kernel_rfl) (by kernel_rfl) ?_ (fun K hK => ?_)
        rotate_left
        · go_simp; rfl
        refine (s_Cmp _ _ _ x0 ((lo + 1 : Int) : Rat) (-1) 6 9 HR0.out (HU.out.v SU.out) ((HF.out.1 hE).2.2.1) (by decide) (by decide) (by decide) (by decide)).mono ?_
        rintro _ w42 ⟨_, rfl, g42, rfl⟩
        refine ⟨_, rfl, g42, ?_⟩
        go_simp
        refine hK _ _ ?_
        clear hK K
        have G := Lib.hid (G.out.trans g42)
        have T0 := Lib.hid (T0.out.grow g42)
        have TQ := Lib.hid (TQ.out.grow g42)
        have TS := Lib.hid (TS.out.grow g42)
        have TO := Lib.hid (TO.out.grow g42)
        have TX := Lib.hid (TX.out.grow g42)
        have TY := Lib.hid (TY.out.grow g42)
        have HR0 := Lib.hid (HR0.out.grow g42)
        have HQ := Lib.hid (HQ.out.grow g42)
        have HS := Lib.hid (HS.out.grow g42)
        have H20 := Lib.hid (H20.out.grow g42)
        have HX := Lib.hid (HX.out.grow g42)
        have HY := Lib.hid (HY.out.grow g42)
        have H41 := Lib.hid (H41.out.grow g42)
        have HU := Lib.hid (HU.out.grow g42)
        replace g0 := g0.trans g42
        clear g42
        repeat (refine wpE_readB (v := ?_) g0 rfl rfl (fun w' hg => ?_) (fun K hK => ?_); rotate_left; (go_simp; rfl); go_simp; refine hK _ _ ?_; clear hK K)
        refine wpE_fn (args := ?_) rfl rfl rfl rfl rfl rfl (by kernel_rfl) (by kernel_rfl) ?_ (fun K hK => ?_)
        rotate_left
        · go_simp; rfl
        refine (e_Sub _ _ _ hi 1 (hi - 1) 7 1 (HS.out.v HHl.out) (H20.out.v (by decide +kernel)) rfl (by decide) (by decide)).mono ?_
        rintro _ w51 ⟨r51, rfl, g51, h51⟩
        refine ⟨_, rfl, g51, ?_⟩
        go_simp
        refine hK _ _ ?_
        clear hK K
        have G := Lib.hid (G.out.trans g51)
        have T0 := Lib.hid (T0.out.grow g51)
        have TQ := Lib.hid (TQ.out.grow g51)
        have TS := Lib.hid (TS.out.grow g51)
        have TO := Lib.hid (TO.out.grow g51)
        have TX := Lib.hid (TX.out.grow g51)
        have TY := Lib.hid (TY.out.grow g51)
        have HR0 := Lib.hid (HR0.out.grow g51)
        have HQ := Lib.hid (HQ.out.grow g51)
        have HS := Lib.hid (HS.out.grow g51)
        have H20 := Lib.hid (H20.out.grow g51)
        have HX := Lib.hid (HX.out.grow g51)
        have HY := Lib.hid (HY.out.grow g51)
        have H41 := Lib.hid (H41.out.grow g51)
        have HU := Lib.hid (HU.out.grow g51)
        replace g0 := g0.trans g51
        clear g51
        have H51 := Lib.hid h51
        clear h51
        obtain ⟨pe, ke, ce, rfl⟩ := H51.out.1.agg
        have HV := Lib.hid (RatC.ofInt H51.out.1)
        have SV := Lib.hid (sz_int (z := hi - 1) H51.out.2.len (by decide))
        repeat (refine wpE_readB (v := ?_) g0 rfl rfl (fun w' hg => ?_) (fun K hK => ?_); rotate_left; (go_simp; rfl); go_simp; refine hK _ _ ?_; clear hK K)
        refine wpE_fn (args := ?_) rfl rfl rfl rfl rfl rfl (by kernel_rfl) (by kernel_rfl) ?_ (fun K hK => ?_)
        rotate_left
        · go_simp; rfl
        refine (s_Cmp _ _ _ ((hi - 1 : Int) : Rat) x0 (-1) 9 6 (HV.out.v SV.out) HR0.out ((HF.out.1 hE).2.2.2.1) (by decide) (by decide) (by decide) (by decide)).mono ?_
        rintro _ w52 ⟨_, rfl, g52, rfl⟩
        refine ⟨_, rfl, g52, ?_⟩
        go_simp
        refine hK _ _ ?_
        clear hK K
        have G := Lib.hid (G.out.trans g52)
        have T0 := Lib.hid (T0.out.grow g52)
        have TQ := Lib.hid (TQ.out.grow g52)
        have TS := Lib.hid (TS.out.grow g52)
        have TO := Lib.hid (TO.out.grow g52)
        have TX := Lib.hid (TX.out.grow g52)
        have TY := Lib.hid (TY.out.grow g52)
        have HR0 := Lib.hid (HR0.out.grow g52)
        have HQ := Lib.hid (HQ.out.grow g52)
        have HS := Lib.hid (HS.out.grow g52)
        have H20 := Lib.hid (H20.out.grow g52)
        have HX := Lib.hid (HX.out.grow g52)
        have HY := Lib.hid (HY.out.grow g52)
        have H41 := Lib.hid (H41.out.grow g52)
        have HU := Lib.hid (HU.out.grow g52)
        have H51 := Lib.hid (H51.out.grow g52)
        have HV := Lib.hid (HV.out.grow g52)
        replace g0 := g0.trans g52
        clear g52
        repeat (refine wpE_readB (v := ?_) g0 rfl rfl (fun w' hg => ?_) (fun K hK => ?_); rotate_left; (go_simp; rfl); go_simp; refine hK _ _ ?_; clear hK K)
        refine wpE_nil ?_
        clear g0
        clear T0_0 T0_1 T0_2 TQ_0 TQ_1 TS_0 TS_1 TO_0 TO_1 TX_0 TX_1 TX_2 TY_0 TY_1 TY_2
        go_wp2_with fail
        refine wp_region_fast [(0, true), (1, true), (3, true), (4, true), (2, false), (5, false), (6, true), (7, true), (8, true)] (by kernel_rfl) (by kernel_rfl) rfl (by kernel_rfl) (fun _ _ d _ _ h => by cases d <;> exact h) ?_
        have T0_0 := T0.out.c0
        have T0_1 := T0.out.c1
        have T0_2 := T0.out.c2
        have TQ_0 := TQ.out.c0
        have TQ_1 := TQ.out.c1
        have TS_0 := TS.out.c0
        have TS_1 := TS.out.c1
        have TO_0 := TO.out.c0
        have TO_1 := TO.out.c1
        have TX_0 := TX.out.c0
        have TX_1 := TX.out.c1
        have TX_2 := TX.out.c2
        have TY_0 := TY.out.c0
        have TY_1 := TY.out.c1
        have TY_2 := TY.out.c2
        have g0 : Gr w52 w52.drew := (Gr.refl _).drew
        have G := Lib.hid (G.out.trans g0)
        have T0 := Lib.hid (T0.out.grow g0)
        have TQ := Lib.hid (TQ.out.grow g0)
        have TS := Lib.hid (TS.out.grow g0)
        have TO := Lib.hid (TO.out.grow g0)
        have TX := Lib.hid (TX.out.grow g0)
        have TY := Lib.hid (TY.out.grow g0)
        have HR0 := Lib.hid (HR0.out.grow g0)
        have HQ := Lib.hid (HQ.out.grow g0)
        have HS := Lib.hid (HS.out.grow g0)
        have H20 := Lib.hid (H20.out.grow g0)
        have HX := Lib.hid (HX.out.grow g0)
        have HY := Lib.hid (HY.out.grow g0)
        have H41 := Lib.hid (H41.out.grow g0)
        have HU := Lib.hid (HU.out.grow g0)
        have H51 := Lib.hid (H51.out.grow g0)
        have HV := Lib.hid (HV.out.grow g0)
        repeat (refine wpE_readB (v := ?_) g0 rfl rfl (fun w' hg => ?_) (fun K hK => ?_); rotate_left; (go_simp; rfl); go_simp; refine hK _ _ ?_; clear hK K)
        refine wpE_fn (args := ?_) rfl rfl rfl rfl rfl rfl (by kernel_rfl) (by kernel_rfl) ?_ (fun K hK => ?_)
        rotate_left
        · go_simp; rfl
        refine (v_Same _ _ _ lo hi true HQ.out HS.out ((HF.out.1 hE).2.2.2.2)).mono ?_
        rintro _ w61 ⟨_, rfl, g61, rfl⟩
        refine ⟨_, rfl, g61, ?_⟩
        go_simp
        refine hK _ _ ?_
        clear hK K
        have G := Lib.hid (G.out.trans g61)
        have T0 := Lib.hid (T0.out.grow g61)
        have TQ := Lib.hid (TQ.out.grow g61)
        have TS := Lib.hid (TS.out.grow g61)
        have TO := Lib.hid (TO.out.grow g61)
        have TX := Lib.hid (TX.out.grow g61)
        have TY := Lib.hid (TY.out.grow g61)
        have HR0 := Lib.hid (HR0.out.grow g61)
        have HQ := Lib.hid (HQ.out.grow g61)
        have HS := Lib.hid (HS.out.grow g61)
        have H20 := Lib.hid (H20.out.grow g61)
        have HX := Lib.hid (HX.out.grow g61)
        have HY := Lib.hid (HY.out.grow g61)
        have H41 := Lib.hid (H41.out.grow g61)
        have HU := Lib.hid (HU.out.grow g61)
        have H51 := Lib.hid (H51.out.grow g61)
        have HV := Lib.hid (HV.out.grow g61)
        replace g0 := g0.trans g61
        clear g61
        repeat (refine wpE_readB (v := ?_) g0 rfl rfl (fun w' hg => ?_) (fun K hK => ?_); rotate_left; (go_simp; rfl); go_simp; refine hK _ _ ?_; clear hK K)
        refine wpE_fn (args := ?_) rfl rfl rfl rfl rfl rfl (by kernel_rfl) (by kernel_rfl) ?_ (fun K hK => ?_)
        rotate_left
        · go_simp; rfl
        refine (s_Cmp _ _ _ (lo : Rat) x0 (0) 7 6 (HX.out.v SX.out) HR0.out ((HF.out.1 hE).1) (by decide) (by decide) (by decide) (by decide)).mono ?_
        rintro _ w62 ⟨_, rfl, g62, rfl⟩
        refine ⟨_, rfl, g62, ?_⟩
        go_simp
        refine hK _ _ ?_
        clear hK K
        have G := Lib.hid (G.out.trans g62)
        have T0 := Lib.hid (T0.out.grow g62)
        have TQ := Lib.hid (TQ.out.grow g62)
        have TS := Lib.hid (TS.out.grow g62)
        have TO := Lib.hid (TO.out.grow g62)
        have TX := Lib.hid (TX.out.grow g62)
        have TY := Lib.hid (TY.out.grow g62)
        have HR0 := Lib.hid (HR0.out.grow g62)
        have HQ := Lib.hid (HQ.out.grow g62)
        have HS := Lib.hid (HS.out.grow g62)
        have H20 := Lib.hid (H20.out.grow g62)
        have HX := Lib.hid (HX.out.grow g62)
        have HY := Lib.hid (HY.out.grow g62)
        have H41 := Lib.hid (H41.out.grow g62)
        have HU := Lib.hid (HU.out.grow g62)
        have H51 := Lib.hid (H51.out.grow g62)
        have HV := Lib.hid (HV.out.grow g62)
        replace g0 := g0.trans g62
        clear g62
        repeat (refine wpE_readB (v := ?_) g0 rfl rfl (fun w' hg => ?_) (fun K hK => ?_); rotate_left; (go_simp; rfl); go_simp; refine hK _ _ ?_; clear hK K)
        refine wpE_nil ?_
        clear g0
        clear T0_0 T0_1 T0_2 TQ_0 TQ_1 TS_0 TS_1 TO_0 TO_1 TX_0 TX_1 TX_2 TY_0 TY_1 TY_2
        go_wp2_with fail
        go_ret
        exact ⟨_, rfl, G.out, rfl⟩
      · go_wp2_with fail
        refine wp_region_fast [(0, true), (1, false), (2, true), (3, true), (4, true), (5, false), (6, true), (7, true), (8, true), (9, true), (10, true), (11, false), (12, true), (13, true), (14, true), (15, true), (16, true), (17, false), (18, true), (19, true), (20, true), (21, true), (22, true), (23, true), (24, false), (25, true), (26, false), (27, true), (28, true), (29, true), (30, true), (31, true), (34, true), (32, false), (33, true), (35, false), (36, true), (37, true)] (by kernel_rfl) (by kernel_rfl) rfl (by kernel_rfl) (fun _ _ d _ _ h => by cases d <;> exact h) ?_
        have T0_0 := T0.out.c0
        have T0_1 := T0.out.c1
        have T0_2 := T0.out.c2
        have TQ_0 := TQ.out.c0
        have TQ_1 := TQ.out.c1
        have TS_0 := TS.out.c0
        have TS_1 := TS.out.c1
        have TO_0 := TO.out.c0
        have TO_1 := TO.out.c1
        have TX_0 := TX.out.c0
        have TX_1 := TX.out.c1
        have TX_2 := TX.out.c2
        have TY_0 := TY.out.c0
        have TY_1 := TY.out.c1
        have TY_2 := TY.out.c2
        have g0 : Gr W6 W6.drew := (Gr.refl _).drew
        have G := Lib.hid (G.out.trans g0)
        have T0 := Lib.hid (T0.out.grow g0)
        have TQ := Lib.hid (TQ.out.grow g0)
        have TS := Lib.hid (TS.out.grow g0)
        have TO := Lib.hid (TO.out.grow g0)
        have TX := Lib.hid (TX.out.grow g0)
        have TY := Lib.hid (TY.out.grow g0)
        have HR0 := Lib.hid (HR0.out.grow g0)
        have HQ := Lib.hid (HQ.out.grow g0)
        have HS := Lib.hid (HS.out.grow g0)
        have H20 := Lib.hid (H20.out.grow g0)
        have HX := Lib.hid (HX.out.grow g0)
        have HY := Lib.hid (HY.out.grow g0)
        repeat (refine wpE_readB (v := ?_) g0 rfl rfl (fun w' hg => ?_) (fun K hK => ?_); rotate_left; (go_simp; rfl); go_simp; refine hK _ _ ?_; clear hK K)
        refine wpE_fn (args := ?_) rfl rfl rfl rfl rfl rfl (by kernel_rfl) (by kernel_rfl) ?_ (fun K hK => ?_)
        rotate_left
        · go_simp; rfl
        refine (ref2_Valid _ _ _ (digs lo.natAbs) true (IntC.validC lo) HQ.out (Nat.le_trans HLl.out (by decide))).mono ?_
        rintro _ w31 ⟨_, rfl, g31, rfl⟩
        refine ⟨_, rfl, g31, ?_⟩
        go_simp
        refine hK _ _ ?_
        clear hK K
        have G := Lib.hid (G.out.trans g31)
        have T0 := Lib.hid (T0.out.grow g31)
        have TQ := Lib.hid (TQ.out.grow g31)
        have TS := Lib.hid (TS.out.grow g31)
        have TO := Lib.hid (TO.out.grow g31)
        have TX := Lib.hid (TX.out.grow g31)
        have TY := Lib.hid (TY.out.grow g31)
        have HR0 := Lib.hid (HR0.out.grow g31)
        have HQ := Lib.hid (HQ.out.grow g31)
        have HS := Lib.hid (HS.out.grow g31)
        have H20 := Lib.hid (H20.out.grow g31)
        have HX := Lib.hid (HX.out.grow g31)
        have HY := Lib.hid (HY.out.grow g31)
        replace g0 := g0.trans g31
        clear g31
        repeat (refine wpE_readB (v := ?_) g0 rfl rfl (fun w' hg => ?_) (fun K hK => ?_); rotate_left; (go_simp; rfl); go_simp; refine hK _ _ ?_; clear hK K)
        refine wpE_fn (args := ?_) rfl rfl rfl rfl rfl rfl (by kernel_rfl) (by kernel_rfl) ?_ (fun K hK => ?_)
        rotate_left
        · go_simp; rfl
        refine (ref2_Valid _ _ _ (digs hi.natAbs) true (IntC.validC hi) HS.out (Nat.le_trans HHl.out (by decide))).mono ?_
        rintro _ w32 ⟨_, rfl, g32, rfl⟩
        refine ⟨_, rfl, g32, ?_⟩
        go_simp
        refine hK _ _ ?_
        clear hK K
        have G := Lib.hid (G.out.trans g32)
        have T0 := Lib.hid (T0.out.grow g32)
        have TQ := Lib.hid (TQ.out.grow g32)
        have TS := Lib.hid (TS.out.grow g32)
        have TO := Lib.hid (TO.out.grow g32)
        have TX := Lib.hid (TX.out.grow g32)
        have TY := Lib.hid (TY.out.grow g32)
        have HR0 := Lib.hid (HR0.out.grow g32)
        have HQ := Lib.hid (HQ.out.grow g32)
        have HS := Lib.hid (HS.out.grow g32)
        have H20 := Lib.hid (H20.out.grow g32)
        have HX := Lib.hid (HX.out.grow g32)
        have HY := Lib.hid (HY.out.grow g32)
        replace g0 := g0.trans g32
        clear g32
        repeat (refine wpE_readB (v := ?_) g0 rfl rfl (fun w' hg => ?_) (fun K hK => ?_); rotate_left; (go_simp; rfl); go_simp; refine hK _ _ ?_; clear hK K)
        refine wpE_fn (args := ?_) rfl rfl rfl rfl rfl rfl (by kernel_rfl) (by kernel_rfl) ?_ (fun K hK => ?_)
        rotate_left
        · go_simp; rfl
        refine (s_Cmp _ _ _ (lo : Rat) x0 (-1) 7 6 (HX.out.v SX.out) HR0.out ((HF.out.2 hE).1) (by decide) (by decide) (by decide) (by decide)).mono ?_
        rintro _ w33 ⟨_, rfl, g33, rfl⟩
        refine ⟨_, rfl, g33, ?_⟩
        go_simp
        refine hK _ _ ?_
        clear hK K
        have G := Lib.hid (G.out.trans g33)
        have T0 := Lib.hid (T0.out.grow g33)
        have TQ := Lib.hid (TQ.out.grow g33)
        have TS := Lib.hid (TS.out.grow g33)
        have TO := Lib.hid (TO.out.grow g33)
        have TX := Lib.hid (TX.out.grow g33)
        have TY := Lib.hid (TY.out.grow g33)
        have HR0 := Lib.hid (HR0.out.grow g33)
        have HQ := Lib.hid (HQ.out.grow g33)
        have HS := Lib.hid (HS.out.grow g33)
        have H20 := Lib.hid (H20.out.grow g33)
        have HX := Lib.hid (HX.out.grow g33)
        have HY := Lib.hid (HY.out.grow g33)
        replace g0 := g0.trans g33
        clear g33
        repeat (refine wpE_readB (v := ?_) g0 rfl rfl (fun w' hg => ?_) (fun K hK => ?_); rotate_left; (go_simp; rfl); go_simp; refine hK _ _ ?_; clear hK K)
        refine wpE_fn (args := ?_) rfl rfl rfl rfl rfl rfl (by kernel_rfl) (by kernel_rfl) ?_ (fun K hK => ?_)
        rotate_left
        · go_simp; rfl
        refine (s_Cmp _ _ _ x0 (hi : Rat) (-1) 6 7 HR0.out (HY.out.v SY.out) ((HF.out.2 hE).2.1) (by decide) (by decide) (by decide) (by decide)).mono ?_
        rintro _ w34 ⟨_, rfl, g34, rfl⟩
        refine ⟨_, rfl, g34, ?_⟩
        go_simp
        refine hK _ _ ?_
        clear hK K
        have G := Lib.hid (G.out.trans g34)
        have T0 := Lib.hid (T0.out.grow g34)
        have TQ := Lib.hid (TQ.out.grow g34)
        have TS := Lib.hid (TS.out.grow g34)
        have TO := Lib.hid (TO.out.grow g34)
        have TX := Lib.hid (TX.out.grow g34)
        have TY := Lib.hid (TY.out.grow g34)
        have HR0 := Lib.hid (HR0.out.grow g34)
        have HQ := Lib.hid (HQ.out.grow g34)
        have HS := Lib.hid (HS.out.grow g34)
        have H20 := Lib.hid (H20.out.grow g34)
        have HX := Lib.hid (HX.out.grow g34)
        have HY := Lib.hid (HY.out.grow g34)
        replace g0 := g0.trans g34
        clear g34
        repeat (refine wpE_readB (v := ?_) g0 rfl rfl (fun w' hg => ?_) (fun K hK => ?_); rotate_left; (go_simp; rfl); go_simp; refine hK _ _ ?_; clear hK K)
        refine wpE_fn (args := ?_) rfl rfl rfl rfl rfl rfl (by kernel_rfl) (by kernel_rfl) ?_ (fun K hK => ?_)
        rotate_left
        · go_simp; rfl
        refine (e_Add _ _ _ lo 1 (lo + 1) 7 1 (HQ.out.v HLl.out) (H20.out.v (by decide +kernel)) rfl (by decide) (by decide)).mono ?_
        rintro _ w41 ⟨r41, rfl, g41, h41⟩
        refine ⟨_, rfl, g41, ?_⟩
        go_simp
        refine hK _ _ ?_
        clear hK K
        have G := Lib.hid (G.out.trans g41)
        have T0 := Lib.hid (T0.out.grow g41)
        have TQ := Lib.hid (TQ.out.grow g41)
        have TS := Lib.hid (TS.out.grow g41)
        have TO := Lib.hid (TO.out.grow g41)
        have TX := Lib.hid (TX.out.grow g41)
        have TY := Lib.hid (TY.out.grow g41)
        have HR0 := Lib.hid (HR0.out.grow g41)
        have HQ := Lib.hid (HQ.out.grow g41)
        have HS := Lib.hid (HS.out.grow g41)
        have H20 := Lib.hid (H20.out.grow g41)
        have HX := Lib.hid (HX.out.grow g41)
        have HY := Lib.hid (HY.out.grow g41)
        replace g0 := g0.trans g41
        clear g41
        have H41 := Lib.hid h41
        clear h41
        obtain ⟨pd, kd, cd, rfl⟩ := H41.out.1.agg
        have HU := Lib.hid (RatC.ofInt H41.out.1)
        have SU := Lib.hid (sz_int (z := lo + 1) H41.out.2.len (by decide))
        repeat (refine wpE_readB (v := ?_) g0 rfl rfl (fun w' hg => ?_) (fun K hK => ?_); rotate_left; (go_simp; rfl); go_simp; refine hK _ _ ?_; clear hK K)
        refine wpE_fn (args := ?_) rfl rfl rfl rfl rfl rfl (by kernel_rfl) (by kernel_rfl) ?_ (fun K hK => ?_)
        rotate_left
        · go_simp; rfl
        refine (s_Cmp _ _ _ x0 ((lo + 1 : Int) : Rat) (-1) 6 9 HR0.out (HU.out.v SU.out) ((HF.out.2 hE).2.2.1) (by decide) (by decide) (by decide) (by decide)).mono ?_
        rintro _ w42 ⟨_, rfl, g42, rfl⟩
        refine ⟨_, rfl, g42, ?_⟩
        go_simp
        refine hK _ _ ?_
        clear hK K
        have G := Lib.hid (G.out.trans g42)
        have T0 := Lib.hid (T0.out.grow g42)
        have TQ := Lib.hid (TQ.out.grow g42)
        have TS := Lib.hid (TS.out.grow g42)
        have TO := Lib.hid (TO.out.grow g42)
        have TX := Lib.hid (TX.out.grow g42)
        have TY := Lib.hid (TY.out.grow g42)
        have HR0 := Lib.hid (HR0.out.grow g42)
        have HQ := Lib.hid (HQ.out.grow g42)
        have HS := Lib.hid (HS.out.grow g42)
        have H20 := Lib.hid (H20.out.grow g42)
        have HX := Lib.hid (HX.out.grow g42)
        have HY := Lib.hid (HY.out.grow g42)
        have H41 := Lib.hid (H41.out.grow g42)
        have HU := Lib.hid (HU.out.grow g42)
        replace g0 := g0.trans g42
        clear g42
        repeat (refine wpE_readB (v := ?_) g0 rfl rfl (fun w' hg => ?_) (fun K hK => ?_); rotate_left; (go_simp; rfl); go_simp; refine hK _ _ ?_; clear hK K)
        refine wpE_fn (args := ?_) rfl rfl rfl rfl rfl rfl (by kernel_rfl) (by kernel_rfl) ?_ (fun K hK => ?_)
        rotate_left
        · go_simp; rfl
        refine (e_Sub _ _ _ hi 1 (hi - 1) 7 1 (HS.out.v HHl.out) (H20.out.v (by decide +kernel)) rfl (by decide) (by decide)).mono ?_
        rintro _ w51 ⟨r51, rfl, g51, h51⟩
        refine ⟨_, rfl, g51, ?_⟩
        go_simp
        refine hK _ _ ?_
        clear hK K
        have G := Lib.hid (G.out.trans g51)
        have T0 := Lib.hid (T0.out.grow g51)
        have TQ := Lib.hid (TQ.out.grow g51)
        have TS := Lib.hid (TS.out.grow g51)
        have TO := Lib.hid (TO.out.grow g51)
        have TX := Lib.hid (TX.out.grow g51)
        have TY := Lib.hid (TY.out.grow g51)
        have HR0 := Lib.hid (HR0.out.grow g51)
        have HQ := Lib.hid (HQ.out.grow g51)
        have HS := Lib.hid (HS.out.grow g51)
        have H20 := Lib.hid (H20.out.grow g51)
        have HX := Lib.hid (HX.out.grow g51)
        have HY := Lib.hid (HY.out.grow g51)
        have H41 := Lib.hid (H41.out.grow g51)
        have HU := Lib.hid (HU.out.grow g51)
        replace g0 := g0.trans g51
        clear g51
        have H51 := Lib.hid h51
        clear h51
        obtain ⟨pe, ke, ce, rfl⟩ := H51.out.1.agg
        have HV := Lib.hid (RatC.ofInt H51.out.1)
        have SV := Lib.hid (sz_int (z := hi - 1) H51.out.2.len (by decide))
        repeat (refine wpE_readB (v := ?_) g0 rfl rfl (fun w' hg => ?_) (fun K hK => ?_); rotate_left; (go_simp; rfl); go_simp; refine hK _ _ ?_; clear hK K)
        refine wpE_fn (args := ?_) rfl rfl rfl rfl rfl rfl (by kernel_rfl) (by kernel_rfl) ?_ (fun K hK => ?_)
        rotate_left
        · go_simp; rfl
        refine (s_Cmp _ _ _ ((hi - 1 : Int) : Rat) x0 (-1) 9 6 (HV.out.v SV.out) HR0.out ((HF.out.2 hE).2.2.2.1) (by decide) (by decide) (by decide) (by decide)).mono ?_
        rintro _ w52 ⟨_, rfl, g52, rfl⟩
        refine ⟨_, rfl, g52, ?_⟩
        go_simp
        refine hK _ _ ?_
        clear hK K
        have G := Lib.hid (G.out.trans g52)
        have T0 := Lib.hid (T0.out.grow g52)
        have TQ := Lib.hid (TQ.out.grow g52)
        have TS := Lib.hid (TS.out.grow g52)
        have TO := Lib.hid (TO.out.grow g52)
        have TX := Lib.hid (TX.out.grow g52)
        have TY := Lib.hid (TY.out.grow g52)
        have HR0 := Lib.hid (HR0.out.grow g52)
        have HQ := Lib.hid (HQ.out.grow g52)
        have HS := Lib.hid (HS.out.grow g52)
        have H20 := Lib.hid (H20.out.grow g52)
        have HX := Lib.hid (HX.out.grow g52)
        have HY := Lib.hid (HY.out.grow g52)
        have H41 := Lib.hid (H41.out.grow g52)
        have HU := Lib.hid (HU.out.grow g52)
        have H51 := Lib.hid (H51.out.grow g52)
        have HV := Lib.hid (HV.out.grow g52)
        replace g0 := g0.trans g52
        clear g52
        repeat (refine wpE_readB (v := ?_) g0 rfl rfl (fun w' hg => ?_) (fun K hK => ?_); rotate_left; (go_simp; rfl); go_simp; refine hK _ _ ?_; clear hK K)
        refine wpE_nil ?_
        clear g0
        clear T0_0 T0_1 T0_2 TQ_0 TQ_1 TS_0 TS_1 TO_0 TO_1 TX_0 TX_1 TX_2 TY_0 TY_1 TY_2
        go_wp2_with fail
        refine wp_region_fast [(0, true), (1, true), (3, true), (4, true), (2, false), (5, false), (6, true), (7, true), (8, true)] (by kernel_rfl) (by kernel_rfl) rfl (by kernel_rfl) (fun _ _ d _ _ h => by cases d <;> exact h) ?_
        have T0_0 := T0.out.c0
        have T0_1 := T0.out.c1
        have T0_2 := T0.out.c2
        have TQ_0 := TQ.out.c0
        have TQ_1 := TQ.out.c1
        have TS_0 := TS.out.c0
        have TS_1 := TS.out.c1
        have TO_0 := TO.out.c0
        have TO_1 := TO.out.c1
        have TX_0 := TX.out.c0
        have TX_1 := TX.out.c1
        have TX_2 := TX.out.c2
        have TY_0 := TY.out.c0
        have TY_1 := TY.out.c1
        have TY_2 := TY.out.c2
        have g0 : Gr w52 w52.drew := (Gr.refl _).drew
        have G := Lib.hid (G.out.trans g0)
        have T0 := Lib.hid (T0.out.grow g0)
        have TQ := Lib.hid (TQ.out.grow g0)
        have TS := Lib.hid (TS.out.grow g0)
        have TO := Lib.hid (TO.out.grow g0)
        have TX := Lib.hid (TX.out.grow g0)
        have TY := Lib.hid (TY.out.grow g0)
        have HR0 := Lib.hid (HR0.out.grow g0)
        have HQ := Lib.hid (HQ.out.grow g0)
        have HS := Lib.hid (HS.out.grow g0)
        have H20 := Lib.hid (H20.out.grow g0)
        have HX := Lib.hid (HX.out.grow g0)
        have HY := Lib.hid (HY.out.grow g0)
        have H41 := Lib.hid (H41.out.grow g0)
        have HU := Lib.hid (HU.out.grow g0)
        have H51 := Lib.hid (H51.out.grow g0)
        have HV := Lib.hid (HV.out.grow g0)
        repeat (refine wpE_readB (v := ?_) g0 rfl rfl (fun w' hg => ?_) (fun K hK => ?_); rotate_left; (go_simp; rfl); go_simp; refine hK _ _ ?_; clear hK K)
        refine wpE_fn (args := ?_) rfl rfl rfl rfl rfl rfl (by kernel_rfl) (by kernel_rfl) ?_ (fun K hK => ?_)
        rotate_left
        · go_simp; rfl
        refine (v_Same _ _ _ lo hi false HQ.out HS.out ((HF.out.2 hE).2.2.2.2)).mono ?_
        rintro _ w61 ⟨_, rfl, g61, rfl⟩
        refine ⟨_, rfl, g61, ?_⟩
        go_simp
        refine hK _ _ ?_
        clear hK K
        have G := Lib.hid (G.out.trans g61)
        have T0 := Lib.hid (T0.out.grow g61)
        have TQ := Lib.hid (TQ.out.grow g61)
        have TS := Lib.hid (TS.out.grow g61)
        have TO := Lib.hid (TO.out.grow g61)
        have TX := Lib.hid (TX.out.grow g61)
        have TY := Lib.hid (TY.out.grow g61)
        have HR0 := Lib.hid (HR0.out.grow g61)
        have HQ := Lib.hid (HQ.out.grow g61)
        have HS := Lib.hid (HS.out.grow g61)
        have H20 := Lib.hid (H20.out.grow g61)
        have HX := Lib.hid (HX.out.grow g61)
        have HY := Lib.hid (HY.out.grow g61)
        have H41 := Lib.hid (H41.out.grow g61)
        have HU := Lib.hid (HU.out.grow g61)
        have H51 := Lib.hid (H51.out.grow g61)
        have HV := Lib.hid (HV.out.grow g61)
        replace g0 := g0.trans g61
        clear g61
        repeat (refine wpE_readB (v := ?_) g0 rfl rfl (fun w' hg => ?_) (fun K hK => ?_); rotate_left; (go_simp; rfl); go_simp; refine hK _ _ ?_; clear hK K)
        refine wpE_fn (args := ?_) rfl rfl rfl rfl rfl rfl (by kernel_rfl) (by kernel_rfl) ?_ (fun K hK => ?_)
        rotate_left
        · go_simp; rfl
        refine (s_Cmp _ _ _ (lo : Rat) x0 (-1) 7 6 (HX.out.v SX.out) HR0.out ((HF.out.2 hE).1) (by decide) (by decide) (by decide) (by decide)).mono ?_
        rintro _ w62 ⟨_, rfl, g62, rfl⟩
        refine ⟨_, rfl, g62, ?_⟩
        go_simp
        refine hK _ _ ?_
        clear hK K
        have G := Lib.hid (G.out.trans g62)
        have T0 := Lib.hid (T0.out.grow g62)
        have TQ := Lib.hid (TQ.out.grow g62)
        have TS := Lib.hid (TS.out.grow g62)
        have TO := Lib.hid (TO.out.grow g62)
        have TX := Lib.hid (TX.out.grow g62)
        have TY := Lib.hid (TY.out.grow g62)
        have HR0 := Lib.hid (HR0.out.grow g62)
        have HQ := Lib.hid (HQ.out.grow g62)
        have HS := Lib.hid (HS.out.grow g62)
        have H20 := Lib.hid (H20.out.grow g62)
        have HX := Lib.hid (HX.out.grow g62)
        have HY := Lib.hid (HY.out.grow g62)
        have H41 := Lib.hid (H41.out.grow g62)
        have HU := Lib.hid (HU.out.grow g62)
        have H51 := Lib.hid (H51.out.grow g62)
        have HV := Lib.hid (HV.out.grow g62)
        replace g0 := g0.trans g62
        clear g62
        repeat (refine wpE_readB (v := ?_) g0 rfl rfl (fun w' hg => ?_) (fun K hK => ?_); rotate_left; (go_simp; rfl); go_simp; refine hK _ _ ?_; clear hK K)
        refine wpE_nil ?_
        clear g0
        clear T0_0 T0_1 T0_2 TQ_0 TQ_1 TS_0 TS_1 TO_0 TO_1 TX_0 TX_1 TX_2 TY_0 TY_1 TY_2
        go_wp2_with fail
        go_ret
        exact ⟨_, rfl, G.out, rfl⟩
    · refine wpL_val rfl rfl (exec_alloc rfl allocR _ _) (g0.alloc _) (fun K hK => hK _ _ ?_)
      clear hK K
      refine wpL_val rfl rfl (exec_alloc rfl allocR _ _) ((g0.alloc _).alloc _) (fun K hK => hK _ _ ?_)
      clear hK K
      rw [World.size_alloc]
      have hl1 : ¬ W5.drew.heap.size < W5.heap.size := Nat.lt_irrefl _
      have hl2 : ¬ W5.drew.heap.size + 1 < W5.heap.size := fun h => by have h1 : W5.drew.heap.size = W5.heap.size := rfl; omega
      have hne : W5.drew.heap.size ≠ W5.drew.heap.size + 1 := by omega
      have B : Gr W5 ((W5.drew.alloc (.cells (zcR 27) 27)).alloc (.cells (zcR 27) 27)) ∧ Three ((W5.drew.alloc (.cells (zcR 27) 27)).alloc (.cells (zcR 27) 27)) W5.drew.heap.size (.bool false) (.slice none 0 0) (.slice none 0 0) ∧ Three ((W5.drew.alloc (.cells (zcR 27) 27)).alloc (.cells (zcR 27) 27)) (W5.drew.heap.size + 1) (.bool false) (.slice none 0 0) (.slice none 0 0) :=
        ⟨(g0.alloc _).alloc _, (box33 W5.drew (.bool false) (.slice none 0 0) (.slice none 0 0) (.bool false) (.slice none 0 0) (.slice none 0 0) 27 27).2⟩
      generalize (W5.drew.alloc _).alloc _ = v2 at B ⊢
      generalize W5.drew.heap.size + 1 = bx at B hl2 hne ⊢
      generalize W5.drew.heap.size = by_ at B hl1 hne ⊢
      simp only [ptr]
      obtain ⟨gb, tb1, tb2⟩ := B
      refine wpL_do rfl rfl (fun K hK => ?_)
      have d0 := tb2.load.1
      have d1 := tb2.load.2.1
      have d2 := tb2.load.2.2
      have d3 := tb2.f0 0
      have d4 := tb2.f0 1
      have d5 := tb2.f0 2
      go_simp
      refine ⟨gb.three hl2 (.bool sa) (.slice pa1 ka1 ca1) (.slice none 0 0), hK _ _ ?_⟩
      clear hK K d0 d1 d2 d3 d4 d5
      have gb := gb.three hl2 (.bool sa) (.slice pa1 ka1 ca1) (.slice none 0 0)
      have hu := upd3 v2 bx (.bool sa) (.slice pa1 ka1 ca1) (.slice none 0 0)
      have TY' := tb1.upd hu hne
      have TX' := tb2.set (.bool sa) (.slice pa1 ka1 ca1) (.slice none 0 0)
      clear hu tb1 tb2
      generalize ((v2.setCell _ _).setCell _ _).setCell _ _ = v3 at gb TX' TY' ⊢
      refine wpL_do rfl rfl (fun K hK => ?_)
      have d0 := TY'.load.1
      have d1 := TY'.load.2.1
      have d2 := TY'.load.2.2
      have d3 := TY'.f0 0
      have d4 := TY'.f0 1
      have d5 := TY'.f0 2
      go_simp
      refine ⟨gb.three hl1 (.bool sb) (.slice pb1 kb1 cb1) (.slice none 0 0), hK _ _ ?_⟩
      clear hK K d0 d1 d2 d3 d4 d5
      have h13 := gb.three hl1 (.bool sb) (.slice pb1 kb1 cb1) (.slice none 0 0)
      have hu := upd3 v3 by_ (.bool sb) (.slice pb1 kb1 cb1) (.slice none 0 0)
      have TX' := TX'.upd hu hne.symm
      have TY' := TY'.set (.bool sb) (.slice pb1 kb1 cb1) (.slice none 0 0)
      clear hu gb hl1 hl2 hne
      generalize ((v3.setCell _ _).setCell _ _).setCell _ _ = W6 at h13 TX' TY' ⊢
      refine wpL_stop ?_
      have TX := Lib.hid TX'
      have TY := Lib.hid TY'
      clear TX' TY' g0
      clear T0_0 T0_1 T0_2 TQ_0 TQ_1 TS_0 TS_1 TO_0 TO_1
      have G := Lib.hid (G.out.trans h13)
      have T0 := Lib.hid (T0.out.grow h13)
      have TQ := Lib.hid (TQ.out.grow h13)
      have TS := Lib.hid (TS.out.grow h13)
      have TO := Lib.hid (TO.out.grow h13)
      have HR0 := Lib.hid (HR0.out.grow h13)
      have HQ := Lib.hid (HQ.out.grow h13)
      have HS := Lib.hid (HS.out.grow h13)
      have H20 := Lib.hid (H20.out.grow h13)
      clear h13
      have HX := Lib.hid (RatC.ofInt HQ.out)
      have HY := Lib.hid (RatC.ofInt HS.out)
      have SX := Lib.hid (sz_int (z := lo) HLl.out (by decide))
      have SY := Lib.hid (sz_int (z := hi) HHl.out (by decide))
      by_cases hE : (lo : Rat) = x0
      · go_wp2_with fail
        refine wp_region_fast [(0, true), (1, false), (2, true), (3, true), (4, true), (5, false), (6, true), (7, true), (8, true), (9, true), (10, true), (11, false), (12, true), (13, true), (14, true), (15, true), (16, true), (17, false), (18, true), (19, true), (20, true), (21, true), (22, true), (23, true), (24, false), (25, true), (26, false), (27, true), (28, true), (29, true), (30, true), (31, true), (34, true), (32, false), (33, true), (35, false), (36, true), (37, true)] (by kernel_rfl) (by kernel_rfl) rfl (by kernel_rfl) (fun _ _ d _ _ h => by cases d <;> exact h) ?_
        have T0_0 := T0.out.c0
        have T0_1 := T0.out.c1
        have T0_2 := T0.out.c2
        have TQ_0 := TQ.out.c0
        have TQ_1 := TQ.out.c1
        have TS_0 := TS.out.c0
        have TS_1 := TS.out.c1
        have TO_0 := TO.out.c0
        have TO_1 := TO.out.c1
        have TX_0 := TX.out.c0
        have TX_1 := TX.out.c1
        have TX_2 := TX.out.c2
        have TY_0 := TY.out.c0
        have TY_1 := TY.out.c1
        have TY_2 := TY.out.c2
        have g0 : Gr W6 W6.drew := (Gr.refl _).drew
        have G := Lib.hid (G.out.trans g0)
        have T0 := Lib.hid (T0.out.grow g0)
        have TQ := Lib.hid (TQ.out.grow g0)
        have TS := Lib.hid (TS.out.grow g0)
        have TO := Lib.hid (TO.out.grow g0)
        have TX := Lib.hid (TX.out.grow g0)
        have TY := Lib.hid (TY.out.grow g0)
        have HR0 := Lib.hid (HR0.out.grow g0)
        have HQ := Lib.hid (HQ.out.grow g0)
        have HS := Lib.hid (HS.out.grow g0)
        have H20 := Lib.hid (H20.out.grow g0)
        have HX := Lib.hid (HX.out.grow g0)
        have HY := Lib.hid (HY.out.grow g0)
        repeat (refine wpE_readB (v := ?_) g0 rfl rfl (fun w' hg => ?_) (fun K hK => ?_); rotate_left; (go_simp; rfl); go_simp; refine hK _ _ ?_; clear hK K)
        refine wpE_fn (args := ?_) rfl rfl rfl rfl rfl rfl (by kernel_rfl) (by kernel_rfl) ?_ (fun K hK => ?_)
        rotate_left
        · go_simp; rfl
        refine (ref2_Valid _ _ _ (digs lo.natAbs) true (IntC.validC lo) HQ.out (Nat.le_trans HLl.out (by decide))).mono ?_
        rintro _ w31 ⟨_, rfl, g31, rfl⟩
        refine ⟨_, rfl, g31, ?_⟩
        go_simp
        refine hK _ _ ?_
        clear hK K
        have G := Lib.hid (G.out.trans g31)
        have T0 := Lib.hid (T0.out.grow g31)
        have TQ := Lib.hid (TQ.out.grow g31)
        have TS := Lib.hid (TS.out.grow g31)
        have TO := Lib.hid (TO.out.grow g31)
        have TX := Lib.hid (TX.out.grow g31)
        have TY := Lib.hid (TY.out.grow g31)
        have HR0 := Lib.hid (HR0.out.grow g31)
        have HQ := Lib.hid (HQ.out.grow g31)
        have HS := Lib.hid (HS.out.grow g31)
        have H20 := Lib.hid (H20.out.grow g31)
        have HX := Lib.hid (HX.out.grow g31)
        have HY := Lib.hid (HY.out.grow g31)
        replace g0 := g0.trans g31
        clear g31
        repeat (refine wpE_readB (v := ?_) g0 rfl rfl (fun w' hg => ?_) (fun K hK => ?_); rotate_left; (go_simp; rfl); go_simp; refine hK _ _ ?_; clear hK K)
        refine wpE_fn (args := ?_) rfl rfl rfl rfl rfl rfl (by kernel_rfl) (by kernel_rfl) ?_ (fun K hK => ?_)
        rotate_left
        · go_simp; rfl
        refine (ref2_Valid _ _ _ (digs hi.natAbs) true (IntC.validC hi) HS.out (Nat.le_trans HHl.out (by decide))).mono ?_
        rintro _ w32 ⟨_, rfl, g32, rfl⟩
        refine ⟨_, rfl, g32, ?_⟩
        go_simp
        refine hK _ _ ?_
        clear hK K
        have G := Lib.hid (G.out.trans g32)
        have T0 := Lib.hid (T0.out.grow g32)
        have TQ := Lib.hid (TQ.out.grow g32)
        have TS := Lib.hid (TS.out.grow g32)
        have TO := Lib.hid (TO.out.grow g32)
        have TX := Lib.hid (TX.out.grow g32)
        have TY := Lib.hid (TY.out.grow g32)
        have HR0 := Lib.hid (HR0.out.grow g32)
        have HQ := Lib.hid (HQ.out.grow g32)
        have HS := Lib.hid (HS.out.grow g32)
        have H20 := Lib.hid (H20.out.grow g32)
        have HX := Lib.hid (HX.out.grow g32)
        have HY := Lib.hid (HY.out.grow g32)
        replace g0 := g0.trans g32
        clear g32
        repeat (refine wpE_readB (v := ?_) g0 rfl rfl (fun w' hg => ?_) (fun K hK => ?_); rotate_left; (go_simp; rfl); go_simp; refine hK _ _ ?_; clear hK K)
        refine wpE_fn (args := ?_) rfl rfl rfl rfl rfl rfl (by kernel_rfl) (by kernel_rfl) ?_ (fun K hK => ?_)
        rotate_left
        · go_simp; rfl
        refine (s_Cmp _ _ _ (lo : Rat) x0 (0) 7 6 (HX.out.v SX.out) HR0.out ((HF.out.1 hE).1) (by decide) (by decide) (by decide) (by decide)).mono ?_
        rintro _ w33 ⟨_, rfl, g33, rfl⟩
        refine ⟨_, rfl, g33, ?_⟩
        go_simp
        refine hK _ _ ?_
        clear hK K
        have G := Lib.hid (G.out.trans g33)
        have T0 := Lib.hid (T0.out.grow g33)
        have TQ := Lib.hid (TQ.out.grow g33)
        have TS := Lib.hid (TS.out.grow g33)
        have TO := Lib.hid (TO.out.grow g33)
        have TX := Lib.hid (TX.out.grow g33)
        have TY := Lib.hid (TY.out.grow g33)
        have HR0 := Lib.hid (HR0.out.grow g33)
        have HQ := Lib.hid (HQ.out.grow g33)
        have HS := Lib.hid (HS.out.grow g33)
        have H20 := Lib.hid (H20.out.grow g33)
        have HX := Lib.hid (HX.out.grow g33)
        have HY := Lib.hid (HY.out.grow g33)
        replace g0 := g0.trans g33
        clear g33
        repeat (refine wpE_readB (v := ?_) g0 rfl rfl (fun w' hg => ?_) (fun K hK => ?_); rotate_left; (go_simp; rfl); go_simp; refine hK _ _ ?_; clear hK K)
        refine wpE_fn (args := ?_) rfl rfl rfl rfl rfl rfl (by kernel_rfl) (by kernel_rfl) ?_ (fun K hK => ?_)
        rotate_left
        · go_simp; rfl
        refine (s_Cmp _ _ _ x0 (hi : Rat) (0) 6 7 HR0.out (HY.out.v SY.out) ((HF.out.1 hE).2.1) (by decide) (by decide) (by decide) (by decide)).mono ?_
        rintro _ w34 ⟨_, rfl, g34, rfl⟩
        refine ⟨_, rfl, g34, ?_⟩
        go_simp
        refine hK _ _ ?_
        clear hK K
        have G := Lib.hid (G.out.trans g34)
        have T0 := Lib.hid (T0.out.grow g34)
        have TQ := Lib.hid (TQ.out.grow g34)
        have TS := Lib.hid (TS.out.grow g34)
        have TO := Lib.hid (TO.out.grow g34)
        have TX := Lib.hid (TX.out.grow g34)
        have TY := Lib.hid (TY.out.grow g34)
        have HR0 := Lib.hid (HR0.out.grow g34)
        have HQ := Lib.hid (HQ.out.grow g34)
        have HS := Lib.hid (HS.out.grow g34)
        have H20 := Lib.hid (H20.out.grow g34)
        have HX := Lib.hid (HX.out.grow g34)
        have HY := Lib.hid (HY.out.grow g34)
        replace g0 := g0.trans g34
        clear g34
        repeat (refine wpE_readB (v := ?_) g0 rfl rfl (fun w' hg => ?_) (fun K hK => ?_); rotate_left; (go_simp; rfl); go_simp; refine hK _ _ ?_; clear hK K)
        refine wpE_fn (args := ?_) rfl rfl rfl rfl rfl rfl (by kernel_rfl) (by kernel_rfl) ?_ (fun K hK => ?_)
        rotate_left
        · go_simp; rfl
        refine (e_Add _ _ _ lo 1 (lo + 1) 7 1 (HQ.out.v HLl.out) (H20.out.v (by decide +kernel)) rfl (by decide) (by decide)).mono ?_
        rintro _ w41 ⟨r41, rfl, g41, h41⟩
        refine ⟨_, rfl, g41, ?_⟩
        go_simp
        refine hK _ _ ?_
        clear hK K
        have G := Lib.hid (G.out.trans g41)
        have T0 := Lib.hid (T0.out.grow g41)
        have TQ := Lib.hid (TQ.out.grow g41)
        have TS := Lib.hid (TS.out.grow g41)
        have TO := Lib.hid (TO.out.grow g41)
        have TX := Lib.hid (TX.out.grow g41)
        have TY := Lib.hid (TY.out.grow g41)
        have HR0 := Lib.hid (HR0.out.grow g41)
        have HQ := Lib.hid (HQ.out.grow g41)
        have HS := Lib.hid (HS.out.grow g41)
        have H20 := Lib.hid (H20.out.grow g41)
        have HX := Lib.hid (HX.out.grow g41)
        have HY := Lib.hid (HY.out.grow g41)
        replace g0 := g0.trans g41
        clear g41
        have H41 := Lib.hid h41
        clear h41
        obtain ⟨pd, kd, cd, rfl⟩ := H41.out.1.agg
        have HU := Lib.hid (RatC.ofInt H41.out.1)
        have SU := Lib.hid (sz_int (z := lo + 1) H41.out.2.len (by decide))
        repeat (refine wpE_readB (v := ?_) g0 rfl rfl (fun w' hg => ?_) (fun K hK => ?_); rotate_left; (go_simp; rfl); go_simp; refine hK _ _ ?_; clear hK K)
        refine wpE_fn (args := ?_) rfl rfl rfl rfl rfl rfl (by kernel_rfl) (by kernel_rfl) ?_ (fun K hK => ?_)
        rotate_left
        · go_simp; rfl
        refine (s_Cmp _ _ _ x0 ((lo + 1 : Int) : Rat) (-1) 6 9 HR0.out (HU.out.v SU.out) ((HF.out.1 hE).2.2.1) (by decide) (by decide) (by decide) (by decide)).mono ?_
        rintro _ w42 ⟨_, rfl, g42, rfl⟩
        refine ⟨_, rfl, g42, ?_⟩
        go_simp
        refine hK _ _ ?_
        clear hK K
        have G := Lib.hid (G.out.trans g42)
        have T0 := Lib.hid (T0.out.grow g42)
        have TQ := Lib.hid (TQ.out.grow g42)
        have TS := Lib.hid (TS.out.grow g42)
        have TO := Lib.hid (TO.out.grow g42)
        have TX := Lib.hid (TX.out.grow g42)
        have TY := Lib.hid (TY.out.grow g42)
        have HR0 := Lib.hid (HR0.out.grow g42)
        have HQ := Lib.hid (HQ.out.grow g42)
        have HS := Lib.hid (HS.out.grow g42)
        have H20 := Lib.hid (H20.out.grow g42)
        have HX := Lib.hid (HX.out.grow g42)
        have HY := Lib.hid (HY.out.grow g42)
        have H41 := Lib.hid (H41.out.grow g42)
        have HU := Lib.hid (HU.out.grow g42)
        replace g0 := g0.trans g42
        clear g42
        repeat (refine wpE_readB (v := ?_) g0 rfl rfl (fun w' hg => ?_) (fun K hK => ?_); rotate_left; (go_simp; rfl); go_simp; refine hK _ _ ?_; clear hK K)
        refine wpE_fn (args := ?_) rfl rfl rfl rfl rfl rfl (by kernel_rfl) (by kernel_rfl) ?_ (fun K hK => ?_)
        rotate_left
        · go_simp; rfl
        refine (e_Sub _ _ _ hi 1 (hi - 1) 7 1 (HS.out.v HHl.out) (H20.out.v (by decide +kernel)) rfl (by decide) (by decide)).mono ?_
        rintro _ w51 ⟨r51, rfl, g51, h51⟩
        refine ⟨_, rfl, g51, ?_⟩
        go_simp
        refine hK _ _ ?_
        clear hK K
        have G := Lib.hid (G.out.trans g51)
        have T0 := Lib.hid (T0.out.grow g51)
        have TQ := Lib.hid (TQ.out.grow g51)
        have TS := Lib.hid (TS.out.grow g51)
        have TO := Lib.hid (TO.out.grow g51)
        have TX := Lib.hid (TX.out.grow g51)
        have TY := Lib.hid (TY.out.grow g51)
        have HR0 := Lib.hid (HR0.out.grow g51)
        have HQ := Lib.hid (HQ.out.grow g51)
        have HS := Lib.hid (HS.out.grow g51)
        have H20 := Lib.hid (H20.out.grow g51)
        have HX := Lib.hid (HX.out.grow g51)
        have HY := Lib.hid (HY.out.grow g51)
        have H41 := Lib.hid (H41.out.grow g51)
        have HU := Lib.hid (HU.out.grow g51)
        replace g0 := g0.trans g51
        clear g51
        have H51 := Lib.hid h51
        clear h51
        obtain ⟨pe, ke, ce, rfl⟩ := H51.out.1.agg
        have HV := Lib.hid (RatC.ofInt H51.out.1)
        have SV := Lib.hid (sz_int (z := hi - 1) H51.out.2.len (by decide))
        repeat (refine wpE_readB (v := ?_) g0 rfl rfl (fun w' hg => ?_) (fun K hK => ?_); rotate_left; (go_simp; rfl); go_simp; refine hK _ _ ?_; clear hK K)
        refine wpE_fn (args := ?_) rfl rfl rfl rfl rfl rfl (by kernel_rfl) (by kernel_rfl) ?_ (fun K hK => ?_)
        rotate_left
        · go_simp; rfl
        refine (s_Cmp _ _ _ ((hi - 1 : Int) : Rat) x0 (-1) 9 6 (HV.out.v SV.out) HR0.out ((HF.out.1 hE).2.2.2.1) (by decide) (by decide) (by decide) (by decide)).mono ?_
        rintro _ w52 ⟨_, rfl, g52, rfl⟩
        refine ⟨_, rfl, g52, ?_⟩
        go_simp
        refine hK _ _ ?_
        clear hK K
        have G := Lib.hid (G.out.trans g52)
        have T0 := Lib.hid (T0.out.grow g52)
        have TQ := Lib.hid (TQ.out.grow g52)
        have TS := Lib.hid (TS.out.grow g52)
        have TO := Lib.hid (TO.out.grow g52)
        have TX := Lib.hid (TX.out.grow g52)
        have TY := Lib.hid (TY.out.grow g52)
        have HR0 := Lib.hid (HR0.out.grow g52)
        have HQ := Lib.hid (HQ.out.grow g52)
        have HS := Lib.hid (HS.out.grow g52)
        have H20 := Lib.hid (H20.out.grow g52)
        have HX := Lib.hid (HX.out.grow g52)
        have HY := Lib.hid (HY.out.grow g52)
        have H41 := Lib.hid (H41.out.grow g52)
        have HU := Lib.hid (HU.out.grow g52)
        have H51 := Lib.hid (H51.out.grow g52)
        have HV := Lib.hid (HV.out.grow g52)
        replace g0 := g0.trans g52
        clear g52
        repeat (refine wpE_readB (v := ?_) g0 rfl rfl (fun w' hg => ?_) (fun K hK => ?_); rotate_left; (go_simp; rfl); go_simp; refine hK _ _ ?_; clear hK K)
        refine wpE_nil ?_
        clear g0
        clear T0_0 T0_1 T0_2 TQ_0 TQ_1 TS_0 TS_1 TO_0 TO_1 TX_0 TX_1 TX_2 TY_0 TY_1 TY_2
        go_wp2_with fail
        refine wp_region_fast [(0, true), (1, true), (3, true), (4, true), (2, false), (5, false), (6, true), (7, true), (8, true)] (by kernel_rfl) (by kernel_rfl) rfl (by kernel_rfl) (fun _ _ d _ _ h => by cases d <;> exact h) ?_
        have T0_0 := T0.out.c0
        have T0_1 := T0.out.c1
        have T0_2 := T0.out.c2
        have TQ_0 := TQ.out.c0
        have TQ_1 := TQ.out.c1
        have TS_0 := TS.out.c0
        have TS_1 := TS.out.c1
        have TO_0 := TO.out.c0
        have TO_1 := TO.out.c1
        have TX_0 := TX.out.c0
        have TX_1 := TX.out.c1
        have TX_2 := TX.out.c2
        have TY_0 := TY.out.c0
        have TY_1 := TY.out.c1
        have TY_2 := TY.out.c2
        have g0 : Gr w52 w52.drew := (Gr.refl _).drew
        have G := Lib.hid (G.out.trans g0)
        have T0 := Lib.hid (T0.out.grow g0)
        have TQ := Lib.hid (TQ.out.grow g0)
        have TS := Lib.hid (TS.out.grow g0)
        have TO := Lib.hid (TO.out.grow g0)
        have TX := Lib.hid (TX.out.grow g0)
        have TY := Lib.hid (TY.out.grow g0)
        have HR0 := Lib.hid (HR0.out.grow g0)
        have HQ := Lib.hid (HQ.out.grow g0)
        have HS := Lib.hid (HS.out.grow g0)
        have H20 := Lib.hid (H20.out.grow g0)
        have HX := Lib.hid (HX.out.grow g0)
        have HY := Lib.hid (HY.out.grow g0)
        have H41 := Lib.hid (H41.out.grow g0)
        have HU := Lib.hid (HU.out.grow g0)
        have H51 := Lib.hid (H51.out.grow g0)
        have HV := Lib.hid (HV.out.grow g0)
        repeat (refine wpE_readB (v := ?_) g0 rfl rfl (fun w' hg => ?_) (fun K hK => ?_); rotate_left; (go_simp; rfl); go_simp; refine hK _ _ ?_; clear hK K)
        refine wpE_fn (args := ?_) rfl rfl rfl rfl rfl rfl (by kernel_rfl) (by kernel_rfl) ?_ (fun K hK => ?_)
        rotate_left
        · go_simp; rfl
        refine (v_Same _ _ _ lo hi true HQ.out HS.out ((HF.out.1 hE).2.2.2.2)).mono ?_
        rintro _ w61 ⟨_, rfl, g61, rfl⟩
        refine ⟨_, rfl, g61, ?_⟩
        go_simp
        refine hK _ _ ?_
        clear hK K
        have G := Lib.hid (G.out.trans g61)
        have T0 := Lib.hid (T0.out.grow g61)
        have TQ := Lib.hid (TQ.out.grow g61)
        have TS := Lib.hid (TS.out.grow g61)
        have TO := Lib.hid (TO.out.grow g61)
        have TX := Lib.hid (TX.out.grow g61)
        have TY := Lib.hid (TY.out.grow g61)
        have HR0 := Lib.hid (HR0.out.grow g61)
        have HQ := Lib.hid (HQ.out.grow g61)
        have HS := Lib.hid (HS.out.grow g61)
        have H20 := Lib.hid (H20.out.grow g61)
        have HX := Lib.hid (HX.out.grow g61)
        have HY := Lib.hid (HY.out.grow g61)
        have H41 := Lib.hid (H41.out.grow g61)
        have HU := Lib.hid (HU.out.grow g61)
        have H51 := Lib.hid (H51.out.grow g61)
        have HV := Lib.hid (HV.out.grow g61)
        replace g0 := g0.trans g61
        clear g61
        repeat (refine wpE_readB (v := ?_) g0 rfl rfl (fun w' hg => ?_) (fun K hK => ?_); rotate_left; (go_simp; rfl); go_simp; refine hK _ _ ?_; clear hK K)
        refine wpE_fn (args := ?_) rfl rfl rfl rfl rfl rfl (by kernel_rfl) (by kernel_rfl) ?_ (fun K hK => ?_)
        rotate_left
        · go_simp; rfl
        refine (s_Cmp _ _ _ (lo : Rat) x0 (0) 7 6 (HX.out.v SX.out) HR0.out ((HF.out.1 hE).1) (by decide) (by decide) (by decide) (by decide)).mono ?_
        rintro _ w62 ⟨_, rfl, g62, rfl⟩
        refine ⟨_, rfl, g62, ?_⟩
        go_simp
        refine hK _ _ ?_
        clear hK K
        have G := Lib.hid (G.out.trans g62)
        have T0 := Lib.hid (T0.out.grow g62)
        have TQ := Lib.hid (TQ.out.grow g62)
        have TS := Lib.hid (TS.out.grow g62)
        have TO := Lib.hid (TO.out.grow g62)
        have TX := Lib.hid (TX.out.grow g62)
        have TY := Lib.hid (TY.out.grow g62)
        have HR0 := Lib.hid (HR0.out.grow g62)
        have HQ := Lib.hid (HQ.out.grow g62)
        have HS := Lib.hid (HS.out.grow g62)
        have H20 := Lib.hid (H20.out.grow g62)
        have HX := Lib.hid (HX.out.grow g62)
        have HY := Lib.hid (HY.out.grow g62)
        have H41 := Lib.hid (H41.out.grow g62)
        have HU := Lib.hid (HU.out.grow g62)
        have H51 := Lib.hid (H51.out.grow g62)
        have HV := Lib.hid (HV.out.grow g62)
        replace g0 := g0.trans g62
        clear g62
        repeat (refine wpE_readB (v := ?_) g0 rfl rfl (fun w' hg => ?_) (fun K hK => ?_); rotate_left; (go_simp; rfl); go_simp; refine hK _ _ ?_; clear hK K)
        refine wpE_nil ?_
        clear g0
        clear T0_0 T0_1 T0_2 TQ_0 TQ_1 TS_0 TS_1 TO_0 TO_1 TX_0 TX_1 TX_2 TY_0 TY_1 TY_2
        go_wp2_with fail
        go_ret
        exact ⟨_, rfl, G.out, rfl⟩
      · go_wp2_with fail
        refine wp_region_fast [(0, true), (1, false), (2, true), (3, true), (4, true), (5, false), (6, true), (7, true), (8, true), (9, true), (10, true), (11, false), (12, true), (13, true), (14, true), (15, true), (16, true), (17, false), (18, true), (19, true), (20, true), (21, true), (22, true), (23, true), (24, false), (25, true), (26, false), (27, true), (28, true), (29, true), (30, true), (31, true), (34, true), (32, false), (33, true), (35, false), (36, true), (37, true)] (by kernel_rfl) (by kernel_rfl) rfl (by kernel_rfl) (fun _ _ d _ _ h => by cases d <;> exact h) ?_
        have T0_0 := T0.out.c0
        have T0_1 := T0.out.c1
        have T0_2 := T0.out.c2
        have TQ_0 := TQ.out.c0
        have TQ_1 := TQ.out.c1
        have TS_0 := TS.out.c0
        have TS_1 := TS.out.c1
        have TO_0 := TO.out.c0
        have TO_1 := TO.out.c1
        have TX_0 := TX.out.c0
        have TX_1 := TX.out.c1
        have TX_2 := TX.out.c2
        have TY_0 := TY.out.c0
        have TY_1 := TY.out.c1
        have TY_2 := TY.out.c2
        have g0 : Gr W6 W6.drew := (Gr.refl _).drew
        have G := Lib.hid (G.out.trans g0)
        have T0 := Lib.hid (T0.out.grow g0)
        have TQ := Lib.hid (TQ.out.grow g0)
        have TS := Lib.hid (TS.out.grow g0)
        have TO := Lib.hid (TO.out.grow g0)
        have TX := Lib.hid (TX.out.grow g0)
        have TY := Lib.hid (TY.out.grow g0)
        have HR0 := Lib.hid (HR0.out.grow g0)
        have HQ := Lib.hid (HQ.out.grow g0)
        have HS := Lib.hid (HS.out.grow g0)
        have H20 := Lib.hid (H20.out.grow g0)
        have HX := Lib.hid (HX.out.grow g0)
        have HY := Lib.hid (HY.out.grow g0)
        repeat (refine wpE_readB (v := ?_) g0 rfl rfl (fun w' hg => ?_) (fun K hK => ?_); rotate_left; (go_simp; rfl); go_simp; refine hK _ _ ?_; clear hK K)
        refine wpE_fn (args := ?_) rfl rfl rfl rfl rfl rfl (by kernel_rfl) (by kernel_rfl) ?_ (fun K hK => ?_)
        rotate_left
        · go_simp; rfl
        refine (ref2_Valid _ _ _ (digs lo.natAbs) true (IntC.validC lo) HQ.out (Nat.le_trans HLl.out (by decide))).mono ?_
        rintro _ w31 ⟨_, rfl, g31, rfl⟩
        refine ⟨_, rfl, g31, ?_⟩
        go_simp
        refine hK _ _ ?_
        clear hK K
        have G := Lib.hid (G.out.trans g31)
        have T0 := Lib.hid (T0.out.grow g31)
        have TQ := Lib.hid (TQ.out.grow g31)
        have TS := Lib.hid (TS.out.grow g31)
        have TO := Lib.hid (TO.out.grow g31)
        have TX := Lib.hid (TX.out.grow g31)
        have TY := Lib.hid (TY.out.grow g31)
        have HR0 := Lib.hid (HR0.out.grow g31)
        have HQ := Lib.hid (HQ.out.grow g31)
        have HS := Lib.hid (HS.out.grow g31)
        have H20 := Lib.hid (H20.out.grow g31)
        have HX := Lib.hid (HX.out.grow g31)
        have HY := Lib.hid (HY.out.grow g31)
        replace g0 := g0.trans g31
        clear g31
        repeat (refine wpE_readB (v := ?_) g0 rfl rfl (fun w' hg => ?_) (fun K hK => ?_); rotate_left; (go_simp; rfl); go_simp; refine hK _ _ ?_; clear hK K)
        refine wpE_fn (args := ?_) rfl rfl rfl rfl rfl rfl (by kernel_rfl) (by kernel_rfl) ?_ (fun K hK => ?_)
        rotate_left
        · go_simp; rfl
        refine (ref2_Valid _ _ _ (digs hi.natAbs) true (IntC.validC hi) HS.out (Nat.le_trans HHl.out (by decide))).mono ?_
        rintro _ w32 ⟨_, rfl, g32, rfl⟩
        refine ⟨_, rfl, g32, ?_⟩
        go_simp
        refine hK _ _ ?_
        clear hK K
        have G := Lib.hid (G.out.trans g32)
        have T0 := Lib.hid (T0.out.grow g32)
        have TQ := Lib.hid (TQ.out.grow g32)
        have TS := Lib.hid (TS.out.grow g32)
        have TO := Lib.hid (TO.out.grow g32)
        have TX := Lib.hid (TX.out.grow g32)
        have TY := Lib.hid (TY.out.grow g32)
        have HR0 := Lib.hid (HR0.out.grow g32)
        have HQ := Lib.hid (HQ.out.grow g32)
        have HS := Lib.hid (HS.out.grow g32)
        have H20 := Lib.hid (H20.out.grow g32)
        have HX := Lib.hid (HX.out.grow g32)
        have HY := Lib.hid (HY.out.grow g32)
        replace g0 := g0.trans g32
        clear g32
        repeat (refine wpE_readB (v := ?_) g0 rfl rfl (fun w' hg => ?_) (fun K hK => ?_); rotate_left; (go_simp; rfl); go_simp; refine hK _ _ ?_; clear hK K)
        refine wpE_fn (args := ?_) rfl rfl rfl rfl rfl rfl (by kernel_rfl) (by kernel_rfl) ?_ (fun K hK => ?_)
        rotate_left
        · go_simp; rfl
        refine (s_Cmp _ _ _ (lo : Rat) x0 (-1) 7 6 (HX.out.v SX.out) HR0.out ((HF.out.2 hE).1) (by decide) (by decide) (by decide) (by decide)).mono ?_
        rintro _ w33 ⟨_, rfl, g33, rfl⟩
        refine ⟨_, rfl, g33, ?_⟩
        go_simp
        refine hK _ _ ?_
        clear hK K
        have G := Lib.hid (G.out.trans g33)
        have T0 := Lib.hid (T0.out.grow g33)
        have TQ := Lib.hid (TQ.out.grow g33)
        have TS := Lib.hid (TS.out.grow g33)
        have TO := Lib.hid (TO.out.grow g33)
        have TX := Lib.hid (TX.out.grow g33)
        have TY := Lib.hid (TY.out.grow g33)
        have HR0 := Lib.hid (HR0.out.grow g33)
        have HQ := Lib.hid (HQ.out.grow g33)
        have HS := Lib.hid (HS.out.grow g33)
        have H20 := Lib.hid (H20.out.grow g33)
        have HX := Lib.hid (HX.out.grow g33)
        have HY := Lib.hid (HY.out.grow g33)
        replace g0 := g0.trans g33
        clear g33
        repeat (refine wpE_readB (v := ?_) g0 rfl rfl (fun w' hg => ?_) (fun K hK => ?_); rotate_left; (go_simp; rfl); go_simp; refine hK _ _ ?_; clear hK K)
        refine wpE_fn (args := ?_) rfl rfl rfl rfl rfl rfl (by kernel_rfl) (by kernel_rfl) ?_ (fun K hK => ?_)
        rotate_left
        · go_simp; rfl
        refine (s_Cmp _ _ _ x0 (hi : Rat) (-1) 6 7 HR0.out (HY.out.v SY.out) ((HF.out.2 hE).2.1) (by decide) (by decide) (by decide) (by decide)).mono ?_
        rintro _ w34 ⟨_, rfl, g34, rfl⟩
        refine ⟨_, rfl, g34, ?_⟩
        go_simp
        refine hK _ _ ?_
        clear hK K
        have G := Lib.hid (G.out.trans g34)
        have T0 := Lib.hid (T0.out.grow g34)
        have TQ := Lib.hid (TQ.out.grow g34)
        have TS := Lib.hid (TS.out.grow g34)
        have TO := Lib.hid (TO.out.grow g34)
        have TX := Lib.hid (TX.out.grow g34)
        have TY := Lib.hid (TY.out.grow g34)
        have HR0 := Lib.hid (HR0.out.grow g34)
        have HQ := Lib.hid (HQ.out.grow g34)
        have HS := Lib.hid (HS.out.grow g34)
        have H20 := Lib.hid (H20.out.grow g34)
        have HX := Lib.hid (HX.out.grow g34)
        have HY := Lib.hid (HY.out.grow g34)
        replace g0 := g0.trans g34
        clear g34
        repeat (refine wpE_readB (v := ?_) g0 rfl rfl (fun w' hg => ?_) (fun K hK => ?_); rotate_left; (go_simp; rfl); go_simp; refine hK _ _ ?_; clear hK K)
        refine wpE_fn (args := ?_) rfl rfl rfl rfl rfl rfl (by kernel_rfl) (by kernel_rfl) ?_ (fun K hK => ?_)
        rotate_left
        · go_simp; rfl
        refine (e_Add _ _ _ lo 1 (lo + 1) 7 1 (HQ.out.v HLl.out) (H20.out.v (by decide +kernel)) rfl (by decide) (by decide)).mono ?_
        rintro _ w41 ⟨r41, rfl, g41, h41⟩
        refine ⟨_, rfl, g41, ?_⟩
        go_simp
        refine hK _ _ ?_
        clear hK K
        have G := Lib.hid (G.out.trans g41)
        have T0 := Lib.hid (T0.out.grow g41)
        have TQ := Lib.hid (TQ.out.grow g41)
        have TS := Lib.hid (TS.out.grow g41)
        have TO := Lib.hid (TO.out.grow g41)
        have TX := Lib.hid (TX.out.grow g41)
        have TY := Lib.hid (TY.out.grow g41)
        have HR0 := Lib.hid (HR0.out.grow g41)
        have HQ := Lib.hid (HQ.out.grow g41)
        have HS := Lib.hid (HS.out.grow g41)
        have H20 := Lib.hid (H20.out.grow g41)
        have HX := Lib.hid (HX.out.grow g41)
        have HY := Lib.hid (HY.out.grow g41)
        replace g0 := g0.trans g41
        clear g41
        have H41 := Lib.hid h41
        clear h41
        obtain ⟨pd, kd, cd, rfl⟩ := H41.out.1.agg
        have HU := Lib.hid (RatC.ofInt H41.out.1)
        have SU := Lib.hid (sz_int (z := lo + 1) H41.out.2.len (by decide))
        repeat (refine wpE_readB (v := ?_) g0 rfl rfl (fun w' hg => ?_) (fun K hK => ?_); rotate_left; (go_simp; rfl); go_simp; refine hK _ _ ?_; clear hK K)
        refine wpE_fn (args := ?_) rfl rfl rfl rfl rfl rfl (by kernel_rfl) (by kernel_rfl) ?_ (fun K hK => ?_)
        rotate_left
        · go_simp; rfl
        refine (s_Cmp _ _ _ x0 ((lo + 1 : Int) : Rat) (-1) 6 9 HR0.out (HU.out.v SU.out) ((HF.out.2 hE).2.2.1) (by decide) (by decide) (by decide) (by decide)).mono ?_
        rintro _ w42 ⟨_, rfl, g42, rfl⟩
        refine ⟨_, rfl, g42, ?_⟩
        go_simp
        refine hK _ _ ?_
        clear hK K
        have G := Lib.hid (G.out.trans g42)
        have T0 := Lib.hid (T0.out.grow g42)
        have TQ := Lib.hid (TQ.out.grow g42)
        have TS := Lib.hid (TS.out.grow g42)
        have TO := Lib.hid (TO.out.grow g42)
        have TX := Lib.hid (TX.out.grow g42)
        have TY := Lib.hid (TY.out.grow g42)
        have HR0 := Lib.hid (HR0.out.grow g42)
        have HQ := Lib.hid (HQ.out.grow g42)
        have HS := Lib.hid (HS.out.grow g42)
        have H20 := Lib.hid (H20.out.grow g42)
        have HX := Lib.hid (HX.out.grow g42)
        have HY := Lib.hid (HY.out.grow g42)
        have H41 := Lib.hid (H41.out.grow g42)
        have HU := Lib.hid (HU.out.grow g42)
        replace g0 := g0.trans g42
        clear g42
        repeat (refine wpE_readB (v := ?_) g0 rfl rfl (fun w' hg => ?_) (fun K hK => ?_); rotate_left; (go_simp; rfl); go_simp; refine hK _ _ ?_; clear hK K)
        refine wpE_fn (args := ?_) rfl rfl rfl rfl rfl rfl (by kernel_rfl) (by kernel_rfl) ?_ (fun K hK => ?_)
        rotate_left
        · go_simp; rfl
        refine (e_Sub _ _ _ hi 1 (hi - 1) 7 1 (HS.out.v HHl.out) (H20.out.v (by decide +kernel)) rfl (by decide) (by decide)).mono ?_
        rintro _ w51 ⟨r51, rfl, g51, h51⟩
        refine ⟨_, rfl, g51, ?_⟩
        go_simp
        refine hK _ _ ?_
        clear hK K
        have G := Lib.hid (G.out.trans g51)
        have T0 := Lib.hid (T0.out.grow g51)
        have TQ := Lib.hid (TQ.out.grow g51)
        have TS := Lib.hid (TS.out.grow g51)
        have TO := Lib.hid (TO.out.grow g51)
        have TX := Lib.hid (TX.out.grow g51)
        have TY := Lib.hid (TY.out.grow g51)
        have HR0 := Lib.hid (HR0.out.grow g51)
        have HQ := Lib.hid (HQ.out.grow g51)
        have HS := Lib.hid (HS.out.grow g51)
        have H20 := Lib.hid (H20.out.grow g51)
        have HX := Lib.hid (HX.out.grow g51)
        have HY := Lib.hid (HY.out.grow g51)
        have H41 := Lib.hid (H41.out.grow g51)
        have HU := Lib.hid (HU.out.grow g51)
        replace g0 := g0.trans g51
        clear g51
        have H51 := Lib.hid h51
        clear h51
        obtain ⟨pe, ke, ce, rfl⟩ := H51.out.1.agg
        have HV := Lib.hid (RatC.ofInt H51.out.1)
        have SV := Lib.hid (sz_int (z := hi - 1) H51.out.2.len (by decide))
        repeat (refine wpE_readB (v := ?_) g0 rfl rfl (fun w' hg => ?_) (fun K hK => ?_); rotate_left; (go_simp; rfl); go_simp; refine hK _ _ ?_; clear hK K)
        refine wpE_fn (args := ?_) rfl rfl rfl rfl rfl rfl (by kernel_rfl) (by kernel_rfl) ?_ (fun K hK => ?_)
        rotate_left
        · go_simp; rfl
        refine (s_Cmp _ _ _ ((hi - 1 : Int) : Rat) x0 (-1) 9 6 (HV.out.v SV.out) HR0.out ((HF.out.2 hE).2.2.2.1) (by decide) (by decide) (by decide) (by decide)).mono ?_
        rintro _ w52 ⟨_, rfl, g52, rfl⟩
        refine ⟨_, rfl, g52, ?_⟩
        go_simp
        refine hK _ _ ?_
        clear hK K
        have G := Lib.hid (G.out.trans g52)
        have T0 := Lib.hid (T0.out.grow g52)
        have TQ := Lib.hid (TQ.out.grow g52)
        have TS := Lib.hid (TS.out.grow g52)
        have TO := Lib.hid (TO.out.grow g52)
        have TX := Lib.hid (TX.out.grow g52)
        have TY := Lib.hid (TY.out.grow g52)
        have HR0 := Lib.hid (HR0.out.grow g52)
        have HQ := Lib.hid (HQ.out.grow g52)
        have HS := Lib.hid (HS.out.grow g52)
        have H20 := Lib.hid (H20.out.grow g52)
        have HX := Lib.hid (HX.out.grow g52)
        have HY := Lib.hid (HY.out.grow g52)
        have H41 := Lib.hid (H41.out.grow g52)
        have HU := Lib.hid (HU.out.grow g52)
        have H51 := Lib.hid (H51.out.grow g52)
        have HV := Lib.hid (HV.out.grow g52)
        replace g0 := g0.trans g52
        clear g52
        repeat (refine wpE_readB (v := ?_) g0 rfl rfl (fun w' hg => ?_) (fun K hK => ?_); rotate_left; (go_simp; rfl); go_simp; refine hK _ _ ?_; clear hK K)
        refine wpE_nil ?_
        clear g0
        clear T0_0 T0_1 T0_2 TQ_0 TQ_1 TS_0 TS_1 TO_0 TO_1 TX_0 TX_1 TX_2 TY_0 TY_1 TY_2
        go_wp2_with fail
        refine wp_region_fast [(0, true), (1, true), (3, true), (4, true), (2, false), (5, false), (6, true), (7, true), (8, true)] (by kernel_rfl) (by kernel_rfl) rfl (by kernel_rfl) (fun _ _ d _ _ h => by cases d <;> exact h) ?_
        have T0_0 := T0.out.c0
        have T0_1 := T0.out.c1
        have T0_2 := T0.out.c2
        have TQ_0 := TQ.out.c0
        have TQ_1 := TQ.out.c1
        have TS_0 := TS.out.c0
        have TS_1 := TS.out.c1
        have TO_0 := TO.out.c0
        have TO_1 := TO.out.c1
        have TX_0 := TX.out.c0
        have TX_1 := TX.out.c1
        have TX_2 := TX.out.c2
        have TY_0 := TY.out.c0
        have TY_1 := TY.out.c1
        have TY_2 := TY.out.c2
        have g0 : Gr w52 w52.drew := (Gr.refl _).drew
        have G := Lib.hid (G.out.trans g0)
        have T0 := Lib.hid (T0.out.grow g0)
        have TQ := Lib.hid (TQ.out.grow g0)
        have TS := Lib.hid (TS.out.grow g0)
        have TO := Lib.hid (TO.out.grow g0)
        have TX := Lib.hid (TX.out.grow g0)
        have TY := Lib.hid (TY.out.grow g0)
        have HR0 := Lib.hid (HR0.out.grow g0)
        have HQ := Lib.hid (HQ.out.grow g0)
        have HS := Lib.hid (HS.out.grow g0)
        have H20 := Lib.hid (H20.out.grow g0)
        have HX := Lib.hid (HX.out.grow g0)
        have HY := Lib.hid (HY.out.grow g0)
        have H41 := Lib.hid (H41.out.grow g0)
        have HU := Lib.hid (HU.out.grow g0)
        have H51 := Lib.hid (H51.out.grow g0)
        have HV := Lib.hid (HV.out.grow g0)
        repeat (refine wpE_readB (v := ?_) g0 rfl rfl (fun w' hg => ?_) (fun K hK => ?_); rotate_left; (go_simp; rfl); go_simp; refine hK _ _ ?_; clear hK K)
        refine wpE_fn (args := ?_) rfl rfl rfl rfl rfl rfl (by kernel_rfl) (by kernel_rfl) ?_ (fun K hK => ?_)
        rotate_left
        · go_simp; rfl
        refine (v_Same _ _ _ lo hi false HQ.out HS.out ((HF.out.2 hE).2.2.2.2)).mono ?_
        rintro _ w61 ⟨_, rfl, g61, rfl⟩
        refine ⟨_, rfl, g61, ?_⟩
        go_simp
        refine hK _ _ ?_
        clear hK K
        have G := Lib.hid (G.out.trans g61)
        have T0 := Lib.hid (T0.out.grow g61)
        have TQ := Lib.hid (TQ.out.grow g61)
        have TS := Lib.hid (TS.out.grow g61)
        have TO := Lib.hid (TO.out.grow g61)
        have TX := Lib.hid (TX.out.grow g61)
        have TY := Lib.hid (TY.out.grow g61)
        have HR0 := Lib.hid (HR0.out.grow g61)
        have HQ := Lib.hid (HQ.out.grow g61)
        have HS := Lib.hid (HS.out.grow g61)
        have H20 := Lib.hid (H20.out.grow g61)
        have HX := Lib.hid (HX.out.grow g61)
        have HY := Lib.hid (HY.out.grow g61)
        have H41 := Lib.hid (H41.out.grow g61)
        have HU := Lib.hid (HU.out.grow g61)
        have H51 := Lib.hid (H51.out.grow g61)
        have HV := Lib.hid (HV.out.grow g61)
        replace g0 := g0.trans g61
        clear g61
        repeat (refine wpE_readB (v := ?_) g0 rfl rfl (fun w' hg => ?_) (fun K hK => ?_); rotate_left; (go_simp; rfl); go_simp; refine hK _ _ ?_; clear hK K)
        refine wpE_fn (args := ?_) rfl rfl rfl rfl rfl rfl (by kernel_rfl) (by kernel_rfl) ?_ (fun K hK => ?_)
        rotate_left
        · go_simp; rfl
        refine (s_Cmp _ _ _ (lo : Rat) x0 (-1) 7 6 (HX.out.v SX.out) HR0.out ((HF.out.2 hE).1) (by decide) (by decide) (by decide) (by decide)).mono ?_
        rintro _ w62 ⟨_, rfl, g62, rfl⟩
        refine ⟨_, rfl, g62, ?_⟩
        go_simp
        refine hK _ _ ?_
        clear hK K
        have G := Lib.hid (G.out.trans g62)
        have T0 := Lib.hid (T0.out.grow g62)
        have TQ := Lib.hid (TQ.out.grow g62)
        have TS := Lib.hid (TS.out.grow g62)
        have TO := Lib.hid (TO.out.grow g62)
        have TX := Lib.hid (TX.out.grow g62)
        have TY := Lib.hid (TY.out.grow g62)
        have HR0 := Lib.hid (HR0.out.grow g62)
        have HQ := Lib.hid (HQ.out.grow g62)
        have HS := Lib.hid (HS.out.grow g62)
        have H20 := Lib.hid (H20.out.grow g62)
        have HX := Lib.hid (HX.out.grow g62)
        have HY := Lib.hid (HY.out.grow g62)
        have H41 := Lib.hid (H41.out.grow g62)
        have HU := Lib.hid (HU.out.grow g62)
        have H51 := Lib.hid (H51.out.grow g62)
        have HV := Lib.hid (HV.out.grow g62)
        replace g0 := g0.trans g62
        clear g62
        repeat (refine wpE_readB (v := ?_) g0 rfl rfl (fun w' hg => ?_) (fun K hK => ?_); rotate_left; (go_simp; rfl); go_simp; refine hK _ _ ?_; clear hK K)
        refine wpE_nil ?_
        clear g0
        clear T0_0 T0_1 T0_2 TQ_0 TQ_1 TS_0 TS_1 TO_0 TO_1 TX_0 TX_1 TX_2 TY_0 TY_1 TY_2
        go_wp2_with fail
        go_ret
        exact ⟨_, rfl, G.out, rfl⟩
end Go.Proofs.YtmcgkglmlfbijaaGreatDoor

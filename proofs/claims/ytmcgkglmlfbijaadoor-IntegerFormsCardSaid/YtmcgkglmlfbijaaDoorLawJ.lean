/-
  IntegerForms: the walk.
-/
import Derived.Test.YtmcgkglmlfbijaaDoorIntL
import Derived.Test.YtmcgkglmlfbijaaDoorFast
namespace Go.Proofs.YtmcgkglmlfbijaaDoor
open Go.RowKit Go.Lib
set_option linter.unusedVariables false
set_option linter.unusedSimpArgs false

theorem cell_newF (w : World) (a : Array Value) (t : TypeId) (i : Nat) : (w.alloc (.cells a t)).cell? ⟨w.heap.size, i, none⟩ = a[i]? := by
  unfold World.cell?
  simp only [heap_alloc_new w _]
  rfl

set_option maxRecDepth 100000 in
set_option maxHeartbeats 6400000 in
theorem law_IntegerForms (w : World) (htab : Tab w) (va : Value) (n0 : Bool) (l0 : List Nat) (i0 : IntL w va n0 l0) (z1 : Int) (y0 : -9223372036854775808 ≤ z1) (y1 : z1 ≤ 9223372036854775807) :
    Calls Tryd.prog 3 #[va, .int .i64 z1] w (Ret w fun r w' => r = .bool true) := by
  have HTab := Lib.hid htab
  have HA0 := Lib.hid i0
  obtain ⟨p0, k0, c0, rfl, i0⟩ := i0
  have hl0 := Lib.hid i0.len
  have B := boxed1 w (.bool n0) (.slice p0 k0 c0) 25
  clear i0 htab
  go_enter Tryd.func3, Tryd.ntmps3
  go_wp2_with fail
  generalize w.alloc _ = W at B ⊢
  obtain ⟨G0, t0⟩ := B
  generalize w.heap.size = b0 at t0 ⊢
  have HW := Lib.hid G0
  have T0 := Lib.hid t0
  clear G0 t0
  refine (law_awake W).mono ?_
  rintro _ w1 ⟨_, rfl, g1, rfl⟩
  have a0 := T0.out.c0 w1 g1
  have d0 := T0.out.c1 w1 g1
  have G1 := Lib.hid g1
  clear g1
  go_wp2_with fail
  obtain ⟨t, ht⟩ : ∃ t, decide (∀ i, i < 1 → k0 ≤ 10) = t := ⟨_, rfl⟩
  refine (law_few _ _ 1 1 (fun i => n0) (fun i => p0) (fun i => k0) (fun i => c0) (by decide) (by decide) t ht (fun i hi => ?_)).mono ?_
  · match i, hi with
    | 0, _ => exact ⟨cell_newF _ _ _ _, cell_newF _ _ _ _⟩
  rintro _ w3 ⟨_, rfl, g3, rfl⟩
  have G := Lib.hid (HW.out.trans (G1.out.trans (((Gr.refl w1).alloc _).trans g3)))
  have T := Lib.hid (T0.out.grow (G1.out.trans (((Gr.refl w1).alloc _).trans g3)))
  clear a0 d0 g3 G1 HW T0
  cases t
  · clear ht
    go_wp2_with fail
    refine (law_awake w3).mono ?_
    rintro _ w4 ⟨_, rfl, g4, rfl⟩
    have G4 := Lib.hid g4
    clear g4
    go_wp2_with fail
    go_ret
    exact ⟨_, rfl, G.out.trans G4.out, rfl⟩
  · have hk10 : k0 ≤ 10 := of_decide_eq_true ht 0 (by decide)
    have HL := Lib.hid (show l0.length ≤ 10 by rw [hl0.out]; exact hk10)
    have HI := Lib.hid (HA0.out.grow G.out)
    obtain ⟨z, hz⟩ : ∃ z, zval n0 l0 = z := ⟨_, rfl⟩
    have Hz := Lib.hid hz
    obtain ⟨t, htf⟩ : ∃ t, fits z = t := ⟨_, rfl⟩
    have Htf := Lib.hid htf
    obtain ⟨X, hX⟩ : ∃ X : Int, (if t then z else 0) = X := ⟨_, rfl⟩
    have HX := Lib.hid hX
    obtain ⟨vt, hvt⟩ : ∃ vt, (decide (trimL l0 = l0) && !(n0 && l0.isEmpty)) = vt := ⟨_, rfl⟩
    have HVt := Lib.hid hvt
    obtain ⟨sz, hsz⟩ : ∃ s, sgn z = s := ⟨_, rfl⟩
    have Hsz := Lib.hid (show sgn (zval n0 l0) = sz by rw [hz]; exact hsz)
    obtain ⟨tx, htx⟩ : ∃ s, (if z < 0 then 45 :: decDigits z.natAbs else decDigits z.natAbs) = s := ⟨_, rfl⟩
    have Htx := Lib.hid htx
    have Hf1 := Lib.hid (show fits z1 = true by unfold fits; exact decide_eq_true (by omega))
    clear ht hk10 hz htf hX hvt hsz htx
    have a0 := T.out.c0 w3 (Gr.refl _)
    have d0 := T.out.c1 w3 (Gr.refl _)
    go_wp2_with fail
    clear a0 d0
    refine (int_Int64 w3 _ n0 l0 z t Hz.out Htf.out HI.out).mono ?_
    rintro _ w4 ⟨_, rfl, g4, rfl⟩
    rw [HX.out]
    have G := Lib.hid (G.out.trans g4)
    have T := Lib.hid (T.out.grow g4)
    have HI := Lib.hid (HI.out.grow g4)
    have a0 := T.out.c0 w4 (Gr.refl _)
    have d0 := T.out.c1 w4 (Gr.refl _)
    clear g4
    go_wp2_with fail
    clear a0 d0
    refine (ref2_Int64 w4 _ n0 l0 z t Hz.out HI.out (Nat.le_trans HL.out (by decide)) Htf.out).mono ?_
    rintro _ w5 ⟨_, rfl, g5, rfl⟩
    rw [HX.out]
    have G := Lib.hid (G.out.trans g5)
    have T := Lib.hid (T.out.grow g5)
    have HI := Lib.hid (HI.out.grow g5)
    clear g5
    go_wp2_with fail
    refine (int_From w5 z1 y0 y1).mono ?_
    rintro _ w6 ⟨r6, rfl, g6, h6⟩
    have H6 := Lib.hid h6
    have G := Lib.hid (G.out.trans g6)
    have T := Lib.hid (T.out.grow g6)
    have HI := Lib.hid (HI.out.grow g6)
    clear h6 g6
    go_wp2_with fail
    refine (int_Int64 w6 _ _ _ z1 true (zval_can z1) Hf1.out H6.out).mono ?_
    rintro _ w7 ⟨_, rfl, g7, rfl⟩
    rw [if_pos rfl]
    have G := Lib.hid (G.out.trans g7)
    have T := Lib.hid (T.out.grow g7)
    have HI := Lib.hid (HI.out.grow g7)
    clear g7 H6
    go_wp2_with fail
    refine wp_region_fast [(0, true), (2, true), (1, false), (3, false), (4, true), (5, true), (6, true), (8, true), (7, false), (9, false), (10, false), (11, true), (12, true), (13, true), (14, true), (15, true), (16, true), (17, true), (18, true), (19, true), (20, true), (21, true), (22, true), (23, true), (24, true), (25, true), (26, true), (27, true), (28, true), (29, true), (30, true), (31, true), (33, true), (32, false), (34, false), (35, true), (36, true), (37, true), (38, true), (40, true), (39, false), (41, false), (42, false), (43, true), (44, true), (45, true), (47, true), (46, false), (48, false), (49, true), (50, true), (51, true)] (by kernel_rfl) (by kernel_rfl) rfl (by kernel_rfl) (fun _ _ d _ _ h => by cases d <;> exact h) ?_
    have a0 := T.out.c0
    have d0 := T.out.c1
    have g0 : Gr w7 w7.drew := (Gr.refl _).drew
    repeat (refine wpE_readB (v := ?_) g0 rfl rfl (fun w' hg => ?_) (fun K hK => ?_); rotate_left; (go_simp; rfl); go_simp; refine hK _ _ ?_; clear hK K)
    refine wpE_fn (args := ?_) rfl rfl rfl rfl rfl rfl (by kernel_rfl) (by kernel_rfl) ?_ (fun K hK => ?_)
    rotate_left
    · go_simp; rfl
    refine (int_Valid _ _ n0 l0 vt (HI.out.grow g0) (Nat.le_trans HL.out (by decide)) HVt.out).mono ?_
    rintro _ v1 ⟨_, rfl, gn, rfl⟩
    refine ⟨_, rfl, gn, ?_⟩
    go_simp
    refine hK _ _ ?_
    clear hK K
    have h1 := g0.trans gn
    clear gn g0
    repeat (refine wpE_readB (v := ?_) h1 rfl rfl (fun w' hg => ?_) (fun K hK => ?_); rotate_left; (go_simp; rfl); go_simp; refine hK _ _ ?_; clear hK K)
    refine wpE_fn (args := ?_) rfl rfl rfl rfl rfl rfl (by kernel_rfl) (by kernel_rfl) ?_ (fun K hK => ?_)
    rotate_left
    · go_simp; rfl
    refine (ref2_Valid _ _ n0 l0 vt HVt.out (HI.out.grow h1) (Nat.le_trans HL.out (by decide))).mono ?_
    rintro _ v2 ⟨_, rfl, gn, rfl⟩
    refine ⟨_, rfl, gn, ?_⟩
    go_simp
    refine hK _ _ ?_
    clear hK K
    have h2 := h1.trans gn
    clear gn h1
    repeat (refine wpE_readB (v := ?_) h2 rfl rfl (fun w' hg => ?_) (fun K hK => ?_); rotate_left; (go_simp; rfl); go_simp; refine hK _ _ ?_; clear hK K)
    refine wpE_fn (args := ?_) rfl rfl rfl rfl rfl rfl (by kernel_rfl) (by kernel_rfl) ?_ (fun K hK => ?_)
    rotate_left
    · go_simp; rfl
    refine (int_From _ z1 y0 y1).mono ?_
    rintro _ v3 ⟨rf, rfl, gn, hr⟩
    refine ⟨_, rfl, gn, ?_⟩
    go_simp
    refine hK _ _ ?_
    clear hK K
    have RF := Lib.hid hr
    have h3 := h2.trans gn
    clear gn h2 hr
    repeat (refine wpE_readB (v := ?_) h3 rfl rfl (fun w' hg => ?_) (fun K hK => ?_); rotate_left; (go_simp; rfl); go_simp; refine hK _ _ ?_; clear hK K)
    refine wpE_fn (args := ?_) rfl rfl rfl rfl rfl rfl (by kernel_rfl) (by kernel_rfl) ?_ (fun K hK => ?_)
    rotate_left
    · go_simp; rfl
    refine (ref2_From _ z1 y0 y1).mono ?_
    rintro _ v4 ⟨rg, rfl, gn, hr⟩
    refine ⟨_, rfl, gn, ?_⟩
    go_simp
    refine hK _ _ ?_
    clear hK K
    have RG := Lib.hid hr
    have RF := Lib.hid (RF.out.grow gn)
    have h4 := h3.trans gn
    clear gn h3 hr
    repeat (refine wpE_readB (v := ?_) h4 rfl rfl (fun w' hg => ?_) (fun K hK => ?_); rotate_left; (go_simp; rfl); go_simp; refine hK _ _ ?_; clear hK K)
    refine wpE_fn (args := ?_) rfl rfl rfl rfl rfl rfl (by kernel_rfl) (by kernel_rfl) ?_ (fun K hK => ?_)
    rotate_left
    · go_simp; rfl
    refine (ref2_Same _ _ _ _ _ _ _ true (by rw [IntC.same]; simp) RF.out RG.out).mono ?_
    rintro _ v5 ⟨_, rfl, gn, rfl⟩
    refine ⟨_, rfl, gn, ?_⟩
    go_simp
    refine hK _ _ ?_
    clear hK K
    have h5 := h4.trans gn
    clear gn h4 RF RG
    repeat (refine wpE_readB (v := ?_) h5 rfl rfl (fun w' hg => ?_) (fun K hK => ?_); rotate_left; (go_simp; rfl); go_simp; refine hK _ _ ?_; clear hK K)
    refine wpE_fn (args := ?_) rfl rfl rfl rfl rfl rfl (by kernel_rfl) (by kernel_rfl) ?_ (fun K hK => ?_)
    rotate_left
    · go_simp; rfl
    refine (int_Sign _ _ n0 l0 sz Hsz.out (HI.out.grow h5) (Nat.le_trans HL.out (by decide))).mono ?_
    rintro _ v6 ⟨_, rfl, gn, rfl⟩
    refine ⟨_, rfl, gn, ?_⟩
    go_simp
    refine hK _ _ ?_
    clear hK K
    have h6 := h5.trans gn
    clear gn h5
    repeat (refine wpE_readB (v := ?_) h6 rfl rfl (fun w' hg => ?_) (fun K hK => ?_); rotate_left; (go_simp; rfl); go_simp; refine hK _ _ ?_; clear hK K)
    refine wpE_fn (args := ?_) rfl rfl rfl rfl rfl rfl (by kernel_rfl) (by kernel_rfl) ?_ (fun K hK => ?_)
    rotate_left
    · go_simp; rfl
    refine (ref2_Sign _ _ n0 l0 sz Hsz.out (HI.out.grow h6) (Nat.le_trans HL.out (by decide))).mono ?_
    rintro _ v7 ⟨_, rfl, gn, rfl⟩
    refine ⟨_, rfl, gn, ?_⟩
    go_simp
    refine hK _ _ ?_
    clear hK K
    have h7 := h6.trans gn
    clear gn h6
    repeat (refine wpE_readB (v := ?_) h7 rfl rfl (fun w' hg => ?_) (fun K hK => ?_); rotate_left; (go_simp; rfl); go_simp; refine hK _ _ ?_; clear hK K)
    refine wpE_fn (args := ?_) rfl rfl rfl rfl rfl rfl (by kernel_rfl) (by kernel_rfl) ?_ (fun K hK => ?_)
    rotate_left
    · go_simp; rfl
    refine (int_Neg _ _ n0 l0 (-z) (by rw [Hz.out]) (HI.out.grow h7) (Nat.le_trans HL.out (by decide))).mono ?_
    rintro _ v8 ⟨rn, rfl, gn, hr⟩
    refine ⟨_, rfl, gn, ?_⟩
    go_simp
    refine hK _ _ ?_
    clear hK K
    have RF := Lib.hid hr
    have h8 := h7.trans gn
    clear gn h7 hr
    repeat (refine wpE_readB (v := ?_) h8 rfl rfl (fun w' hg => ?_) (fun K hK => ?_); rotate_left; (go_simp; rfl); go_simp; refine hK _ _ ?_; clear hK K)
    refine wpE_fn (args := ?_) rfl rfl rfl rfl rfl rfl (by kernel_rfl) (by kernel_rfl) ?_ (fun K hK => ?_)
    rotate_left
    · go_simp; rfl
    refine (ref2_Neg _ _ n0 l0 (-z) (by rw [Hz.out]) (HI.out.grow h8) (Nat.le_trans HL.out (by decide))).mono ?_
    rintro _ v9 ⟨rm, rfl, gn, hr⟩
    refine ⟨_, rfl, gn, ?_⟩
    go_simp
    refine hK _ _ ?_
    clear hK K
    have RG := Lib.hid hr
    have RF := Lib.hid (RF.out.grow gn)
    have h9 := h8.trans gn
    clear gn h8 hr
    repeat (refine wpE_readB (v := ?_) h9 rfl rfl (fun w' hg => ?_) (fun K hK => ?_); rotate_left; (go_simp; rfl); go_simp; refine hK _ _ ?_; clear hK K)
    refine wpE_fn (args := ?_) rfl rfl rfl rfl rfl rfl (by kernel_rfl) (by kernel_rfl) ?_ (fun K hK => ?_)
    rotate_left
    · go_simp; rfl
    refine (ref2_Same _ _ _ _ _ _ _ true (by rw [IntC.same]; simp) RF.out RG.out).mono ?_
    rintro _ v10 ⟨_, rfl, gn, rfl⟩
    refine ⟨_, rfl, gn, ?_⟩
    go_simp
    refine hK _ _ ?_
    clear hK K
    have h10 := h9.trans gn
    clear gn h9 RF RG
    repeat (refine wpE_readB (v := ?_) h10 rfl rfl (fun w' hg => ?_) (fun K hK => ?_); rotate_left; (go_simp; rfl); go_simp; refine hK _ _ ?_; clear hK K)
    refine wpE_fn (args := ?_) rfl rfl rfl rfl rfl rfl (by kernel_rfl) (by kernel_rfl) ?_ (fun K hK => ?_)
    rotate_left
    · go_simp; rfl
    refine (int_TextL _ _ n0 l0 z 10 tx Hz.out (HI.out.grow h10) HL.out (by decide) (HTab.out.grow (G.out.trans h10)) Htx.out).mono ?_
    rintro _ v11 ⟨_, rfl, gn, rfl⟩
    refine ⟨_, rfl, gn, ?_⟩
    go_simp
    refine hK _ _ ?_
    clear hK K
    have h11 := h10.trans gn
    clear gn h10
    repeat (refine wpE_readB (v := ?_) h11 rfl rfl (fun w' hg => ?_) (fun K hK => ?_); rotate_left; (go_simp; rfl); go_simp; refine hK _ _ ?_; clear hK K)
    refine wpE_fn (args := ?_) rfl rfl rfl rfl rfl rfl (by kernel_rfl) (by kernel_rfl) ?_ (fun K hK => ?_)
    rotate_left
    · go_simp; rfl
    refine (ref2_Text _ _ n0 l0 z tx Hz.out (HI.out.grow h11) (Nat.le_trans HL.out (by decide)) Htx.out).mono ?_
    rintro _ v12 ⟨_, rfl, gn, rfl⟩
    refine ⟨_, rfl, gn, ?_⟩
    go_simp
    refine hK _ _ ?_
    clear hK K
    have h12 := h11.trans gn
    clear gn h11
    repeat (refine wpE_readB (v := ?_) h12 rfl rfl (fun w' hg => ?_) (fun K hK => ?_); rotate_left; (go_simp; rfl); go_simp; refine hK _ _ ?_; clear hK K)
    refine wpE_nil ?_
    go_wp2_with fail
    go_ret
    exact ⟨_, rfl, G.out.trans h12, rfl⟩
end Go.Proofs.YtmcgkglmlfbijaaDoor

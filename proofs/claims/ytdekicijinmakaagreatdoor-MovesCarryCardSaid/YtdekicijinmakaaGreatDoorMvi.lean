/-
  exodusref23.Source, Duration, Link, Use.
-/
import Derived.Test.YtdekicijinmakaaGreatDoorMvf
namespace Go.Proofs.YtdekicijinmakaaGreatDoor
open Go.RowKit Go.Lib Lex
set_option linter.unusedVariables false
set_option linter.unusedSimpArgs false

theorem cross_apart {M : Mdl} {x : MvM} {it : ItemM} (h : ¬ x.to = 0) : crossM M x.frm x.to it = apartM M x it := by
  unfold crossM apartM srcM srcI
  have : (x.to != 0) = true := by simpa using h
  rw [this, Bool.true_and]
theorem srcI_srcM (x : MvM) (it : ItemM) : srcI x.frm it = srcM x it := rfl
set_option maxRecDepth 100000 in
set_option maxHeartbeats 1600000 in
theorem ref_Source23 (w : World) (P : Ptrs) (M : Mdl) (x : MvM) (hm : MdlAt w P M) (hf : Few M) :
    Calls Tryz.prog 17 #[.agg (mcells P M), .agg (moveV x)] w (Ret w fun r _ => ∃ z, r = .int .i64 z ∧ IsVal M x (srcF x) z) := by
  have HM0 := Lib.hid hm
  have HF := Lib.hid hf
  have B0 := Cells.new w (mcells P M) 29
  have B1 := Cells.new (w.alloc (.cells (mcells P M) 29)) (moveV x) 31
  simp only [World.size_alloc] at B1
  have m0 := mc0 B0.2 _ B1.1
  have m1 := mc1 B0.2 _ B1.1
  have m2 := mc2 B0.2 _ B1.1
  have m3 := mc3 B0.2 _ B1.1
  have m4 := mc4 B0.2 _ B1.1
  have m5 := mc5 B0.2 _ B1.1
  have m6 := mc6 B0.2 _ B1.1
  have m7 := mc7 B0.2 _ B1.1
  have m8 := mc8 B0.2 _ B1.1
  have m9 := mc9 B0.2 _ B1.1
  have m10 := mc10 B0.2 _ B1.1
  have x0 : World.cell? _ ⟨_, 0, none⟩ = some (.int .i64 x.item) := (B1.2).at 0 rfl
  have x1 : World.cell? _ ⟨_, 1, none⟩ = some (.int .i64 x.frm) := (B1.2).at 1 rfl
  have x2 : World.cell? _ ⟨_, 2, none⟩ = some (.int .i64 x.to) := (B1.2).at 2 rfl
  have H := Lib.hid (show _ ∧ _ ∧ _ from ⟨B0.1.trans B1.1, B0.2.grow B1.1, B1.2⟩)
  clear B0 B1 hm hf
  unfold mcells moveV at H m0 m1 m2 m3 m4 m5 m6 m7 m8 m9 m10 x0 x1 x2 ⊢
  go_enter Tryz.func17, Tryz.ntmps17
  go_wp2_with fail
  clear m0 m1 m2 m3 m4 m5 m6 m7 m8 m9 m10 x0 x1 x2
  generalize w.heap.size + 1 = bx at H ⊢
  generalize w.heap.size = bm at H ⊢
  generalize (w.alloc _).alloc _ = W at H ⊢
  have G := Lib.hid (show Gr w W from H.out.1)
  have TM := Lib.hid (show Cells W bm (mcells P M) from H.out.2.1)
  have TX := Lib.hid (show Cells W bx (moveV x) from H.out.2.2)
  have HM := Lib.hid (HM0.out.grow G.out)
  clear H
  refine (ref_Valid23 W P M x HM.out HF.out).mono ?_
  rintro _ w1 ⟨r1, rfl, g1, h⟩
  have G := Lib.hid (G.out.trans g1)
  have TM := Lib.hid (TM.out.grow g1)
  have TX := Lib.hid (TX.out.grow g1)
  have HM := Lib.hid (HM.out.grow g1)
  clear g1
  rcases h.cases with ⟨rfl, k1⟩ | ⟨rfl, k1⟩
  rotate_left
  · have HV := Lib.hid k1
    clear h k1
    go_wp2_with fail
    try rw [Exit.noGoto_ret]
    go_ret
    exact ⟨_, rfl, G.out, 0, rfl, IsVal.zero HV.out⟩
  have HV := Lib.hid k1
  obtain ⟨hi1, hi2, it, hit, _, hok⟩ := k1.item
  clear h k1
  have HIT := Lib.hid hit
  have HOK := Lib.hid hok
  obtain ⟨k, hk⟩ : ∃ k : Nat, x.item = (k : Int) + 1 := ⟨(x.item - 1).toNat, by omega⟩
  rw [hk, show ((k : Int) + 1 - 1).toNat = k by omega] at hit
  obtain ⟨b, o, it', hpp, hit', hc⟩ := item_at HM.out.items rfl (show k < M.items.length by omega)
  obtain rfl : it = it' := Option.some.inj (hit.symm.trans hit')
  have HPP := Lib.hid hpp
  have hfew := HF.out.1
  have hlt' : (k : Int) < (M.items.length : Int) := by omega
  have hw1 : IntKind.i64.wrap ((k : Int) + 1 - 1) = (k : Int) := by rw [IntKind.wrap_i64]; omega
  have hww : IntKind.i64.wrap (k : Int) = (k : Int) := by rw [IntKind.wrap_i64]; omega
  have HC := Lib.hid hc
  have HMEM := Lib.hid (List.mem_of_getElem? hit)
  have HIK := Lib.hid hit
  have HK := Lib.hid hk
  clear hit hit' hc hi1 hi2 hok hk hpp
  by_cases h0 : x.to = 0
  · have e0 : (x.to == 0) = true := by simpa using h0
    have H0 := Lib.hid h0
    clear h0
    have x0 : World.cell? _ ⟨_, 0, none⟩ = some (.int .i64 x.item) := (TX.out).at 0 rfl
    have x1 : World.cell? _ ⟨_, 1, none⟩ = some (.int .i64 x.frm) := (TX.out).at 1 rfl
    have x2 : World.cell? _ ⟨_, 2, none⟩ = some (.int .i64 x.to) := (TX.out).at 2 rfl
    go_wp2_with fail
    try rw [Exit.noGoto_ret]
    go_ret
    exact ⟨_, rfl, G.out, 0, rfl, .inr ⟨HV.out, it, HIT.out, by unfold srcF; rw [if_pos H0.out]⟩⟩
  · have e0 : (x.to == 0) = false := by simpa using h0
    have H0 := Lib.hid h0
    clear h0
    have x0 : World.cell? _ ⟨_, 0, none⟩ = some (.int .i64 x.item) := (TX.out).at 0 rfl
    have x1 : World.cell? _ ⟨_, 1, none⟩ = some (.int .i64 x.frm) := (TX.out).at 1 rfl
    have x2 : World.cell? _ ⟨_, 2, none⟩ = some (.int .i64 x.to) := (TX.out).at 2 rfl
    go_wp2_with fail
    clear x0 x1 x2
    have g0 : Gr w1 w1.drew := (Gr.refl _).drew
    have y0 := fun w' (g : Gr w1 w') => (HC.out w' g).1
    have y1 := fun w' (g : Gr w1 w') => (HC.out w' g).2.1
    have y2 := fun w' (g : Gr w1 w') => (HC.out w' g).2.2.1
    have y3 := fun w' (g : Gr w1 w') => (HC.out w' g).2.2.2.1
    have y4 := fun w' (g : Gr w1 w') => (HC.out w' g).2.2.2.2.1
    have y5 := fun w' (g : Gr w1 w') => (HC.out w' g).2.2.2.2.2.1
    have y6 := fun w' (g : Gr w1 w') => (HC.out w' g).2.2.2.2.2.2
    have m5 := mc5 TM.out
    simp only [HPP.out] at m5
    have x0 : ∀ w', Gr w1 w' → w'.cell? ⟨bx, 0, none⟩ = some (.int .i64 x.item) := TX.out.c 0 rfl
    have x1 : ∀ w', Gr w1 w' → w'.cell? ⟨bx, 1, none⟩ = some (.int .i64 x.frm) := TX.out.c 1 rfl
    have x2 : ∀ w', Gr w1 w' → w'.cell? ⟨bx, 2, none⟩ = some (.int .i64 x.to) := TX.out.c 2 rfl
    rw [HK.out] at x0
    refine wp_region_fast [(0, true), (1, true), (2, true), (3, true), (4, true), (5, true), (6, true), (7, true), (8, true), (9, false), (10, true)] (by kernel_rfl) (by kernel_rfl) rfl (by kernel_rfl) (fun _ _ d _ _ h => by cases d <;> exact h) ?_
    repeat (first | (refine wpE_skip rfl rfl ?_; go_simp) | (refine wpE_readB (v := ?_) g0 rfl rfl (fun w' hg => ?_) (fun K hK => ?_); rotate_left; (go_simp; rfl); go_simp; refine hK _ _ ?_; clear hK K))
    refine wpE_fn (args := ?_) rfl rfl rfl rfl rfl rfl (by kernel_rfl) (by kernel_rfl) ?_ (fun K hK => ?_)
    rotate_left
    · go_simp; rfl
    refine (ref_source _ it x.frm (SlL.grow (HM.out.ons it HMEM.out) g0) (.inr HOK.out.2.1.1)).mono ?_
    rintro _ w2 ⟨_, rfl, g2, rfl⟩
    refine ⟨_, rfl, g2, ?_⟩
    go_simp
    refine hK _ _ ?_
    clear hK K
    replace g0 := g0.trans g2
    repeat (first | (refine wpE_skip rfl rfl ?_; go_simp) | (refine wpE_readB (v := ?_) g0 rfl rfl (fun w' hg => ?_) (fun K hK => ?_); rotate_left; (go_simp; rfl); go_simp; refine hK _ _ ?_; clear hK K))
    refine wpE_nil ?_
    have G := Lib.hid (G.out.trans g0)
    go_wp2_with fail
    go_ret
    exact ⟨_, rfl, G.out, _, rfl, .inr ⟨HV.out, it, HIT.out, by unfold srcF; rw [if_neg H0.out]; rfl⟩⟩
set_option maxRecDepth 100000 in
set_option maxHeartbeats 1600000 in
theorem ref_Duration23 (w : World) (P : Ptrs) (M : Mdl) (x : MvM) (hm : MdlAt w P M) (hf : Few M) :
    Calls Tryz.prog 19 #[.agg (mcells P M), .agg (moveV x)] w (Ret w fun r _ => ∃ z, r = .int .i64 z ∧ IsVal M x (durF x) z) := by
  have HM0 := Lib.hid hm
  have HF := Lib.hid hf
  have B0 := Cells.new w (mcells P M) 29
  have B1 := Cells.new (w.alloc (.cells (mcells P M) 29)) (moveV x) 31
  simp only [World.size_alloc] at B1
  have m0 := mc0 B0.2 _ B1.1
  have m1 := mc1 B0.2 _ B1.1
  have m2 := mc2 B0.2 _ B1.1
  have m3 := mc3 B0.2 _ B1.1
  have m4 := mc4 B0.2 _ B1.1
  have m5 := mc5 B0.2 _ B1.1
  have m6 := mc6 B0.2 _ B1.1
  have m7 := mc7 B0.2 _ B1.1
  have m8 := mc8 B0.2 _ B1.1
  have m9 := mc9 B0.2 _ B1.1
  have m10 := mc10 B0.2 _ B1.1
  have x0 : World.cell? _ ⟨_, 0, none⟩ = some (.int .i64 x.item) := (B1.2).at 0 rfl
  have x1 : World.cell? _ ⟨_, 1, none⟩ = some (.int .i64 x.frm) := (B1.2).at 1 rfl
  have x2 : World.cell? _ ⟨_, 2, none⟩ = some (.int .i64 x.to) := (B1.2).at 2 rfl
  have H := Lib.hid (show _ ∧ _ ∧ _ from ⟨B0.1.trans B1.1, B0.2.grow B1.1, B1.2⟩)
  clear B0 B1 hm hf
  unfold mcells moveV at H m0 m1 m2 m3 m4 m5 m6 m7 m8 m9 m10 x0 x1 x2 ⊢
  go_enter Tryz.func19, Tryz.ntmps19
  go_wp2_with fail
  clear m0 m1 m2 m3 m4 m5 m6 m7 m8 m9 m10 x0 x1 x2
  generalize w.heap.size + 1 = bx at H ⊢
  generalize w.heap.size = bm at H ⊢
  generalize (w.alloc _).alloc _ = W at H ⊢
  have G := Lib.hid (show Gr w W from H.out.1)
  have TM := Lib.hid (show Cells W bm (mcells P M) from H.out.2.1)
  have TX := Lib.hid (show Cells W bx (moveV x) from H.out.2.2)
  have HM := Lib.hid (HM0.out.grow G.out)
  clear H
  refine (ref_Valid23 W P M x HM.out HF.out).mono ?_
  rintro _ w1 ⟨r1, rfl, g1, h⟩
  have G := Lib.hid (G.out.trans g1)
  have TM := Lib.hid (TM.out.grow g1)
  have TX := Lib.hid (TX.out.grow g1)
  have HM := Lib.hid (HM.out.grow g1)
  clear g1
  rcases h.cases with ⟨rfl, k1⟩ | ⟨rfl, k1⟩
  rotate_left
  · have HV := Lib.hid k1
    clear h k1
    go_wp2_with fail
    try rw [Exit.noGoto_ret]
    go_ret
    exact ⟨_, rfl, G.out, 0, rfl, IsVal.zero HV.out⟩
  have HV := Lib.hid k1
  obtain ⟨hi1, hi2, it, hit, _, hok⟩ := k1.item
  clear h k1
  have HIT := Lib.hid hit
  have HOK := Lib.hid hok
  obtain ⟨k, hk⟩ : ∃ k : Nat, x.item = (k : Int) + 1 := ⟨(x.item - 1).toNat, by omega⟩
  rw [hk, show ((k : Int) + 1 - 1).toNat = k by omega] at hit
  obtain ⟨b, o, it', hpp, hit', hc⟩ := item_at HM.out.items rfl (show k < M.items.length by omega)
  obtain rfl : it = it' := Option.some.inj (hit.symm.trans hit')
  have HPP := Lib.hid hpp
  have hfew := HF.out.1
  have hlt' : (k : Int) < (M.items.length : Int) := by omega
  have hw1 : IntKind.i64.wrap ((k : Int) + 1 - 1) = (k : Int) := by rw [IntKind.wrap_i64]; omega
  have hww : IntKind.i64.wrap (k : Int) = (k : Int) := by rw [IntKind.wrap_i64]; omega
  have HC := Lib.hid hc
  have HMEM := Lib.hid (List.mem_of_getElem? hit)
  have HIK := Lib.hid hit
  have HK := Lib.hid hk
  clear hit hit' hc hi1 hi2 hok hk hpp
  have B2 := Cells.new w1 (itV it) 48
  have G := Lib.hid (G.out.trans B2.1)
  by_cases h0 : x.to = 0
  · have e0 : (x.to == 0) = true := by simpa using h0
    have H0 := Lib.hid h0
    clear h0
    have m5 := mc5 TM.out _ (Gr.refl _)
    simp only [HPP.out] at m5
    have x0 : World.cell? w1 ⟨_, 0, none⟩ = some (.int .i64 x.item) := (TX.out).at 0 rfl
    have x1 : World.cell? w1 ⟨_, 1, none⟩ = some (.int .i64 x.frm) := (TX.out).at 1 rfl
    have x2 : World.cell? w1 ⟨_, 2, none⟩ = some (.int .i64 x.to) := (TX.out).at 2 rfl
    rw [HK.out] at x0
    obtain ⟨y0, y1, y2, y3, y4, y5, y6⟩ := HC.out _ (Gr.refl _)
    have x2' := (TX.out.grow B2.1).at 2 rfl
    clear B2
    unfold itV moveV at *
    dsimp at x2'
    go_wp2_with fail
    try rw [Exit.noGoto_ret]
    go_ret
    exact ⟨_, rfl, G.out, 1, rfl, .inr ⟨HV.out, it, HIT.out, by unfold durF; rw [if_pos H0.out]⟩⟩
  · have e0 : (x.to == 0) = false := by simpa using h0
    have H0 := Lib.hid h0
    clear h0
    obtain ⟨_, _, _, hsz, hsh⟩ := HOK.out
    unfold Within at hsz hsh
    have hn0 : ¬ it.share = 0 := by omega
    have hw2 : IntKind.i64.wrap (it.size + it.share) = it.size + it.share := by rw [IntKind.wrap_i64]; omega
    have hw3 : IntKind.i64.wrap (it.size + it.share - 1) = it.size + it.share - 1 := by rw [IntKind.wrap_i64]; omega
    have HD := Lib.hid (show durF x it = max 1 ((it.size + it.share - 1) / it.share) from by unfold durF durM; rw [if_neg H0.out, Int.tdiv_eq_ediv_of_nonneg (by omega)])
    have m5 := mc5 TM.out _ (Gr.refl _)
    simp only [HPP.out] at m5
    have x0 : World.cell? w1 ⟨_, 0, none⟩ = some (.int .i64 x.item) := (TX.out).at 0 rfl
    have x1 : World.cell? w1 ⟨_, 1, none⟩ = some (.int .i64 x.frm) := (TX.out).at 1 rfl
    have x2 : World.cell? w1 ⟨_, 2, none⟩ = some (.int .i64 x.to) := (TX.out).at 2 rfl
    rw [HK.out] at x0
    obtain ⟨y0, y1, y2, y3, y4, y5, y6⟩ := HC.out _ (Gr.refl _)
    have x2' := (TX.out.grow B2.1).at 2 rfl
    have i4 : World.cell? _ ⟨_, 4, none⟩ = some (.int .i64 it.size) := B2.2.at 4 rfl
    have i5 : World.cell? _ ⟨_, 5, none⟩ = some (.int .i64 it.share) := B2.2.at 5 rfl
    clear B2
    unfold itV moveV at *
    dsimp at x2'
    go_wp2_with fail
    go_ret
    exact ⟨_, rfl, G.out, _, rfl, .inr ⟨HV.out, it, HIT.out, by rw [HD.out]⟩⟩
set_option maxRecDepth 100000 in
set_option maxHeartbeats 1600000 in
theorem ref_Link23 (w : World) (P : Ptrs) (M : Mdl) (x : MvM) (hm : MdlAt w P M) (hf : Few M) :
    Calls Tryz.prog 21 #[.agg (mcells P M), .agg (moveV x)] w (Ret w fun r _ => ∃ z, r = .int .i64 z ∧ IsVal M x (linkF M x) z) := by
  have HM0 := Lib.hid hm
  have HF := Lib.hid hf
  have B0 := Cells.new w (mcells P M) 29
  have B1 := Cells.new (w.alloc (.cells (mcells P M) 29)) (moveV x) 31
  simp only [World.size_alloc] at B1
  have m0 := mc0 B0.2 _ B1.1
  have m1 := mc1 B0.2 _ B1.1
  have m2 := mc2 B0.2 _ B1.1
  have m3 := mc3 B0.2 _ B1.1
  have m4 := mc4 B0.2 _ B1.1
  have m5 := mc5 B0.2 _ B1.1
  have m6 := mc6 B0.2 _ B1.1
  have m7 := mc7 B0.2 _ B1.1
  have m8 := mc8 B0.2 _ B1.1
  have m9 := mc9 B0.2 _ B1.1
  have m10 := mc10 B0.2 _ B1.1
  have x0 : World.cell? _ ⟨_, 0, none⟩ = some (.int .i64 x.item) := (B1.2).at 0 rfl
  have x1 : World.cell? _ ⟨_, 1, none⟩ = some (.int .i64 x.frm) := (B1.2).at 1 rfl
  have x2 : World.cell? _ ⟨_, 2, none⟩ = some (.int .i64 x.to) := (B1.2).at 2 rfl
  have H := Lib.hid (show _ ∧ _ ∧ _ from ⟨B0.1.trans B1.1, B0.2.grow B1.1, B1.2⟩)
  clear B0 B1 hm hf
  unfold mcells moveV at H m0 m1 m2 m3 m4 m5 m6 m7 m8 m9 m10 x0 x1 x2 ⊢
  go_enter Tryz.func21, Tryz.ntmps21
  go_wp2_with fail
  clear m0 m1 m2 m3 m4 m5 m6 m7 m8 m9 m10 x0 x1 x2
  generalize w.heap.size + 1 = bx at H ⊢
  generalize w.heap.size = bm at H ⊢
  generalize (w.alloc _).alloc _ = W at H ⊢
  have G := Lib.hid (show Gr w W from H.out.1)
  have TM := Lib.hid (show Cells W bm (mcells P M) from H.out.2.1)
  have TX := Lib.hid (show Cells W bx (moveV x) from H.out.2.2)
  have HM := Lib.hid (HM0.out.grow G.out)
  clear H
  refine (ref_Valid23 W P M x HM.out HF.out).mono ?_
  rintro _ w1 ⟨r1, rfl, g1, h⟩
  have G := Lib.hid (G.out.trans g1)
  have TM := Lib.hid (TM.out.grow g1)
  have TX := Lib.hid (TX.out.grow g1)
  have HM := Lib.hid (HM.out.grow g1)
  clear g1
  rcases h.cases with ⟨rfl, k1⟩ | ⟨rfl, k1⟩
  rotate_left
  · have HV := Lib.hid k1
    clear h k1
    go_wp2_with fail
    try rw [Exit.noGoto_ret]
    go_ret
    exact ⟨_, rfl, G.out, 0, rfl, IsVal.zero HV.out⟩
  have HV := Lib.hid k1
  obtain ⟨hi1, hi2, it, hit, _, hok⟩ := k1.item
  clear h k1
  have HIT := Lib.hid hit
  have HOK := Lib.hid hok
  obtain ⟨k, hk⟩ : ∃ k : Nat, x.item = (k : Int) + 1 := ⟨(x.item - 1).toNat, by omega⟩
  rw [hk, show ((k : Int) + 1 - 1).toNat = k by omega] at hit
  obtain ⟨b, o, it', hpp, hit', hc⟩ := item_at HM.out.items rfl (show k < M.items.length by omega)
  obtain rfl : it = it' := Option.some.inj (hit.symm.trans hit')
  have HPP := Lib.hid hpp
  have hfew := HF.out.1
  have hlt' : (k : Int) < (M.items.length : Int) := by omega
  have hw1 : IntKind.i64.wrap ((k : Int) + 1 - 1) = (k : Int) := by rw [IntKind.wrap_i64]; omega
  have hww : IntKind.i64.wrap (k : Int) = (k : Int) := by rw [IntKind.wrap_i64]; omega
  have HC := Lib.hid hc
  have HMEM := Lib.hid (List.mem_of_getElem? hit)
  have HIK := Lib.hid hit
  have HK := Lib.hid hk
  clear hit hit' hc hi1 hi2 hok hk hpp
  by_cases h0 : x.to = 0
  · have e0 : (x.to == 0) = true := by simpa using h0
    have H0 := Lib.hid h0
    clear h0
    have x0 : World.cell? _ ⟨_, 0, none⟩ = some (.int .i64 x.item) := (TX.out).at 0 rfl
    have x1 : World.cell? _ ⟨_, 1, none⟩ = some (.int .i64 x.frm) := (TX.out).at 1 rfl
    have x2 : World.cell? _ ⟨_, 2, none⟩ = some (.int .i64 x.to) := (TX.out).at 2 rfl
    go_wp2_with fail
    try rw [Exit.noGoto_ret]
    go_ret
    exact ⟨_, rfl, G.out, 0, rfl, .inr ⟨HV.out, it, HIT.out, by unfold linkF apartM; rw [H0.out]; simp⟩⟩
  · have e0 : (x.to == 0) = false := by simpa using h0
    have H0 := Lib.hid h0
    clear h0
    have m0 := mc0 TM.out _ (Gr.refl _)
    have m1 := mc1 TM.out _ (Gr.refl _)
    have m2 := mc2 TM.out _ (Gr.refl _)
    have m3 := mc3 TM.out _ (Gr.refl _)
    have m4 := mc4 TM.out _ (Gr.refl _)
    have m5 := mc5 TM.out _ (Gr.refl _)
    have m6 := mc6 TM.out _ (Gr.refl _)
    have m7 := mc7 TM.out _ (Gr.refl _)
    have m8 := mc8 TM.out _ (Gr.refl _)
    have m9 := mc9 TM.out _ (Gr.refl _)
    have m10 := mc10 TM.out _ (Gr.refl _)
    have x0 : World.cell? _ ⟨_, 0, none⟩ = some (.int .i64 x.item) := (TX.out).at 0 rfl
    have x1 : World.cell? _ ⟨_, 1, none⟩ = some (.int .i64 x.frm) := (TX.out).at 1 rfl
    have x2 : World.cell? _ ⟨_, 2, none⟩ = some (.int .i64 x.to) := (TX.out).at 2 rfl
    rw [HK.out] at x0
    go_wp2_with fail
    clear m0 m1 m2 m3 m4 m5 m6 m7 m8 m9 m10
    clear x0 x1 x2
    refine (ref_crosses w1 P M k x.frm x.to it HM.out HF.out HIK.out (.inr HOK.out.2.1.1)).mono ?_
    rintro _ w2 ⟨_, rfl, g2, rfl⟩
    rw [cross_apart H0.out]
    have G := Lib.hid (G.out.trans g2)
    have TM := Lib.hid (TM.out.grow g2)
    have TX := Lib.hid (TX.out.grow g2)
    have HM := Lib.hid (HM.out.grow g2)
    clear g2
    obtain ⟨t, ht⟩ : ∃ t, apartM M x it = t := ⟨_, rfl⟩
    rw [ht]
    have HTA := Lib.hid ht
    clear ht
    cases t
    · go_wp2_with fail
      try rw [Exit.noGoto_ret]
      go_ret
      exact ⟨_, rfl, G.out, 0, rfl, .inr ⟨HV.out, it, HIT.out, by unfold linkF; rw [HTA.out]; rfl⟩⟩
    · have m0 := mc0 TM.out _ (Gr.refl _)
      have m1 := mc1 TM.out _ (Gr.refl _)
      have m2 := mc2 TM.out _ (Gr.refl _)
      have m3 := mc3 TM.out _ (Gr.refl _)
      have m4 := mc4 TM.out _ (Gr.refl _)
      have m5 := mc5 TM.out _ (Gr.refl _)
      have m6 := mc6 TM.out _ (Gr.refl _)
      have m7 := mc7 TM.out _ (Gr.refl _)
      have m8 := mc8 TM.out _ (Gr.refl _)
      have m9 := mc9 TM.out _ (Gr.refl _)
      have m10 := mc10 TM.out _ (Gr.refl _)
      have x0 : World.cell? _ ⟨_, 0, none⟩ = some (.int .i64 x.item) := (TX.out).at 0 rfl
      have x1 : World.cell? _ ⟨_, 1, none⟩ = some (.int .i64 x.frm) := (TX.out).at 1 rfl
      have x2 : World.cell? _ ⟨_, 2, none⟩ = some (.int .i64 x.to) := (TX.out).at 2 rfl
      rw [HK.out] at x0
      go_wp2_with fail
      clear m0 m1 m2 m3 m4 m5 m6 m7 m8 m9 m10
      clear x0 x1 x2
      refine (ref_link w2 P M k x.frm x.to it HM.out HF.out HIK.out (.inr HOK.out.2.1.1)).mono ?_
      rintro _ w3 ⟨_, rfl, g3, rfl⟩
      have G := Lib.hid (G.out.trans g3)
      go_wp2_with fail
      go_ret
      exact ⟨_, rfl, G.out, _, rfl, .inr ⟨HV.out, it, HIT.out, by unfold linkF linkOf; rw [HTA.out, if_pos rfl]; rfl⟩⟩
set_option maxRecDepth 100000 in
set_option maxHeartbeats 1600000 in
theorem ref_Use23 (w : World) (P : Ptrs) (M : Mdl) (x : MvM) (hm : MdlAt w P M) (hf : Few M) :
    Calls Tryz.prog 23 #[.agg (mcells P M), .agg (moveV x)] w (Ret w fun r _ => ∃ z, r = .int .i64 z ∧ IsVal M x (useF M x) z) := by
  have HM0 := Lib.hid hm
  have HF := Lib.hid hf
  have B0 := Cells.new w (mcells P M) 29
  have B1 := Cells.new (w.alloc (.cells (mcells P M) 29)) (moveV x) 31
  simp only [World.size_alloc] at B1
  have m0 := mc0 B0.2 _ B1.1
  have m1 := mc1 B0.2 _ B1.1
  have m2 := mc2 B0.2 _ B1.1
  have m3 := mc3 B0.2 _ B1.1
  have m4 := mc4 B0.2 _ B1.1
  have m5 := mc5 B0.2 _ B1.1
  have m6 := mc6 B0.2 _ B1.1
  have m7 := mc7 B0.2 _ B1.1
  have m8 := mc8 B0.2 _ B1.1
  have m9 := mc9 B0.2 _ B1.1
  have m10 := mc10 B0.2 _ B1.1
  have x0 : World.cell? _ ⟨_, 0, none⟩ = some (.int .i64 x.item) := (B1.2).at 0 rfl
  have x1 : World.cell? _ ⟨_, 1, none⟩ = some (.int .i64 x.frm) := (B1.2).at 1 rfl
  have x2 : World.cell? _ ⟨_, 2, none⟩ = some (.int .i64 x.to) := (B1.2).at 2 rfl
  have H := Lib.hid (show _ ∧ _ ∧ _ from ⟨B0.1.trans B1.1, B0.2.grow B1.1, B1.2⟩)
  clear B0 B1 hm hf
  unfold mcells moveV at H m0 m1 m2 m3 m4 m5 m6 m7 m8 m9 m10 x0 x1 x2 ⊢
  go_enter Tryz.func23, Tryz.ntmps23
  go_wp2_with fail
  clear m0 m1 m2 m3 m4 m5 m6 m7 m8 m9 m10 x0 x1 x2
  generalize w.heap.size + 1 = bx at H ⊢
  generalize w.heap.size = bm at H ⊢
  generalize (w.alloc _).alloc _ = W at H ⊢
  have G := Lib.hid (show Gr w W from H.out.1)
  have TM := Lib.hid (show Cells W bm (mcells P M) from H.out.2.1)
  have TX := Lib.hid (show Cells W bx (moveV x) from H.out.2.2)
  have HM := Lib.hid (HM0.out.grow G.out)
  clear H
  refine (ref_Link23 W P M x HM.out HF.out).mono ?_
  rintro _ w1 ⟨_, rfl, g1, z, rfl, hz⟩
  have G := Lib.hid (G.out.trans g1)
  have TM := Lib.hid (TM.out.grow g1)
  have TX := Lib.hid (TX.out.grow g1)
  have HM := Lib.hid (HM.out.grow g1)
  clear g1
  have HZ := Lib.hid hz
  clear hz
  by_cases h0 : z = 0
  · subst h0
    go_wp2_with fail
    try rw [Exit.noGoto_ret]
    go_ret
    exact ⟨_, rfl, G.out, 0, rfl, use_zero HZ.out⟩
  · have e0 : (z == 0) = false := by simpa using h0
    have H0 := Lib.hid h0
    have hok : MoveOK M x := by
      rcases HZ.out with ⟨_, h⟩ | ⟨h, _⟩
      · exact absurd h h0
      · exact h
    clear h0
    have HV := Lib.hid hok
    obtain ⟨hi1, hi2, it, hit, _, _⟩ := hok.item
    have HIT := Lib.hid hit
    obtain ⟨k, hk⟩ : ∃ k : Nat, x.item = (k : Int) + 1 := ⟨(x.item - 1).toNat, by omega⟩
    rw [hk, show ((k : Int) + 1 - 1).toNat = k by omega] at hit
    obtain ⟨b, o, it', hpp, hit', hc⟩ := item_at HM.out.items rfl (show k < M.items.length by omega)
    obtain rfl : it = it' := Option.some.inj (hit.symm.trans hit')
    have HPP := Lib.hid hpp
    have hfew := HF.out.1
    have hlt' : (k : Int) < (M.items.length : Int) := by omega
    have hw1 : IntKind.i64.wrap ((k : Int) + 1 - 1) = (k : Int) := by rw [IntKind.wrap_i64]; omega
    have hww : IntKind.i64.wrap (k : Int) = (k : Int) := by rw [IntKind.wrap_i64]; omega
    have HC := Lib.hid hc
    have HK := Lib.hid hk
    clear hit hit' hc hi1 hi2 hok hk hpp
    go_wp2_with fail
    have g0 : Gr w1 w1.drew := (Gr.refl _).drew
    have y0 := fun w' (g : Gr w1 w') => (HC.out w' g).1
    have y1 := fun w' (g : Gr w1 w') => (HC.out w' g).2.1
    have y2 := fun w' (g : Gr w1 w') => (HC.out w' g).2.2.1
    have y3 := fun w' (g : Gr w1 w') => (HC.out w' g).2.2.2.1
    have y4 := fun w' (g : Gr w1 w') => (HC.out w' g).2.2.2.2.1
    have y5 := fun w' (g : Gr w1 w') => (HC.out w' g).2.2.2.2.2.1
    have y6 := fun w' (g : Gr w1 w') => (HC.out w' g).2.2.2.2.2.2
    have m5 := mc5 TM.out
    simp only [HPP.out] at m5
    have x0 : ∀ w', Gr w1 w' → w'.cell? ⟨bx, 0, none⟩ = some (.int .i64 x.item) := TX.out.c 0 rfl
    have x1 : ∀ w', Gr w1 w' → w'.cell? ⟨bx, 1, none⟩ = some (.int .i64 x.frm) := TX.out.c 1 rfl
    have x2 : ∀ w', Gr w1 w' → w'.cell? ⟨bx, 2, none⟩ = some (.int .i64 x.to) := TX.out.c 2 rfl
    rw [HK.out] at x0
    refine wp_region_fast [(0, true), (1, true), (2, true), (3, true), (4, true), (5, true), (6, true), (7, true), (8, true), (9, true), (10, true), (11, true), (12, true), (13, true), (14, true), (15, true), (16, true), (17, true)] (by kernel_rfl) (by kernel_rfl) rfl (by kernel_rfl) (fun _ _ d _ _ h => by cases d <;> exact h) ?_
    repeat (first | (refine wpE_skip rfl rfl ?_; go_simp) | (refine wpE_readB (v := ?_) g0 rfl rfl (fun w' hg => ?_) (fun K hK => ?_); rotate_left; (go_simp; rfl); go_simp; refine hK _ _ ?_; clear hK K))
    refine wpE_nil ?_
    have G := Lib.hid (G.out.trans g0)
    go_wp2_with fail
    go_ret
    exact ⟨_, rfl, G.out, _, rfl, use_some HZ.out H0.out (.inr ⟨HV.out, it, HIT.out, rfl⟩)⟩
end Go.Proofs.YtdekicijinmakaaGreatDoor

/-
  The laws MovesValid, MovesParts, MovesCandidates.
  The law MovesOrder.
  The law MovesCarry.
-/
import Derived.Test.YtdekicijinmakaaGreatDoorMvn
import Derived.Test.YtdekicijinmakaaGreatDoorOpen
namespace Go.Proofs.YtdekicijinmakaaGreatDoor
open Go.RowKit Go.Lib Lex
set_option linter.unusedVariables false
set_option linter.unusedSimpArgs false

set_option maxRecDepth 100000 in
set_option maxHeartbeats 1600000 in
theorem law_MovesValid (w : World) (ht : Tab w) (P : Ptrs) (M : Mdl) (hm : MdlAt w P M) (hr : MdlR M) (x : MvM) (hxr : I64 x.item ∧ I64 x.frm ∧ I64 x.to) :
    Calls Tryz.prog 3 #[.agg (mcells P M), .agg (moveV x)] w (Ret w fun r _ => r = .bool true) := by
  have HT := Lib.hid ht
  have hf : True := trivial
  clear ht
  have HM0 := Lib.hid hm
  have HF := Lib.hid hf
  have B0 := Cells.new w (mcells P M) 29
  have B1 := Cells.new (w.alloc (.cells (mcells P M) 29)) (moveV x) 31
  simp only [World.size_alloc] at B1
  have m0 := mc0 B0.2 _ B1.1
  have m1 := mc1 B0.2 _ B1.1
  have m2 := mc2 B0.2 _ B1.1
  have m3 := mc3 B0.2 _ B1.1
  have m4 := mc4 B0.2 _ B1.1
  have m5 := mc5 B0.2 _ B1.1
  have m6 := mc6 B0.2 _ B1.1
  have m7 := mc7 B0.2 _ B1.1
  have m8 := mc8 B0.2 _ B1.1
  have m9 := mc9 B0.2 _ B1.1
  have m10 := mc10 B0.2 _ B1.1
  have x0 : World.cell? _ ⟨_, 0, none⟩ = some (.int .i64 x.item) := (B1.2).at 0 rfl
  have x1 : World.cell? _ ⟨_, 1, none⟩ = some (.int .i64 x.frm) := (B1.2).at 1 rfl
  have x2 : World.cell? _ ⟨_, 2, none⟩ = some (.int .i64 x.to) := (B1.2).at 2 rfl
  have H := Lib.hid (show _ ∧ _ ∧ _ from ⟨B0.1.trans B1.1, B0.2.grow B1.1, B1.2⟩)
  clear B0 B1 hm hf
  unfold mcells moveV at H m0 m1 m2 m3 m4 m5 m6 m7 m8 m9 m10 x0 x1 x2 ⊢
  go_enter Tryz.func3, Tryz.ntmps3
  go_wp2_with fail
  clear m0 m1 m2 m3 m4 m5 m6 m7 m8 m9 m10 x0 x1 x2
  generalize w.heap.size + 1 = bx at H ⊢
  generalize w.heap.size = bm at H ⊢
  generalize (w.alloc _).alloc _ = W at H ⊢
  have G := Lib.hid (show Gr w W from H.out.1)
  have TM := Lib.hid (show Cells W bm (mcells P M) from H.out.2.1)
  have TX := Lib.hid (show Cells W bx (moveV x) from H.out.2.2)
  have HM := Lib.hid (HM0.out.grow G.out)
  clear H
  clear HF
  have HT := Lib.hid (HT.out.grow G.out)
  refine (law23_awake W HT.out).mono ?_
  rintro _ w1 ⟨_, rfl, g1, rfl⟩
  have G := Lib.hid (G.out.trans g1)
  have TM := Lib.hid (TM.out.grow g1)
  have TX := Lib.hid (TX.out.grow g1)
  have HM := Lib.hid (HM.out.grow g1)
  have HT := Lib.hid (HT.out.grow g1)
  clear g1
  have m0 := mc0 TM.out _ (Gr.refl _)
  have m1 := mc1 TM.out _ (Gr.refl _)
  have m2 := mc2 TM.out _ (Gr.refl _)
  have m3 := mc3 TM.out _ (Gr.refl _)
  have m4 := mc4 TM.out _ (Gr.refl _)
  have m5 := mc5 TM.out _ (Gr.refl _)
  have m6 := mc6 TM.out _ (Gr.refl _)
  have m7 := mc7 TM.out _ (Gr.refl _)
  have m8 := mc8 TM.out _ (Gr.refl _)
  have m9 := mc9 TM.out _ (Gr.refl _)
  have m10 := mc10 TM.out _ (Gr.refl _)
  have x0 : World.cell? _ ⟨_, 0, none⟩ = some (.int .i64 x.item) := (TX.out).at 0 rfl
  have x1 : World.cell? _ ⟨_, 1, none⟩ = some (.int .i64 x.frm) := (TX.out).at 1 rfl
  have x2 : World.cell? _ ⟨_, 2, none⟩ = some (.int .i64 x.to) := (TX.out).at 2 rfl
  go_wp2_with fail
  clear m0 m1 m2 m3 m4 m5 m6 m7 m8 m9 m10
  clear x0 x1 x2
  have g0 : Gr w1 w1.drew := (Gr.refl _).drew
  have m0 := mc0 TM.out
  have m1 := mc1 TM.out
  have m2 := mc2 TM.out
  have m3 := mc3 TM.out
  have m4 := mc4 TM.out
  have m5 := mc5 TM.out
  have m6 := mc6 TM.out
  have m7 := mc7 TM.out
  have m8 := mc8 TM.out
  have m9 := mc9 TM.out
  have m10 := mc10 TM.out
  try dsimp only at m0 m1 m2 m3 m4 m5 m6 m7 m8 m9 m10
  have x0 : ∀ w', Gr w1 w' → w'.cell? ⟨bx, 0, none⟩ = some (.int .i64 x.item) := TX.out.c 0 rfl
  have x1 : ∀ w', Gr w1 w' → w'.cell? ⟨bx, 1, none⟩ = some (.int .i64 x.frm) := TX.out.c 1 rfl
  have x2 : ∀ w', Gr w1 w' → w'.cell? ⟨bx, 2, none⟩ = some (.int .i64 x.to) := TX.out.c 2 rfl
  refine wp_region_fast [(0, true), (1, false), (2, true), (3, true), (4, true), (5, true), (7, true), (8, true), (6, false), (9, false), (10, true), (11, true), (12, true), (13, true), (15, true), (16, true), (14, false), (17, false), (18, true), (19, true), (20, true), (21, true)] (by kernel_rfl) (by kernel_rfl) rfl (by kernel_rfl) (fun _ _ d _ _ h => by cases d <;> exact h) ?_
  repeat (refine wpE_readB (v := ?_) g0 rfl rfl (fun w' hg => ?_) (fun K hK => ?_); rotate_left; (go_simp; rfl); go_simp; refine hK _ _ ?_; clear hK K)
  refine wpE_fn (args := ?_) rfl rfl rfl rfl rfl rfl (by kernel_rfl) (by kernel_rfl) ?_ (fun K hK => ?_)
  rotate_left
  · go_simp; rfl
  refine (ref_Few _ P M (HM.out.grow g0)).mono ?_
  rintro _ w2 ⟨r2, rfl, g2, h⟩
  refine ⟨_, rfl, g2, ?_⟩
  go_simp
  refine hK _ _ ?_
  clear hK K
  replace g0 := g0.trans g2
  rcases h.cases with ⟨rfl, k1⟩ | ⟨rfl, k1⟩
  rotate_left
  · clear h k1
    repeat (first | (refine wpE_skip rfl rfl ?_; go_simp) | (refine wpE_readB (v := ?_) g0 rfl rfl (fun w' hg => ?_) (fun K hK => ?_); rotate_left; (go_simp; rfl); go_simp; refine hK _ _ ?_; clear hK K))
    refine wpE_nil ?_
    have G := Lib.hid (G.out.trans g0)
    go_wp2_with fail
    go_ret
    exact ⟨_, rfl, G.out, rfl⟩
  have HF := Lib.hid k1
  clear h k1
  repeat (first | (refine wpE_skip rfl rfl ?_; go_simp) | (refine wpE_readB (v := ?_) g0 rfl rfl (fun w' hg => ?_) (fun K hK => ?_); rotate_left; (go_simp; rfl); go_simp; refine hK _ _ ?_; clear hK K))
  refine wpE_fn (args := ?_) rfl rfl rfl rfl rfl rfl (by kernel_rfl) (by kernel_rfl) ?_ (fun K hK => ?_)
  rotate_left
  · go_simp; rfl
  refine (mv_Valid _ P M x (HM.out.grow g0) HF.out (HT.out.grow g0)).mono ?_
  rintro _ w3 ⟨r3, rfl, g3, h3⟩
  refine ⟨_, rfl, g3, ?_⟩
  go_simp
  refine hK _ _ ?_
  clear hK K
  replace g0 := g0.trans g3
  obtain ⟨t3, rfl, k3⟩ := h3
  repeat (first | (refine wpE_skip rfl rfl ?_; go_simp) | (refine wpE_readB (v := ?_) g0 rfl rfl (fun w' hg => ?_) (fun K hK => ?_); rotate_left; (go_simp; rfl); go_simp; refine hK _ _ ?_; clear hK K))
  refine wpE_fn (args := ?_) rfl rfl rfl rfl rfl rfl (by kernel_rfl) (by kernel_rfl) ?_ (fun K hK => ?_)
  rotate_left
  · go_simp; rfl
  refine (ref_Valid23 _ P M x (HM.out.grow g0) HF.out).mono ?_
  rintro _ w4 ⟨r4, rfl, g4, h4⟩
  refine ⟨_, rfl, g4, ?_⟩
  go_simp
  refine hK _ _ ?_
  clear hK K
  replace g0 := g0.trans g4
  obtain ⟨t4, rfl, k4⟩ := h4
  obtain rfl : t3 = t4 := Bool.eq_iff_iff.2 (k3.trans k4.symm)
  clear k3 k4
  have hb : (t3 == t3) = true := by simp
  repeat (first | (refine wpE_skip rfl rfl ?_; go_simp) | (refine wpE_readB (v := ?_) g0 rfl rfl (fun w' hg => ?_) (fun K hK => ?_); rotate_left; (go_simp; rfl); go_simp; refine hK _ _ ?_; clear hK K))
  refine wpE_fn (args := ?_) rfl rfl rfl rfl rfl rfl (by kernel_rfl) (by kernel_rfl) ?_ (fun K hK => ?_)
  rotate_left
  · go_simp; rfl
  refine (mv_Text _ P M x (HM.out.grow g0) HF.out (HT.out.grow g0)).mono ?_
  rintro _ w5 ⟨_, rfl, g5, z5, rfl, hz5⟩
  refine ⟨_, rfl, g5, ?_⟩
  go_simp
  refine hK _ _ ?_
  clear hK K
  replace g0 := g0.trans g5
  repeat (first | (refine wpE_skip rfl rfl ?_; go_simp) | (refine wpE_readB (v := ?_) g0 rfl rfl (fun w' hg => ?_) (fun K hK => ?_); rotate_left; (go_simp; rfl); go_simp; refine hK _ _ ?_; clear hK K))
  refine wpE_fn (args := ?_) rfl rfl rfl rfl rfl rfl (by kernel_rfl) (by kernel_rfl) ?_ (fun K hK => ?_)
  rotate_left
  · go_simp; rfl
  refine (ref_Text _ P M x (HM.out.grow g0) HF.out).mono ?_
  rintro _ w6 ⟨_, rfl, g6, z6, rfl, hz6⟩
  refine ⟨_, rfl, g6, ?_⟩
  go_simp
  refine hK _ _ ?_
  clear hK K
  replace g0 := g0.trans g6
  obtain rfl : z5 = z6 := isText_one hz5 hz6
  clear hz5 hz6
  repeat (first | (refine wpE_skip rfl rfl ?_; go_simp) | (refine wpE_readB (v := ?_) g0 rfl rfl (fun w' hg => ?_) (fun K hK => ?_); rotate_left; (go_simp; rfl); go_simp; refine hK _ _ ?_; clear hK K))
  refine wpE_nil ?_
  have G := Lib.hid (G.out.trans g0)
  go_wp2_with fail
  go_ret
  exact ⟨_, rfl, G.out, rfl⟩
set_option maxRecDepth 100000 in
set_option maxHeartbeats 1600000 in
theorem law_MovesParts (w : World) (ht : Tab w) (P : Ptrs) (M : Mdl) (hm : MdlAt w P M) (hr : MdlR M) (x : MvM) (hxr : I64 x.item ∧ I64 x.frm ∧ I64 x.to) :
    Calls Tryz.prog 4 #[.agg (mcells P M), .agg (moveV x)] w (Ret w fun r _ => r = .bool true) := by
  have HT := Lib.hid ht
  have hf : True := trivial
  clear ht
  have HM0 := Lib.hid hm
  have HF := Lib.hid hf
  have B0 := Cells.new w (mcells P M) 29
  have B1 := Cells.new (w.alloc (.cells (mcells P M) 29)) (moveV x) 31
  simp only [World.size_alloc] at B1
  have m0 := mc0 B0.2 _ B1.1
  have m1 := mc1 B0.2 _ B1.1
  have m2 := mc2 B0.2 _ B1.1
  have m3 := mc3 B0.2 _ B1.1
  have m4 := mc4 B0.2 _ B1.1
  have m5 := mc5 B0.2 _ B1.1
  have m6 := mc6 B0.2 _ B1.1
  have m7 := mc7 B0.2 _ B1.1
  have m8 := mc8 B0.2 _ B1.1
  have m9 := mc9 B0.2 _ B1.1
  have m10 := mc10 B0.2 _ B1.1
  have x0 : World.cell? _ ⟨_, 0, none⟩ = some (.int .i64 x.item) := (B1.2).at 0 rfl
  have x1 : World.cell? _ ⟨_, 1, none⟩ = some (.int .i64 x.frm) := (B1.2).at 1 rfl
  have x2 : World.cell? _ ⟨_, 2, none⟩ = some (.int .i64 x.to) := (B1.2).at 2 rfl
  have H := Lib.hid (show _ ∧ _ ∧ _ from ⟨B0.1.trans B1.1, B0.2.grow B1.1, B1.2⟩)
  clear B0 B1 hm hf
  unfold mcells moveV at H m0 m1 m2 m3 m4 m5 m6 m7 m8 m9 m10 x0 x1 x2 ⊢
  go_enter Tryz.func4, Tryz.ntmps4
  go_wp2_with fail
  clear m0 m1 m2 m3 m4 m5 m6 m7 m8 m9 m10 x0 x1 x2
  generalize w.heap.size + 1 = bx at H ⊢
  generalize w.heap.size = bm at H ⊢
  generalize (w.alloc _).alloc _ = W at H ⊢
  have G := Lib.hid (show Gr w W from H.out.1)
  have TM := Lib.hid (show Cells W bm (mcells P M) from H.out.2.1)
  have TX := Lib.hid (show Cells W bx (moveV x) from H.out.2.2)
  have HM := Lib.hid (HM0.out.grow G.out)
  clear H
  clear HF
  have HT := Lib.hid (HT.out.grow G.out)
  refine (law23_awake W HT.out).mono ?_
  rintro _ w1 ⟨_, rfl, g1, rfl⟩
  have G := Lib.hid (G.out.trans g1)
  have TM := Lib.hid (TM.out.grow g1)
  have TX := Lib.hid (TX.out.grow g1)
  have HM := Lib.hid (HM.out.grow g1)
  have HT := Lib.hid (HT.out.grow g1)
  clear g1
  have m0 := mc0 TM.out _ (Gr.refl _)
  have m1 := mc1 TM.out _ (Gr.refl _)
  have m2 := mc2 TM.out _ (Gr.refl _)
  have m3 := mc3 TM.out _ (Gr.refl _)
  have m4 := mc4 TM.out _ (Gr.refl _)
  have m5 := mc5 TM.out _ (Gr.refl _)
  have m6 := mc6 TM.out _ (Gr.refl _)
  have m7 := mc7 TM.out _ (Gr.refl _)
  have m8 := mc8 TM.out _ (Gr.refl _)
  have m9 := mc9 TM.out _ (Gr.refl _)
  have m10 := mc10 TM.out _ (Gr.refl _)
  have x0 : World.cell? _ ⟨_, 0, none⟩ = some (.int .i64 x.item) := (TX.out).at 0 rfl
  have x1 : World.cell? _ ⟨_, 1, none⟩ = some (.int .i64 x.frm) := (TX.out).at 1 rfl
  have x2 : World.cell? _ ⟨_, 2, none⟩ = some (.int .i64 x.to) := (TX.out).at 2 rfl
  go_wp2_with fail
  clear m0 m1 m2 m3 m4 m5 m6 m7 m8 m9 m10
  clear x0 x1 x2
  have g0 : Gr w1 w1.drew := (Gr.refl _).drew
  have m0 := mc0 TM.out
  have m1 := mc1 TM.out
  have m2 := mc2 TM.out
  have m3 := mc3 TM.out
  have m4 := mc4 TM.out
  have m5 := mc5 TM.out
  have m6 := mc6 TM.out
  have m7 := mc7 TM.out
  have m8 := mc8 TM.out
  have m9 := mc9 TM.out
  have m10 := mc10 TM.out
  try dsimp only at m0 m1 m2 m3 m4 m5 m6 m7 m8 m9 m10
  have x0 : ∀ w', Gr w1 w' → w'.cell? ⟨bx, 0, none⟩ = some (.int .i64 x.item) := TX.out.c 0 rfl
  have x1 : ∀ w', Gr w1 w' → w'.cell? ⟨bx, 1, none⟩ = some (.int .i64 x.frm) := TX.out.c 1 rfl
  have x2 : ∀ w', Gr w1 w' → w'.cell? ⟨bx, 2, none⟩ = some (.int .i64 x.to) := TX.out.c 2 rfl
  refine wp_region_fast [(0, true), (1, false), (2, true), (3, true), (4, true), (5, true), (7, true), (8, true), (6, false), (9, false), (10, true), (11, true), (12, true), (13, true), (15, true), (16, true), (14, false), (17, false), (18, true), (19, true), (20, true), (21, true), (22, true), (24, true), (25, true), (23, false), (26, false), (27, true), (28, true), (29, true), (30, true), (31, true), (33, true), (34, true), (32, false), (35, false), (36, true), (37, true), (38, true), (39, true)] (by kernel_rfl) (by kernel_rfl) rfl (by kernel_rfl) (fun _ _ d _ _ h => by cases d <;> exact h) ?_
  repeat (refine wpE_readB (v := ?_) g0 rfl rfl (fun w' hg => ?_) (fun K hK => ?_); rotate_left; (go_simp; rfl); go_simp; refine hK _ _ ?_; clear hK K)
  refine wpE_fn (args := ?_) rfl rfl rfl rfl rfl rfl (by kernel_rfl) (by kernel_rfl) ?_ (fun K hK => ?_)
  rotate_left
  · go_simp; rfl
  refine (ref_Few _ P M (HM.out.grow g0)).mono ?_
  rintro _ w2 ⟨r2, rfl, g2, h⟩
  refine ⟨_, rfl, g2, ?_⟩
  go_simp
  refine hK _ _ ?_
  clear hK K
  replace g0 := g0.trans g2
  rcases h.cases with ⟨rfl, k1⟩ | ⟨rfl, k1⟩
  rotate_left
  · clear h k1
    repeat (first | (refine wpE_skip rfl rfl ?_; go_simp) | (refine wpE_readB (v := ?_) g0 rfl rfl (fun w' hg => ?_) (fun K hK => ?_); rotate_left; (go_simp; rfl); go_simp; refine hK _ _ ?_; clear hK K))
    refine wpE_nil ?_
    have G := Lib.hid (G.out.trans g0)
    go_wp2_with fail
    go_ret
    exact ⟨_, rfl, G.out, rfl⟩
  have HF := Lib.hid k1
  clear h k1
  repeat (first | (refine wpE_skip rfl rfl ?_; go_simp) | (refine wpE_readB (v := ?_) g0 rfl rfl (fun w' hg => ?_) (fun K hK => ?_); rotate_left; (go_simp; rfl); go_simp; refine hK _ _ ?_; clear hK K))
  refine wpE_fn (args := ?_) rfl rfl rfl rfl rfl rfl (by kernel_rfl) (by kernel_rfl) ?_ (fun K hK => ?_)
  rotate_left
  · go_simp; rfl
  refine (mv_Source _ P M x (HM.out.grow g0) HF.out (HT.out.grow g0)).mono ?_
  rintro _ w3 ⟨_, rfl, g3, z3, rfl, hz3⟩
  refine ⟨_, rfl, g3, ?_⟩
  go_simp
  refine hK _ _ ?_
  clear hK K
  replace g0 := g0.trans g3
  repeat (first | (refine wpE_skip rfl rfl ?_; go_simp) | (refine wpE_readB (v := ?_) g0 rfl rfl (fun w' hg => ?_) (fun K hK => ?_); rotate_left; (go_simp; rfl); go_simp; refine hK _ _ ?_; clear hK K))
  refine wpE_fn (args := ?_) rfl rfl rfl rfl rfl rfl (by kernel_rfl) (by kernel_rfl) ?_ (fun K hK => ?_)
  rotate_left
  · go_simp; rfl
  refine (ref_Source23 _ P M x (HM.out.grow g0) HF.out).mono ?_
  rintro _ w4 ⟨_, rfl, g4, z4, rfl, hz4⟩
  refine ⟨_, rfl, g4, ?_⟩
  go_simp
  refine hK _ _ ?_
  clear hK K
  replace g0 := g0.trans g4
  obtain rfl : z3 = z4 := isVal_one hz3 hz4
  clear hz3 hz4
  repeat (first | (refine wpE_skip rfl rfl ?_; go_simp) | (refine wpE_readB (v := ?_) g0 rfl rfl (fun w' hg => ?_) (fun K hK => ?_); rotate_left; (go_simp; rfl); go_simp; refine hK _ _ ?_; clear hK K))
  refine wpE_fn (args := ?_) rfl rfl rfl rfl rfl rfl (by kernel_rfl) (by kernel_rfl) ?_ (fun K hK => ?_)
  rotate_left
  · go_simp; rfl
  refine (mv_Duration _ P M x (HM.out.grow g0) HF.out (HT.out.grow g0)).mono ?_
  rintro _ w5 ⟨_, rfl, g5, z5, rfl, hz5⟩
  refine ⟨_, rfl, g5, ?_⟩
  go_simp
  refine hK _ _ ?_
  clear hK K
  replace g0 := g0.trans g5
  repeat (first | (refine wpE_skip rfl rfl ?_; go_simp) | (refine wpE_readB (v := ?_) g0 rfl rfl (fun w' hg => ?_) (fun K hK => ?_); rotate_left; (go_simp; rfl); go_simp; refine hK _ _ ?_; clear hK K))
  refine wpE_fn (args := ?_) rfl rfl rfl rfl rfl rfl (by kernel_rfl) (by kernel_rfl) ?_ (fun K hK => ?_)
  rotate_left
  · go_simp; rfl
  refine (ref_Duration23 _ P M x (HM.out.grow g0) HF.out).mono ?_
  rintro _ w6 ⟨_, rfl, g6, z6, rfl, hz6⟩
  refine ⟨_, rfl, g6, ?_⟩
  go_simp
  refine hK _ _ ?_
  clear hK K
  replace g0 := g0.trans g6
  obtain rfl : z5 = z6 := isVal_one hz5 hz6
  clear hz5 hz6
  repeat (first | (refine wpE_skip rfl rfl ?_; go_simp) | (refine wpE_readB (v := ?_) g0 rfl rfl (fun w' hg => ?_) (fun K hK => ?_); rotate_left; (go_simp; rfl); go_simp; refine hK _ _ ?_; clear hK K))
  refine wpE_fn (args := ?_) rfl rfl rfl rfl rfl rfl (by kernel_rfl) (by kernel_rfl) ?_ (fun K hK => ?_)
  rotate_left
  · go_simp; rfl
  refine (mv_Link _ P M x (HM.out.grow g0) HF.out (HT.out.grow g0)).mono ?_
  rintro _ w7 ⟨_, rfl, g7, z7, rfl, hz7⟩
  refine ⟨_, rfl, g7, ?_⟩
  go_simp
  refine hK _ _ ?_
  clear hK K
  replace g0 := g0.trans g7
  repeat (first | (refine wpE_skip rfl rfl ?_; go_simp) | (refine wpE_readB (v := ?_) g0 rfl rfl (fun w' hg => ?_) (fun K hK => ?_); rotate_left; (go_simp; rfl); go_simp; refine hK _ _ ?_; clear hK K))
  refine wpE_fn (args := ?_) rfl rfl rfl rfl rfl rfl (by kernel_rfl) (by kernel_rfl) ?_ (fun K hK => ?_)
  rotate_left
  · go_simp; rfl
  refine (ref_Link23 _ P M x (HM.out.grow g0) HF.out).mono ?_
  rintro _ w8 ⟨_, rfl, g8, z8, rfl, hz8⟩
  refine ⟨_, rfl, g8, ?_⟩
  go_simp
  refine hK _ _ ?_
  clear hK K
  replace g0 := g0.trans g8
  obtain rfl : z7 = z8 := isVal_one hz7 hz8
  clear hz7 hz8
  repeat (first | (refine wpE_skip rfl rfl ?_; go_simp) | (refine wpE_readB (v := ?_) g0 rfl rfl (fun w' hg => ?_) (fun K hK => ?_); rotate_left; (go_simp; rfl); go_simp; refine hK _ _ ?_; clear hK K))
  refine wpE_fn (args := ?_) rfl rfl rfl rfl rfl rfl (by kernel_rfl) (by kernel_rfl) ?_ (fun K hK => ?_)
  rotate_left
  · go_simp; rfl
  refine (mv_Use _ P M x (HM.out.grow g0) HF.out (HT.out.grow g0)).mono ?_
  rintro _ w9 ⟨_, rfl, g9, z9, rfl, hz9⟩
  refine ⟨_, rfl, g9, ?_⟩
  go_simp
  refine hK _ _ ?_
  clear hK K
  replace g0 := g0.trans g9
  repeat (first | (refine wpE_skip rfl rfl ?_; go_simp) | (refine wpE_readB (v := ?_) g0 rfl rfl (fun w' hg => ?_) (fun K hK => ?_); rotate_left; (go_simp; rfl); go_simp; refine hK _ _ ?_; clear hK K))
  refine wpE_fn (args := ?_) rfl rfl rfl rfl rfl rfl (by kernel_rfl) (by kernel_rfl) ?_ (fun K hK => ?_)
  rotate_left
  · go_simp; rfl
  refine (ref_Use23 _ P M x (HM.out.grow g0) HF.out).mono ?_
  rintro _ w10 ⟨_, rfl, g10, z10, rfl, hz10⟩
  refine ⟨_, rfl, g10, ?_⟩
  go_simp
  refine hK _ _ ?_
  clear hK K
  replace g0 := g0.trans g10
  obtain rfl : z9 = z10 := isVal_one hz9 hz10
  clear hz9 hz10
  repeat (first | (refine wpE_skip rfl rfl ?_; go_simp) | (refine wpE_readB (v := ?_) g0 rfl rfl (fun w' hg => ?_) (fun K hK => ?_); rotate_left; (go_simp; rfl); go_simp; refine hK _ _ ?_; clear hK K))
  refine wpE_nil ?_
  have G := Lib.hid (G.out.trans g0)
  go_wp2_with fail
  go_ret
  exact ⟨_, rfl, G.out, rfl⟩
theorem candR_cases {M : Mdl} {r s : Value} {w v : World} (h : CandR M r w) (k : CandR M s v) :
    (∃ e : Int, e ≠ 0 ∧ r = .tuple #[.slice none 0 0, .int .i64 e] ∧ s = .tuple #[.slice none 0 0, .int .i64 e]) ∨
    (MdlOK M ∧ (candsM M).length ≤ 200 ∧ ∃ p c q d, r = .tuple #[.slice p (candsM M).length c, .int .i64 0] ∧ s = .tuple #[.slice q (candsM M).length d, .int .i64 0] ∧ MvL w (.slice p (candsM M).length c) (candsM M) ∧ MvL v (.slice q (candsM M).length d) (candsM M)) := by
  rcases h with ⟨h1, rfl⟩ | ⟨h1, h2, rfl⟩ | ⟨h1, h2, p, c, rfl, h3⟩
  · rcases k with ⟨k1, rfl⟩ | ⟨k1, k2, rfl⟩ | ⟨k1, k2, p, c, rfl, k3⟩
    · exact .inl ⟨1, by decide, rfl, rfl⟩
    · exact absurd k1 h1
    · exact absurd k1 h1
  · rcases k with ⟨k1, rfl⟩ | ⟨k1, k2, rfl⟩ | ⟨k1, k2, p, c, rfl, k3⟩
    · exact absurd h1 k1
    · exact .inl ⟨8, by decide, rfl, rfl⟩
    · omega
  · rcases k with ⟨k1, rfl⟩ | ⟨k1, k2, rfl⟩ | ⟨k1, k2, q, d, rfl, k3⟩
    · exact absurd h1 k1
    · omega
    · exact .inr ⟨h1, h2, p, c, q, d, rfl, rfl, h3, k3⟩
set_option maxRecDepth 100000 in
set_option maxHeartbeats 1600000 in
theorem law_MovesCandidates (w : World) (ht : Tab w) (P : Ptrs) (M : Mdl) (hm : MdlAt w P M) (hr : MdlR M) :
    Calls Tryz.prog 5 #[.agg (mcells P M)] w (Ret w fun r _ => r = .bool true) := by
  have HT := Lib.hid ht
  clear ht
  have HM := Lib.hid hm
  have B := Cells.new w (mcells P M) 29
  clear hm
  have m0 := mc0 B.2 _ (Gr.refl _)
  have m1 := mc1 B.2 _ (Gr.refl _)
  have m2 := mc2 B.2 _ (Gr.refl _)
  have m3 := mc3 B.2 _ (Gr.refl _)
  have m4 := mc4 B.2 _ (Gr.refl _)
  have m5 := mc5 B.2 _ (Gr.refl _)
  have m6 := mc6 B.2 _ (Gr.refl _)
  have m7 := mc7 B.2 _ (Gr.refl _)
  have m8 := mc8 B.2 _ (Gr.refl _)
  have m9 := mc9 B.2 _ (Gr.refl _)
  have m10 := mc10 B.2 _ (Gr.refl _)
  unfold mcells at B m0 m1 m2 m3 m4 m5 m6 m7 m8 m9 m10 ⊢
  go_enter Tryz.func5, Tryz.ntmps5
  go_wp2_with fail
  clear m0 m1 m2 m3 m4 m5 m6 m7 m8 m9 m10
  generalize w.heap.size = bm at B ⊢
  generalize w.alloc _ = W at B ⊢
  obtain ⟨g0, tm⟩ := B
  have TM := Lib.hid (show Cells W bm (mcells P M) from tm)
  have G := Lib.hid g0
  have HM := Lib.hid (HM.out.grow g0)
  clear g0 tm
  have m0 := mc0 TM.out _ (Gr.refl _)
  have m1 := mc1 TM.out _ (Gr.refl _)
  have m2 := mc2 TM.out _ (Gr.refl _)
  have m3 := mc3 TM.out _ (Gr.refl _)
  have m4 := mc4 TM.out _ (Gr.refl _)
  have m5 := mc5 TM.out _ (Gr.refl _)
  have m6 := mc6 TM.out _ (Gr.refl _)
  have m7 := mc7 TM.out _ (Gr.refl _)
  have m8 := mc8 TM.out _ (Gr.refl _)
  have m9 := mc9 TM.out _ (Gr.refl _)
  have m10 := mc10 TM.out _ (Gr.refl _)
  have HT := Lib.hid (HT.out.grow G.out)
  clear m0 m1 m2 m3 m4 m5 m6 m7 m8 m9 m10
  refine (law23_awake W HT.out).mono ?_
  rintro _ w1 ⟨_, rfl, g1, rfl⟩
  have G := Lib.hid (G.out.trans g1)
  have TM := Lib.hid (TM.out.grow g1)
  have HM := Lib.hid (HM.out.grow g1)
  have HT := Lib.hid (HT.out.grow g1)
  clear g1
  have m0 := mc0 TM.out _ (Gr.refl _)
  have m1 := mc1 TM.out _ (Gr.refl _)
  have m2 := mc2 TM.out _ (Gr.refl _)
  have m3 := mc3 TM.out _ (Gr.refl _)
  have m4 := mc4 TM.out _ (Gr.refl _)
  have m5 := mc5 TM.out _ (Gr.refl _)
  have m6 := mc6 TM.out _ (Gr.refl _)
  have m7 := mc7 TM.out _ (Gr.refl _)
  have m8 := mc8 TM.out _ (Gr.refl _)
  have m9 := mc9 TM.out _ (Gr.refl _)
  have m10 := mc10 TM.out _ (Gr.refl _)
  go_wp2_with fail
  clear m0 m1 m2 m3 m4 m5 m6 m7 m8 m9 m10
  refine (ref_Few w1 P M HM.out).mono ?_
  rintro _ w2 ⟨r2, rfl, g1, h⟩
  have G := Lib.hid (G.out.trans g1)
  have TM := Lib.hid (TM.out.grow g1)
  have HM := Lib.hid (HM.out.grow g1)
  have HT := Lib.hid (HT.out.grow g1)
  clear g1
  rcases h.cases with ⟨rfl, k1⟩ | ⟨rfl, k1⟩
  · have HF := Lib.hid k1
    clear h k1
    have m0 := mc0 TM.out _ (Gr.refl _)
    have m1 := mc1 TM.out _ (Gr.refl _)
    have m2 := mc2 TM.out _ (Gr.refl _)
    have m3 := mc3 TM.out _ (Gr.refl _)
    have m4 := mc4 TM.out _ (Gr.refl _)
    have m5 := mc5 TM.out _ (Gr.refl _)
    have m6 := mc6 TM.out _ (Gr.refl _)
    have m7 := mc7 TM.out _ (Gr.refl _)
    have m8 := mc8 TM.out _ (Gr.refl _)
    have m9 := mc9 TM.out _ (Gr.refl _)
    have m10 := mc10 TM.out _ (Gr.refl _)
    go_wp2_with fail
    clear m0 m1 m2 m3 m4 m5 m6 m7 m8 m9 m10
    refine (mv_Candidates w2 P M HM.out HF.out HT.out).mono ?_
    rintro _ w3 ⟨r3, rfl, g1, h3⟩
    have H3 := Lib.hid h3
    clear h3
    have G := Lib.hid (G.out.trans g1)
    have TM := Lib.hid (TM.out.grow g1)
    have HM := Lib.hid (HM.out.grow g1)
    have HT := Lib.hid (HT.out.grow g1)
    clear g1
    obtain ⟨rv, hrv⟩ : ∃ a, r3 = a := ⟨_, rfl⟩
    have hsh : ∃ a b, r3 = .tuple #[a, b] := by
      rcases H3.out with ⟨_, h⟩ | ⟨_, _, h⟩ | ⟨_, _, p, c, h, _⟩ <;> exact ⟨_, _, h⟩
    obtain ⟨a3, b3, rfl⟩ := hsh
    clear hrv
    have m0 := mc0 TM.out _ (Gr.refl _)
    have m1 := mc1 TM.out _ (Gr.refl _)
    have m2 := mc2 TM.out _ (Gr.refl _)
    have m3 := mc3 TM.out _ (Gr.refl _)
    have m4 := mc4 TM.out _ (Gr.refl _)
    have m5 := mc5 TM.out _ (Gr.refl _)
    have m6 := mc6 TM.out _ (Gr.refl _)
    have m7 := mc7 TM.out _ (Gr.refl _)
    have m8 := mc8 TM.out _ (Gr.refl _)
    have m9 := mc9 TM.out _ (Gr.refl _)
    have m10 := mc10 TM.out _ (Gr.refl _)
    go_wp2_with fail
    clear m0 m1 m2 m3 m4 m5 m6 m7 m8 m9 m10
    refine (ref_Candidates w3 P M HM.out HF.out).mono ?_
    rintro _ w4 ⟨r4, rfl, g4, h4⟩
    have HG4 := Lib.hid g4
    have G := Lib.hid (G.out.trans g4)
    have TM := Lib.hid (TM.out.grow g4)
    have HM := Lib.hid (HM.out.grow g4)
    have HT := Lib.hid (HT.out.grow g4)
    clear g4
    rcases candR_cases H3.out h4 with ⟨e, he, h1, rfl⟩ | ⟨hok, h200, p, c, q, d, h1, rfl, hl, hm⟩
    · injection h1 with h1
      simp only [Array.mk.injEq, List.cons.injEq, and_true] at h1
      obtain ⟨rfl, rfl⟩ := h1
      clear h4
      have hnil := SlL.nil (sz := 3) (enc := encMv) w4
      go_wp2_with fail
      refine (ref_Same23 w4 none none 0 0 [] [] hnil hnil (by decide) (by decide)).mono ?_
      rintro _ w5 ⟨r5, rfl, g5, h5⟩
      have G := Lib.hid (G.out.trans g5)
      have TM := Lib.hid (TM.out.grow g5)
      have HM := Lib.hid (HM.out.grow g5)
      have HT := Lib.hid (HT.out.grow g5)
      clear g5
      rcases h5.cases with ⟨rfl, _⟩ | ⟨_, k1⟩
      rotate_left
      · exact absurd rfl k1
      go_wp2_with fail
      go_ret
      exact ⟨_, rfl, G.out, rfl⟩
    · injection h1 with h1
      simp only [Array.mk.injEq, List.cons.injEq, and_true] at h1
      obtain ⟨rfl, rfl⟩ := h1
      have HL := Lib.hid (SlL.grow hl HG4.out)
      have HL2 := Lib.hid hm
      have HLEN := Lib.hid h200
      clear h4 hl hm h200
      go_wp2_with fail
      refine (ref_Same23 w4 p q c d (candsM M) (candsM M) HL.out HL2.out (by have := HLEN.out; omega) (by have := HLEN.out; omega)).mono ?_
      rintro _ w5 ⟨r5, rfl, g5, h5⟩
      have G := Lib.hid (G.out.trans g5)
      have TM := Lib.hid (TM.out.grow g5)
      have HM := Lib.hid (HM.out.grow g5)
      have HT := Lib.hid (HT.out.grow g5)
      clear g5
      rcases h5.cases with ⟨rfl, _⟩ | ⟨_, k1⟩
      rotate_left
      · exact absurd rfl k1
      go_wp2_with fail
      go_ret
      exact ⟨_, rfl, G.out, rfl⟩
  · clear h k1
    go_wp2_with fail
    try rw [Exit.noGoto_ret]
    go_ret
    exact ⟨_, rfl, G.out, rfl⟩
end Go.Proofs.YtdekicijinmakaaGreatDoor
namespace Go.Proofs.YtdekicijinmakaaGreatDoor
open Go.RowKit Go.Lib Lex
set_option linter.unusedVariables false
set_option linter.unusedSimpArgs false

theorem cmp_lt {x y : MvM} (h : mvLt x y) : cmpMv x y = -1 := by
  unfold mvLt at h
  have lt : ∀ a b : Int, a < b → cmpI a b = -1 := fun a b h => by unfold cmpI; rw [if_pos h]
  have eq : ∀ a b : Int, a = b → cmpI a b = 0 := fun a b h => by unfold cmpI; rw [if_neg (by omega), if_neg (by omega)]
  unfold cmpMv
  rcases h with h | ⟨h, h | ⟨h2, h⟩⟩
  · exact orL_at _ 0 (-1) (by rw [lt _ _ h]; rfl) (by decide) (fun j y hj => by omega)
  · refine orL_at _ 1 (-1) (by rw [lt _ _ h]; rfl) (by decide) (fun j z hj hz => ?_)
    obtain rfl : j = 0 := by omega
    have hi : x.item = y.item := by assumption
    rw [eq _ _ hi] at hz
    exact (Option.some.inj hz).symm
  · refine orL_at _ 2 (-1) (by rw [lt _ _ h]; rfl) (by decide) (fun j z hj hz => ?_)
    have hi : x.item = y.item := by assumption
    rw [eq _ _ hi, eq _ _ h2] at hz
    match j, hj with
    | 0, _ => exact (Option.some.inj hz).symm
    | 1, _ => exact (Option.some.inj hz).symm
theorem cand_ok {M : Mdl} (hM : MdlOK M) {k : Nat} {x : MvM} (h : (candsM M)[k]? = some x) : MoveOK M x := ⟨hM, (mem_cands hM).1 (List.mem_of_getElem? h)⟩
theorem mem_take_succ {l : List MvM} {k : Nat} {x a : MvM} (h : l[k]? = some x) : a ∈ l.take (k + 1) ↔ a ∈ l.take k ∨ x = a := by
  rw [List.take_add_one, h]
  simp [eq_comm]
theorem mv_cells {w : World} {b o n c : Nat} {l : List MvM} (h : MvL w (.slice (some ⟨b, o, none⟩) n c) l) {k : Nat} {x : MvM} (hx : l[k]? = some x) : ∀ w', Gr w w' → MvCell w' b (o + k * 3) x := by
  have hn : l.length = n := by
    obtain ⟨p, c', hv, _⟩ := h.parts
    injection hv with _ h2 _
    exact h2.symm
  obtain ⟨b', o', y, hp, hy, hc⟩ := mv_at h hn (show k < n from hn ▸ (List.getElem?_eq_some_iff.1 hx).1)
  injection hp with hp
  injection hp with e1 e2 _
  subst e1 e2
  obtain rfl : x = y := Option.some.inj (hx.symm.trans hy)
  exact hc
set_option maxRecDepth 100000 in
set_option maxHeartbeats 3200000 in
theorem law_MovesOrder (w : World) (ht : Tab w) (P : Ptrs) (M : Mdl) (hm : MdlAt w P M) (hr : MdlR M) (a : MvM) (har : I64 a.item ∧ I64 a.frm ∧ I64 a.to) (b : MvM) (hbr : I64 b.item ∧ I64 b.frm ∧ I64 b.to) :
    Calls Tryz.prog 6 #[.agg (mcells P M), .agg (moveV a), .agg (moveV b)] w (Ret w fun r _ => r = .bool true) := by
  have HT := Lib.hid ht
  have HM := Lib.hid hm
  have B0 := Cells.new w (mcells P M) 29
  have B1 := Cells.new (w.alloc (.cells (mcells P M) 29)) (moveV a) 31
  have B2 := Cells.new ((w.alloc (.cells (mcells P M) 29)).alloc (.cells (moveV a) 31)) (moveV b) 31
  simp only [World.size_alloc] at B1 B2
  have H := Lib.hid (show _ ∧ _ ∧ _ ∧ _ from ⟨(B0.1.trans B1.1).trans B2.1, (B0.2.grow B1.1).grow B2.1, B1.2.grow B2.1, B2.2⟩)
  clear B0 B1 B2 hm ht hr har hbr
  unfold mcells moveV at H
  unfold mcells moveV
  go_enter Tryz.func6, Tryz.ntmps6
  go_wp2_with fail
  generalize w.heap.size + 1 + 1 = bb at H ⊢
  generalize w.heap.size + 1 = ba at H ⊢
  generalize w.heap.size = bm at H ⊢
  generalize ((w.alloc _).alloc _).alloc _ = W at H ⊢
  have G := Lib.hid H.out.1
  have TM := Lib.hid (show Cells W bm (mcells P M) from H.out.2.1)
  have TA := Lib.hid (show Cells W ba (moveV a) from H.out.2.2.1)
  have TB := Lib.hid (show Cells W bb (moveV b) from H.out.2.2.2)
  have HM := Lib.hid (HM.out.grow G.out)
  have HT := Lib.hid (HT.out.grow G.out)
  clear H
  refine (law23_awake W HT.out).mono ?_
  rintro _ w1 ⟨_, rfl, g1, rfl⟩
  have G := Lib.hid (G.out.trans g1)
  have TM := Lib.hid (TM.out.grow g1)
  have TA := Lib.hid (TA.out.grow g1)
  have TB := Lib.hid (TB.out.grow g1)
  have HM := Lib.hid (HM.out.grow g1)
  have HT := Lib.hid (HT.out.grow g1)
  clear g1
  have m0 := mc0 TM.out _ (Gr.refl _)
  have m1 := mc1 TM.out _ (Gr.refl _)
  have m2 := mc2 TM.out _ (Gr.refl _)
  have m3 := mc3 TM.out _ (Gr.refl _)
  have m4 := mc4 TM.out _ (Gr.refl _)
  have m5 := mc5 TM.out _ (Gr.refl _)
  have m6 := mc6 TM.out _ (Gr.refl _)
  have m7 := mc7 TM.out _ (Gr.refl _)
  have m8 := mc8 TM.out _ (Gr.refl _)
  have m9 := mc9 TM.out _ (Gr.refl _)
  have m10 := mc10 TM.out _ (Gr.refl _)
  go_wp2_with fail
  clear m0 m1 m2 m3 m4 m5 m6 m7 m8 m9 m10
  refine (ref_Few w1 P M HM.out).mono ?_
  rintro _ w2 ⟨r2, rfl, g1, h⟩
  have G := Lib.hid (G.out.trans g1)
  have TM := Lib.hid (TM.out.grow g1)
  have TA := Lib.hid (TA.out.grow g1)
  have TB := Lib.hid (TB.out.grow g1)
  have HM := Lib.hid (HM.out.grow g1)
  have HT := Lib.hid (HT.out.grow g1)
  clear g1
  rcases h.cases with ⟨rfl, k1⟩ | ⟨rfl, k1⟩
  rotate_left
  · clear h k1
    go_wp2_with fail
    try rw [Exit.noGoto_ret]
    go_ret
    exact ⟨_, rfl, G.out, rfl⟩
  have HF := Lib.hid k1
  clear h k1
  go_wp2_with fail
  have g0 : Gr w2 w2.drew := (Gr.refl _).drew
  have x0 : ∀ w', Gr w2 w' → w'.cell? ⟨ba, 0, none⟩ = some (.int .i64 a.item) := TA.out.c 0 rfl
  have x1 : ∀ w', Gr w2 w' → w'.cell? ⟨ba, 1, none⟩ = some (.int .i64 a.frm) := TA.out.c 1 rfl
  have x2 : ∀ w', Gr w2 w' → w'.cell? ⟨ba, 2, none⟩ = some (.int .i64 a.to) := TA.out.c 2 rfl
  have y0 : ∀ w', Gr w2 w' → w'.cell? ⟨bb, 0, none⟩ = some (.int .i64 b.item) := TB.out.c 0 rfl
  have y1 : ∀ w', Gr w2 w' → w'.cell? ⟨bb, 1, none⟩ = some (.int .i64 b.frm) := TB.out.c 1 rfl
  have y2 : ∀ w', Gr w2 w' → w'.cell? ⟨bb, 2, none⟩ = some (.int .i64 b.to) := TB.out.c 2 rfl
  refine wp_region_fast [(0, true), (1, true), (3, true), (4, true), (2, false), (5, false), (6, true), (7, true)] (by kernel_rfl) (by kernel_rfl) rfl (by kernel_rfl) (fun _ _ d _ _ h => by cases d <;> exact h) ?_
  repeat (refine wpE_readB (v := ?_) g0 rfl rfl (fun w' hg => ?_) (fun K hK => ?_); rotate_left; (go_simp; rfl); go_simp; refine hK _ _ ?_; clear hK K)
  refine wpE_fn (args := ?_) rfl rfl rfl rfl rfl rfl (by kernel_rfl) (by kernel_rfl) ?_ (fun K hK => ?_)
  rotate_left
  · go_simp; rfl
  refine (mv_Compare _ a b).mono ?_
  rintro _ w3 ⟨_, rfl, g3, rfl⟩
  refine ⟨_, rfl, g3, ?_⟩
  go_simp
  refine hK _ _ ?_
  clear hK K
  replace g0 := g0.trans g3
  refine wpE_fn (args := ?_) rfl rfl rfl rfl rfl rfl (by kernel_rfl) (by kernel_rfl) ?_ (fun K hK => ?_)
  rotate_left
  · go_simp; rfl
  refine (ref_Compare _ a b).mono ?_
  rintro _ w4 ⟨_, rfl, g4, rfl⟩
  refine ⟨_, rfl, g4, ?_⟩
  go_simp
  refine hK _ _ ?_
  clear hK K
  replace g0 := g0.trans g4
  repeat (refine wpE_readB (v := ?_) g0 rfl rfl (fun w' hg => ?_) (fun K hK => ?_); rotate_left; (go_simp; rfl); go_simp; refine hK _ _ ?_; clear hK K)
  refine wpE_nil ?_
  clear x0 x1 x2 y0 y1 y2
  have g1 := g0
  clear g0
  have G := Lib.hid (G.out.trans g1)
  have TM := Lib.hid (TM.out.grow g1)
  have TA := Lib.hid (TA.out.grow g1)
  have TB := Lib.hid (TB.out.grow g1)
  have HM := Lib.hid (HM.out.grow g1)
  have HT := Lib.hid (HT.out.grow g1)
  clear g1
  generalize cmpMv a b = z
  have e1 : (decide (z < 0) != decide (z < 0)) = false := by simp
  have e2 : (decide (0 < z) != decide (0 < z)) = false := by simp
  have m0 := mc0 TM.out _ (Gr.refl _)
  have m1 := mc1 TM.out _ (Gr.refl _)
  have m2 := mc2 TM.out _ (Gr.refl _)
  have m3 := mc3 TM.out _ (Gr.refl _)
  have m4 := mc4 TM.out _ (Gr.refl _)
  have m5 := mc5 TM.out _ (Gr.refl _)
  have m6 := mc6 TM.out _ (Gr.refl _)
  have m7 := mc7 TM.out _ (Gr.refl _)
  have m8 := mc8 TM.out _ (Gr.refl _)
  have m9 := mc9 TM.out _ (Gr.refl _)
  have m10 := mc10 TM.out _ (Gr.refl _)
  go_wp2_with fail
  clear m0 m1 m2 m3 m4 m5 m6 m7 m8 m9 m10
  clear e1 e2
  refine (mv_Candidates w4 P M HM.out HF.out HT.out).mono ?_
  rintro _ w5 ⟨r5, rfl, g1, h5⟩
  have G := Lib.hid (G.out.trans g1)
  have TM := Lib.hid (TM.out.grow g1)
  have TA := Lib.hid (TA.out.grow g1)
  have TB := Lib.hid (TB.out.grow g1)
  have HM := Lib.hid (HM.out.grow g1)
  have HT := Lib.hid (HT.out.grow g1)
  clear g1
  rcases h5 with ⟨_, rfl⟩ | ⟨_, _, rfl⟩ | ⟨hok, h200, p, c, rfl, hl⟩
  · go_wp2_with fail
    try rw [Exit.noGoto_ret]
    go_ret
    exact ⟨_, rfl, G.out, rfl⟩
  · go_wp2_with fail
    try rw [Exit.noGoto_ret]
    go_ret
    exact ⟨_, rfl, G.out, rfl⟩
  · have HOK := Lib.hid hok
    have HLEN := Lib.hid h200
    have HL := Lib.hid hl
    clear hok h200 hl
    go_wp2_with fail
    go_loopw [11, 12] (fun fv i w9 => ∃ (k : Nat) (t : Bool), fv = .bool t ∧ i = .int .i64 (k : Int) ∧ k ≤ (candsM M).length ∧ (t = true ↔ a ∈ (candsM M).take k) ∧ Gr w5 w9) (fun _ i _ => (candsM M).length - (RowKit.intOf i).toNat)
    case atStart => exact ⟨0, false, rfl, rfl, Nat.zero_le _, by simp, Gr.refl _⟩
    case round =>
      obtain ⟨k, t, rfl, rfl, hk, hp, hg⟩ := hrel
      have HP := Lib.hid hp
      have G9 := Lib.hid hg
      have G := Lib.hid (G.out.trans hg)
      have TM := Lib.hid (TM.out.grow hg)
      have TA := Lib.hid (TA.out.grow hg)
      have TB := Lib.hid (TB.out.grow hg)
      have HM := Lib.hid (HM.out.grow hg)
      have HT := Lib.hid (HT.out.grow hg)
      have HL := Lib.hid (HL.out.grow hg)
      clear hg
      clear hp
      by_cases hlt : k < (candsM M).length
      · have hlt' : (k : Int) < ((candsM M).length : Int) := by omega
        obtain ⟨q, o, x, rfl, hx, hc⟩ := mv_at HL.out rfl hlt
        have HX := Lib.hid hx
        have HXO := Lib.hid (cand_ok HOK.out hx)
        clear hx
        have a0 := fun w' g => (hc w' g).1
        have a1 := fun w' g => (hc w' g).2.1
        have a2 := fun w' g => (hc w' g).2.2
        clear hc
        go_wp2_with fail
        have g0 : Gr wr wr.drew := (Gr.refl _).drew
        have x0 : ∀ w', Gr wr w' → w'.cell? ⟨ba, 0, none⟩ = some (.int .i64 a.item) := TA.out.c 0 rfl
        have x1 : ∀ w', Gr wr w' → w'.cell? ⟨ba, 1, none⟩ = some (.int .i64 a.frm) := TA.out.c 1 rfl
        have x2 : ∀ w', Gr wr w' → w'.cell? ⟨ba, 2, none⟩ = some (.int .i64 a.to) := TA.out.c 2 rfl
        obtain ⟨tq, hq⟩ : ∃ t, (x.item == a.item && (x.frm == a.frm && x.to == a.to)) = t := ⟨_, rfl⟩
        have q1 := fun w s u => run_guard_mv .eql s u w #[.int .i64 x.item, .int .i64 x.frm, .int .i64 x.to] #[.int .i64 a.item, .int .i64 a.frm, .int .i64 a.to]
        have q2 := fun w => run_eql_mv w x a
        rw [hq] at q2
        have HQ := Lib.hid (show tq = true ↔ x = a by rw [← hq, mv_ext]; simp [and_assoc])
        clear hq
        refine wp_region_fast [(0, true), (1, true), (2, true), (3, true), (4, true), (5, true), (6, true), (7, true), (8, true), (9, true)] (by kernel_rfl) (by kernel_rfl) rfl (by kernel_rfl) (fun _ _ d _ _ h => by cases d <;> exact h) ?_
        have hs : ∃ s : Bool, s = (t || tq) := ⟨_, rfl⟩
        obtain ⟨s, hs⟩ := hs
        have HS := Lib.hid (show s = true ↔ a ∈ (candsM M).take (k + 1) by rw [mem_take_succ HX.out, hs, ← HP.out, ← HQ.out]; simp)
        cases t
        · have hs' : s = tq := by simpa using hs
          subst hs'
          clear hs
          repeat (first | (refine wpE_skip rfl rfl ?_; go_simp) | (refine wpE_readB (v := ?_) g0 rfl rfl (fun w' hg => ?_) (fun K hK => ?_); rotate_left; (go_simp; rfl); go_simp; refine hK _ _ ?_; clear hK K))
          refine wpE_nil ?_
          clear a0 a1 a2 x0 x1 x2 q1 q2
          have G9 := Lib.hid (G9.out.trans g0)
          have g1 := g0
          clear g0
          have G := Lib.hid (G.out.trans g1)
          have TM := Lib.hid (TM.out.grow g1)
          have TA := Lib.hid (TA.out.grow g1)
          have TB := Lib.hid (TB.out.grow g1)
          have HM := Lib.hid (HM.out.grow g1)
          have HT := Lib.hid (HT.out.grow g1)
          have HL := Lib.hid (HL.out.grow g1)
          clear g1
          have hk1 : IntKind.i64.wrap ((k : Int) + 1) = (k : Int) + 1 := by rw [IntKind.wrap_i64]; have := HLEN.out; omega
          go_wp2_with fail
          have g0 : Gr wr.drew wr.drew.drew := (Gr.refl _).drew
          generalize wr.drew = W6 at *
          have a0 := fun w' g => (mv_cells HL.out HX.out w' g).1
          have a1 := fun w' g => (mv_cells HL.out HX.out w' g).2.1
          have a2 := fun w' g => (mv_cells HL.out HX.out w' g).2.2
          have m0 := mc0 TM.out
          have m1 := mc1 TM.out
          have m2 := mc2 TM.out
          have m3 := mc3 TM.out
          have m4 := mc4 TM.out
          have m5 := mc5 TM.out
          have m6 := mc6 TM.out
          have m7 := mc7 TM.out
          have m8 := mc8 TM.out
          have m9 := mc9 TM.out
          have m10 := mc10 TM.out
          try dsimp only at m0 m1 m2 m3 m4 m5 m6 m7 m8 m9 m10
          refine wp_region_fast [(0, true), (1, true), (2, true), (3, true), (4, true), (5, false), (6, true), (7, true), (8, true), (9, true), (10, true), (11, true), (12, true), (13, true), (14, true), (15, true), (16, true), (17, true), (18, true), (19, true), (20, false), (21, true), (22, true), (23, true)] (by kernel_rfl) (by kernel_rfl) rfl (by kernel_rfl) (fun _ _ d _ _ h => by cases d <;> exact h) ?_
          rcases Nat.eq_zero_or_pos k with rfl | hpos
          · simp only [Nat.zero_mul, Nat.add_zero] at a0 a1 a2
            repeat (first | (refine wpE_skip rfl rfl ?_; go_simp) | (refine wpE_readB (v := ?_) g0 rfl rfl (fun w' hg => ?_) (fun K hK => ?_); rotate_left; (go_simp; rfl); go_simp; refine hK _ _ ?_; clear hK K))
            refine wpE_fn (args := ?_) rfl rfl rfl rfl rfl rfl (by kernel_rfl) (by kernel_rfl) ?_ (fun K hK => ?_)
            rotate_left
            · go_simp; rfl
            refine (mv_Valid _ P M x (HM.out.grow g0) HF.out (HT.out.grow g0)).mono ?_
            rintro _ w7 ⟨r7, rfl, g7, h7⟩
            refine ⟨_, rfl, g7, ?_⟩
            go_simp
            refine hK _ _ ?_
            clear hK K
            replace g0 := g0.trans g7
            rcases h7.cases with ⟨rfl, _⟩ | ⟨_, k7⟩
            rotate_left
            · exact absurd HXO.out k7
            repeat (first | (refine wpE_skip rfl rfl ?_; go_simp) | (refine wpE_readB (v := ?_) g0 rfl rfl (fun w' hg => ?_) (fun K hK => ?_); rotate_left; (go_simp; rfl); go_simp; refine hK _ _ ?_; clear hK K))
            refine wpE_nil ?_
            have G := Lib.hid (G.out.trans g0)
            have G9 := Lib.hid (G9.out.trans g0)
            clear g0 h7
            go_wp2_with fail
            refine ⟨⟨0 + 1, _, rfl, by go_num, by omega, by simpa using HS.out, G9.out⟩, by simp [RowKit.intOf]; omega⟩
          · obtain ⟨j, hj⟩ : ∃ j, k = j + 1 := ⟨k - 1, by omega⟩
            obtain ⟨y, hy⟩ : ∃ y, (candsM M)[j]? = some y := ⟨_, List.getElem?_eq_getElem (by omega)⟩
            have HLT := Lib.hid (cmp_lt (cands_lt j y x hy (by rw [← hj]; exact HX.out)))
            have hj1 : IntKind.i64.wrap ((k : Int) - 1) = (j : Int) := by rw [IntKind.wrap_i64]; have := HLEN.out; omega
            have hj2 : (j : Int) < ((candsM M).length : Int) := by omega
            have hk0 : (0 : Int) < (k : Int) := by omega
            have b0 := fun w' g => (mv_cells HL.out hy w' g).1
            have b1 := fun w' g => (mv_cells HL.out hy w' g).2.1
            have b2 := fun w' g => (mv_cells HL.out hy w' g).2.2
            clear hy hj
            repeat (first | (refine wpE_skip rfl rfl ?_; go_simp) | (refine wpE_readB (v := ?_) g0 rfl rfl (fun w' hg => ?_) (fun K hK => ?_); rotate_left; (go_simp; rfl); go_simp; refine hK _ _ ?_; clear hK K))
            refine wpE_fn (args := ?_) rfl rfl rfl rfl rfl rfl (by kernel_rfl) (by kernel_rfl) ?_ (fun K hK => ?_)
            rotate_left
            · go_simp; rfl
            refine (mv_Valid _ P M x (HM.out.grow g0) HF.out (HT.out.grow g0)).mono ?_
            rintro _ w7 ⟨r7, rfl, g7, h7⟩
            refine ⟨_, rfl, g7, ?_⟩
            go_simp
            refine hK _ _ ?_
            clear hK K
            replace g0 := g0.trans g7
            rcases h7.cases with ⟨rfl, _⟩ | ⟨_, k7⟩
            rotate_left
            · exact absurd HXO.out k7
            repeat (first | (refine wpE_skip rfl rfl ?_; go_simp) | (refine wpE_readB (v := ?_) g0 rfl rfl (fun w' hg => ?_) (fun K hK => ?_); rotate_left; (go_simp; rfl); go_simp; refine hK _ _ ?_; clear hK K))
            refine wpE_fn (args := ?_) rfl rfl rfl rfl rfl rfl (by kernel_rfl) (by kernel_rfl) ?_ (fun K hK => ?_)
            rotate_left
            · go_simp; rfl
            refine (mv_Compare _ y x).mono ?_
            rintro _ w8 ⟨_, rfl, g8, rfl⟩
            rw [HLT.out]
            refine ⟨_, rfl, g8, ?_⟩
            go_simp
            refine hK _ _ ?_
            clear hK K
            replace g0 := g0.trans g8
            repeat (first | (refine wpE_skip rfl rfl ?_; go_simp) | (refine wpE_readB (v := ?_) g0 rfl rfl (fun w' hg => ?_) (fun K hK => ?_); rotate_left; (go_simp; rfl); go_simp; refine hK _ _ ?_; clear hK K))
            refine wpE_nil ?_
            have G := Lib.hid (G.out.trans g0)
            have G9 := Lib.hid (G9.out.trans g0)
            clear g0 h7
            go_wp2_with fail
            refine ⟨⟨k + 1, _, rfl, by go_num, by omega, by simpa using HS.out, G9.out⟩, by simp [RowKit.intOf]; omega⟩
        · have hs' : s = true := by simpa using hs
          subst hs'
          clear hs
          repeat (first | (refine wpE_skip rfl rfl ?_; go_simp) | (refine wpE_readB (v := ?_) g0 rfl rfl (fun w' hg => ?_) (fun K hK => ?_); rotate_left; (go_simp; rfl); go_simp; refine hK _ _ ?_; clear hK K))
          refine wpE_nil ?_
          clear a0 a1 a2 x0 x1 x2 q1 q2
          have G9 := Lib.hid (G9.out.trans g0)
          have g1 := g0
          clear g0
          have G := Lib.hid (G.out.trans g1)
          have TM := Lib.hid (TM.out.grow g1)
          have TA := Lib.hid (TA.out.grow g1)
          have TB := Lib.hid (TB.out.grow g1)
          have HM := Lib.hid (HM.out.grow g1)
          have HT := Lib.hid (HT.out.grow g1)
          have HL := Lib.hid (HL.out.grow g1)
          clear g1
          have hk1 : IntKind.i64.wrap ((k : Int) + 1) = (k : Int) + 1 := by rw [IntKind.wrap_i64]; have := HLEN.out; omega
          go_wp2_with fail
          have g0 : Gr wr.drew wr.drew.drew := (Gr.refl _).drew
          generalize wr.drew = W6 at *
          have a0 := fun w' g => (mv_cells HL.out HX.out w' g).1
          have a1 := fun w' g => (mv_cells HL.out HX.out w' g).2.1
          have a2 := fun w' g => (mv_cells HL.out HX.out w' g).2.2
          have m0 := mc0 TM.out
          have m1 := mc1 TM.out
          have m2 := mc2 TM.out
          have m3 := mc3 TM.out
          have m4 := mc4 TM.out
          have m5 := mc5 TM.out
          have m6 := mc6 TM.out
          have m7 := mc7 TM.out
          have m8 := mc8 TM.out
          have m9 := mc9 TM.out
          have m10 := mc10 TM.out
          try dsimp only at m0 m1 m2 m3 m4 m5 m6 m7 m8 m9 m10
          refine wp_region_fast [(0, true), (1, true), (2, true), (3, true), (4, true), (5, false), (6, true), (7, true), (8, true), (9, true), (10, true), (11, true), (12, true), (13, true), (14, true), (15, true), (16, true), (17, true), (18, true), (19, true), (20, false), (21, true), (22, true), (23, true)] (by kernel_rfl) (by kernel_rfl) rfl (by kernel_rfl) (fun _ _ d _ _ h => by cases d <;> exact h) ?_
          rcases Nat.eq_zero_or_pos k with rfl | hpos
          · simp only [Nat.zero_mul, Nat.add_zero] at a0 a1 a2
            repeat (first | (refine wpE_skip rfl rfl ?_; go_simp) | (refine wpE_readB (v := ?_) g0 rfl rfl (fun w' hg => ?_) (fun K hK => ?_); rotate_left; (go_simp; rfl); go_simp; refine hK _ _ ?_; clear hK K))
            refine wpE_fn (args := ?_) rfl rfl rfl rfl rfl rfl (by kernel_rfl) (by kernel_rfl) ?_ (fun K hK => ?_)
            rotate_left
            · go_simp; rfl
            refine (mv_Valid _ P M x (HM.out.grow g0) HF.out (HT.out.grow g0)).mono ?_
            rintro _ w7 ⟨r7, rfl, g7, h7⟩
            refine ⟨_, rfl, g7, ?_⟩
            go_simp
            refine hK _ _ ?_
            clear hK K
            replace g0 := g0.trans g7
            rcases h7.cases with ⟨rfl, _⟩ | ⟨_, k7⟩
            rotate_left
            · exact absurd HXO.out k7
            repeat (first | (refine wpE_skip rfl rfl ?_; go_simp) | (refine wpE_readB (v := ?_) g0 rfl rfl (fun w' hg => ?_) (fun K hK => ?_); rotate_left; (go_simp; rfl); go_simp; refine hK _ _ ?_; clear hK K))
            refine wpE_nil ?_
            have G := Lib.hid (G.out.trans g0)
            have G9 := Lib.hid (G9.out.trans g0)
            clear g0 h7
            go_wp2_with fail
            refine ⟨⟨0 + 1, _, rfl, by go_num, by omega, by simpa using HS.out, G9.out⟩, by simp [RowKit.intOf]; omega⟩
          · obtain ⟨j, hj⟩ : ∃ j, k = j + 1 := ⟨k - 1, by omega⟩
            obtain ⟨y, hy⟩ : ∃ y, (candsM M)[j]? = some y := ⟨_, List.getElem?_eq_getElem (by omega)⟩
            have HLT := Lib.hid (cmp_lt (cands_lt j y x hy (by rw [← hj]; exact HX.out)))
            have hj1 : IntKind.i64.wrap ((k : Int) - 1) = (j : Int) := by rw [IntKind.wrap_i64]; have := HLEN.out; omega
            have hj2 : (j : Int) < ((candsM M).length : Int) := by omega
            have hk0 : (0 : Int) < (k : Int) := by omega
            have b0 := fun w' g => (mv_cells HL.out hy w' g).1
            have b1 := fun w' g => (mv_cells HL.out hy w' g).2.1
            have b2 := fun w' g => (mv_cells HL.out hy w' g).2.2
            clear hy hj
            repeat (first | (refine wpE_skip rfl rfl ?_; go_simp) | (refine wpE_readB (v := ?_) g0 rfl rfl (fun w' hg => ?_) (fun K hK => ?_); rotate_left; (go_simp; rfl); go_simp; refine hK _ _ ?_; clear hK K))
            refine wpE_fn (args := ?_) rfl rfl rfl rfl rfl rfl (by kernel_rfl) (by kernel_rfl) ?_ (fun K hK => ?_)
            rotate_left
            · go_simp; rfl
            refine (mv_Valid _ P M x (HM.out.grow g0) HF.out (HT.out.grow g0)).mono ?_
            rintro _ w7 ⟨r7, rfl, g7, h7⟩
            refine ⟨_, rfl, g7, ?_⟩
            go_simp
            refine hK _ _ ?_
            clear hK K
            replace g0 := g0.trans g7
            rcases h7.cases with ⟨rfl, _⟩ | ⟨_, k7⟩
            rotate_left
            · exact absurd HXO.out k7
            repeat (first | (refine wpE_skip rfl rfl ?_; go_simp) | (refine wpE_readB (v := ?_) g0 rfl rfl (fun w' hg => ?_) (fun K hK => ?_); rotate_left; (go_simp; rfl); go_simp; refine hK _ _ ?_; clear hK K))
            refine wpE_fn (args := ?_) rfl rfl rfl rfl rfl rfl (by kernel_rfl) (by kernel_rfl) ?_ (fun K hK => ?_)
            rotate_left
            · go_simp; rfl
            refine (mv_Compare _ y x).mono ?_
            rintro _ w8 ⟨_, rfl, g8, rfl⟩
            rw [HLT.out]
            refine ⟨_, rfl, g8, ?_⟩
            go_simp
            refine hK _ _ ?_
            clear hK K
            replace g0 := g0.trans g8
            repeat (first | (refine wpE_skip rfl rfl ?_; go_simp) | (refine wpE_readB (v := ?_) g0 rfl rfl (fun w' hg => ?_) (fun K hK => ?_); rotate_left; (go_simp; rfl); go_simp; refine hK _ _ ?_; clear hK K))
            refine wpE_nil ?_
            have G := Lib.hid (G.out.trans g0)
            have G9 := Lib.hid (G9.out.trans g0)
            clear g0 h7
            go_wp2_with fail
            refine ⟨⟨k + 1, _, rfl, by go_num, by omega, by simpa using HS.out, G9.out⟩, by simp [RowKit.intOf]; omega⟩
      · obtain rfl : k = (candsM M).length := by omega
        have hp := HP.out
        rw [List.take_length, mem_cands HOK.out] at hp
        have HP := Lib.hid hp
        clear hp
        have m0 := mc0 TM.out _ (Gr.refl _)
        have m1 := mc1 TM.out _ (Gr.refl _)
        have m2 := mc2 TM.out _ (Gr.refl _)
        have m3 := mc3 TM.out _ (Gr.refl _)
        have m4 := mc4 TM.out _ (Gr.refl _)
        have m5 := mc5 TM.out _ (Gr.refl _)
        have m6 := mc6 TM.out _ (Gr.refl _)
        have m7 := mc7 TM.out _ (Gr.refl _)
        have m8 := mc8 TM.out _ (Gr.refl _)
        have m9 := mc9 TM.out _ (Gr.refl _)
        have m10 := mc10 TM.out _ (Gr.refl _)
        have x0 := TA.out.at 0 rfl
        have x1 := TA.out.at 1 rfl
        have x2 := TA.out.at 2 rfl
        go_wp2_with fail
        clear m0 m1 m2 m3 m4 m5 m6 m7 m8 m9 m10
        clear x0 x1 x2
        refine (mv_Valid wr P M a HM.out HF.out HT.out).mono ?_
        rintro _ w7 ⟨r7, rfl, g1, t7, rfl, h7⟩
        have G := Lib.hid (G.out.trans g1)
        obtain rfl : t = t7 := Bool.eq_iff_iff.2 (by rw [HP.out, h7]; exact ⟨fun h => ⟨HOK.out, h⟩, fun h => h.2⟩)
        clear h7
        have hb : (t == t) = true := by simp
        go_wp2_with fail
        go_ret
        exact ⟨_, rfl, G.out, rfl⟩
end Go.Proofs.YtdekicijinmakaaGreatDoor
namespace Go.Proofs.YtdekicijinmakaaGreatDoor
open Go.RowKit Go.Lib Lex
set_option linter.unusedVariables false
set_option linter.unusedSimpArgs false

theorem IsVal.of {M : Mdl} {x : MvM} {f : ItemM → Int} {z : Int} {it : ItemM} (h : IsVal M x f z) (hv : MoveOK M x) (hit : M.items[(x.item - 1).toNat]? = some it) : z = f it := by
  rcases h with ⟨h, _⟩ | ⟨_, it', hit', rfl⟩
  · exact absurd hv h
  · rw [hit] at hit'
    injection hit' with e
    rw [e]
theorem dur_range {M : Mdl} {x : MvM} {it : ItemM} (h : ItemOK M it) : 1 ≤ durF x it ∧ durF x it ≤ 2097152 := by
  obtain ⟨_, _, _, h4, h5⟩ := h
  unfold Within at h4 h5
  unfold durF durM
  split
  · omega
  · rw [Int.tdiv_eq_ediv_of_nonneg (by omega)]
    have : (it.size + it.share - 1) / it.share ≤ it.size + it.share - 1 := Int.ediv_le_self _ (by omega)
    omega
theorem use_range {M : Mdl} {x : MvM} {it : ItemM} (h : ItemOK M it) : 0 ≤ useF M x it ∧ useF M x it ≤ 1048576 := by
  obtain ⟨_, _, _, h4, h5⟩ := h
  unfold Within at h4 h5
  unfold useF useM
  split <;> omega
theorem free_of {M : Mdl} {x : MvM} {it : ItemM} (h : fitsI M x it = true) (h0 : x.to ≠ 0) : placeM M x.to ≠ M.dark := by
  have hfree : freeI M it x.to = true → placeM M x.to ≠ M.dark := fun h => by
    unfold freeI at h
    simp only [Bool.and_eq_true, bne_iff_ne] at h
    exact h.2
  unfold fitsI shapeB at h
  rw [Bool.and_eq_true] at h
  have hs := h.1
  split at hs
  · rw [Bool.or_eq_true, Bool.and_eq_true, Bool.and_eq_true] at hs
    rcases hs with ⟨_, b⟩ | ⟨_, b⟩
    · exact hfree b
    · exact absurd (by simpa using b) h0
  · rw [Bool.and_eq_true] at hs
    exact hfree hs.2
theorem link_zero {M : Mdl} {x : MvM} {it : ItemM} (h : fitsI M x it = true) : linkF M x it = 0 ↔ apartM M x it = false := by
  unfold linkF
  constructor
  · intro hl
    cases ha : apartM M x it with
    | false => rfl
    | true =>
      rw [ha, if_pos rfl] at hl
      unfold fitsI at h
      rw [ha, hl] at h
      simp at h
  · intro ha
    rw [ha]; rfl
theorem apart_false {M : Mdl} {x : MvM} {it : ItemM} (h : apartM M x it = false) (hs : 0 ≤ it.size) : x.to = 0 ∨ it.size = 0 ∨ placeM M (srcM x it) = placeM M x.to := by
  unfold apartM at h
  by_cases h0 : x.to = 0
  · exact .inl h0
  · by_cases h1 : it.size = 0
    · exact .inr (.inl h1)
    · right; right
      have e0 : (x.to != 0) = true := by simpa using h0
      have e1 : decide (0 < it.size) = true := by simp; omega
      rw [e0, e1] at h
      simpa using h
theorem apart_true {M : Mdl} {x : MvM} {it : ItemM} (h : apartM M x it = true) : x.to ≠ 0 ∧ 0 < it.size ∧ placeM M (srcM x it) ≠ placeM M x.to := by
  unfold apartM at h
  simp only [Bool.and_eq_true, bne_iff_ne, decide_eq_true_eq] at h
  exact ⟨h.1.1, h.1.2, h.2⟩
set_option maxRecDepth 100000 in
set_option maxHeartbeats 3200000 in
theorem law_MovesCarry (w : World) (ht : Tab w) (P : Ptrs) (M : Mdl) (hm : MdlAt w P M) (hr : MdlR M) (x : MvM) (hxr : I64 x.item ∧ I64 x.frm ∧ I64 x.to) :
    Calls Tryz.prog 7 #[.agg (mcells P M), .agg (moveV x)] w (Ret w fun r _ => r = .bool true) := by
  have HT := Lib.hid ht
  have hf : True := trivial
  clear ht
  have HM0 := Lib.hid hm
  have HF := Lib.hid hf
  have B0 := Cells.new w (mcells P M) 29
  have B1 := Cells.new (w.alloc (.cells (mcells P M) 29)) (moveV x) 31
  simp only [World.size_alloc] at B1
  have m0 := mc0 B0.2 _ B1.1
  have m1 := mc1 B0.2 _ B1.1
  have m2 := mc2 B0.2 _ B1.1
  have m3 := mc3 B0.2 _ B1.1
  have m4 := mc4 B0.2 _ B1.1
  have m5 := mc5 B0.2 _ B1.1
  have m6 := mc6 B0.2 _ B1.1
  have m7 := mc7 B0.2 _ B1.1
  have m8 := mc8 B0.2 _ B1.1
  have m9 := mc9 B0.2 _ B1.1
  have m10 := mc10 B0.2 _ B1.1
  have x0 : World.cell? _ ⟨_, 0, none⟩ = some (.int .i64 x.item) := (B1.2).at 0 rfl
  have x1 : World.cell? _ ⟨_, 1, none⟩ = some (.int .i64 x.frm) := (B1.2).at 1 rfl
  have x2 : World.cell? _ ⟨_, 2, none⟩ = some (.int .i64 x.to) := (B1.2).at 2 rfl
  have H := Lib.hid (show _ ∧ _ ∧ _ from ⟨B0.1.trans B1.1, B0.2.grow B1.1, B1.2⟩)
  clear B0 B1 hm hf
  unfold mcells moveV at H m0 m1 m2 m3 m4 m5 m6 m7 m8 m9 m10 x0 x1 x2 ⊢
  go_enter Tryz.func7, Tryz.ntmps7
  go_wp2_with fail
  clear m0 m1 m2 m3 m4 m5 m6 m7 m8 m9 m10 x0 x1 x2
  generalize w.heap.size + 1 = bx at H ⊢
  generalize w.heap.size = bm at H ⊢
  generalize (w.alloc _).alloc _ = W at H ⊢
  have G := Lib.hid (show Gr w W from H.out.1)
  have TM := Lib.hid (show Cells W bm (mcells P M) from H.out.2.1)
  have TX := Lib.hid (show Cells W bx (moveV x) from H.out.2.2)
  have HM := Lib.hid (HM0.out.grow G.out)
  clear H
  clear HF
  have HT := Lib.hid (HT.out.grow G.out)
  refine (law23_awake W HT.out).mono ?_
  rintro _ w1 ⟨_, rfl, g1, rfl⟩
  have G := Lib.hid (G.out.trans g1)
  have TM := Lib.hid (TM.out.grow g1)
  have TX := Lib.hid (TX.out.grow g1)
  have HM := Lib.hid (HM.out.grow g1)
  have HT := Lib.hid (HT.out.grow g1)
  clear g1
  have m0 := mc0 TM.out _ (Gr.refl _)
  have m1 := mc1 TM.out _ (Gr.refl _)
  have m2 := mc2 TM.out _ (Gr.refl _)
  have m3 := mc3 TM.out _ (Gr.refl _)
  have m4 := mc4 TM.out _ (Gr.refl _)
  have m5 := mc5 TM.out _ (Gr.refl _)
  have m6 := mc6 TM.out _ (Gr.refl _)
  have m7 := mc7 TM.out _ (Gr.refl _)
  have m8 := mc8 TM.out _ (Gr.refl _)
  have m9 := mc9 TM.out _ (Gr.refl _)
  have m10 := mc10 TM.out _ (Gr.refl _)
  have x0 : World.cell? _ ⟨_, 0, none⟩ = some (.int .i64 x.item) := (TX.out).at 0 rfl
  have x1 : World.cell? _ ⟨_, 1, none⟩ = some (.int .i64 x.frm) := (TX.out).at 1 rfl
  have x2 : World.cell? _ ⟨_, 2, none⟩ = some (.int .i64 x.to) := (TX.out).at 2 rfl
  go_wp2_with fail
  clear m0 m1 m2 m3 m4 m5 m6 m7 m8 m9 m10
  clear x0 x1 x2
  refine (ref_Few w1 P M HM.out).mono ?_
  rintro _ w2 ⟨r2, rfl, g1, h⟩
  have G := Lib.hid (G.out.trans g1)
  have TM := Lib.hid (TM.out.grow g1)
  have TX := Lib.hid (TX.out.grow g1)
  have HM := Lib.hid (HM.out.grow g1)
  have HT := Lib.hid (HT.out.grow g1)
  clear g1
  rcases h.cases with ⟨rfl, k1⟩ | ⟨rfl, k1⟩
  rotate_left
  · clear h k1
    go_wp2_with fail
    try rw [Exit.noGoto_ret]
    go_ret
    exact ⟨_, rfl, G.out, rfl⟩
  have HF := Lib.hid k1
  clear h k1
  have m0 := mc0 TM.out _ (Gr.refl _)
  have m1 := mc1 TM.out _ (Gr.refl _)
  have m2 := mc2 TM.out _ (Gr.refl _)
  have m3 := mc3 TM.out _ (Gr.refl _)
  have m4 := mc4 TM.out _ (Gr.refl _)
  have m5 := mc5 TM.out _ (Gr.refl _)
  have m6 := mc6 TM.out _ (Gr.refl _)
  have m7 := mc7 TM.out _ (Gr.refl _)
  have m8 := mc8 TM.out _ (Gr.refl _)
  have m9 := mc9 TM.out _ (Gr.refl _)
  have m10 := mc10 TM.out _ (Gr.refl _)
  have x0 : World.cell? _ ⟨_, 0, none⟩ = some (.int .i64 x.item) := (TX.out).at 0 rfl
  have x1 : World.cell? _ ⟨_, 1, none⟩ = some (.int .i64 x.frm) := (TX.out).at 1 rfl
  have x2 : World.cell? _ ⟨_, 2, none⟩ = some (.int .i64 x.to) := (TX.out).at 2 rfl
  go_wp2_with fail
  clear m0 m1 m2 m3 m4 m5 m6 m7 m8 m9 m10
  clear x0 x1 x2
  refine (ref_Valid15 w2 P M HM.out HF.out).mono ?_
  rintro _ w3 ⟨r3, rfl, g1, h⟩
  have G := Lib.hid (G.out.trans g1)
  have TM := Lib.hid (TM.out.grow g1)
  have TX := Lib.hid (TX.out.grow g1)
  have HM := Lib.hid (HM.out.grow g1)
  have HT := Lib.hid (HT.out.grow g1)
  clear g1
  rcases h.cases with ⟨rfl, k1⟩ | ⟨rfl, k1⟩
  rotate_left
  · clear h k1
    go_wp2_with fail
    try rw [Exit.noGoto_ret]
    go_ret
    exact ⟨_, rfl, G.out, rfl⟩
  clear h k1
  have m0 := mc0 TM.out _ (Gr.refl _)
  have m1 := mc1 TM.out _ (Gr.refl _)
  have m2 := mc2 TM.out _ (Gr.refl _)
  have m3 := mc3 TM.out _ (Gr.refl _)
  have m4 := mc4 TM.out _ (Gr.refl _)
  have m5 := mc5 TM.out _ (Gr.refl _)
  have m6 := mc6 TM.out _ (Gr.refl _)
  have m7 := mc7 TM.out _ (Gr.refl _)
  have m8 := mc8 TM.out _ (Gr.refl _)
  have m9 := mc9 TM.out _ (Gr.refl _)
  have m10 := mc10 TM.out _ (Gr.refl _)
  have x0 : World.cell? _ ⟨_, 0, none⟩ = some (.int .i64 x.item) := (TX.out).at 0 rfl
  have x1 : World.cell? _ ⟨_, 1, none⟩ = some (.int .i64 x.frm) := (TX.out).at 1 rfl
  have x2 : World.cell? _ ⟨_, 2, none⟩ = some (.int .i64 x.to) := (TX.out).at 2 rfl
  go_wp2_with fail
  clear m0 m1 m2 m3 m4 m5 m6 m7 m8 m9 m10
  clear x0 x1 x2
  refine (mv_Valid w3 P M x HM.out HF.out HT.out).mono ?_
  rintro _ w4 ⟨r4, rfl, g1, h⟩
  have G := Lib.hid (G.out.trans g1)
  have TM := Lib.hid (TM.out.grow g1)
  have TX := Lib.hid (TX.out.grow g1)
  have HM := Lib.hid (HM.out.grow g1)
  have HT := Lib.hid (HT.out.grow g1)
  clear g1
  rcases h.cases with ⟨rfl, k1⟩ | ⟨rfl, k1⟩
  rotate_left
  · clear h k1
    go_wp2_with fail
    try rw [Exit.noGoto_ret]
    go_ret
    exact ⟨_, rfl, G.out, rfl⟩
  have HV := Lib.hid k1
  obtain ⟨hi1, hi2, it, hit, hfit, hok⟩ := k1.item
  clear h k1
  have HIT := Lib.hid hit
  have HOK := Lib.hid hok
  have HFI := Lib.hid hfit
  obtain ⟨k, hk⟩ : ∃ k : Nat, x.item = (k : Int) + 1 := ⟨(x.item - 1).toNat, by omega⟩
  have HEX := Lib.hid (show Ex x.item M.items.length from ⟨hi1, hi2⟩)
  rw [hk, show ((k : Int) + 1 - 1).toNat = k by omega] at hit
  obtain ⟨b, o, it', hpp, hit', hc⟩ := item_at HM.out.items rfl (show k < M.items.length by omega)
  obtain rfl : it = it' := Option.some.inj (hit.symm.trans hit')
  obtain ⟨p0, c0, p1, c1, p2, c2, p3, c3, p4, c4, p5, c5, p6, c6⟩ := P
  dsimp only at hpp
  subst hpp
  have hfew := HF.out.1
  have hlt' : (k : Int) < (M.items.length : Int) := by omega
  have hw1 : IntKind.i64.wrap ((k : Int) + 1 - 1) = (k : Int) := by rw [IntKind.wrap_i64]; omega
  have hww : IntKind.i64.wrap (k : Int) = (k : Int) := by rw [IntKind.wrap_i64]; omega
  have HC := Lib.hid hc
  have HK := Lib.hid hk
  clear hit hit' hc hi1 hi2 hok hk hfit
  try dsimp only
  have m0 := mc0 TM.out _ (Gr.refl _)
  have m1 := mc1 TM.out _ (Gr.refl _)
  have m2 := mc2 TM.out _ (Gr.refl _)
  have m3 := mc3 TM.out _ (Gr.refl _)
  have m4 := mc4 TM.out _ (Gr.refl _)
  have m5 := mc5 TM.out _ (Gr.refl _)
  have m6 := mc6 TM.out _ (Gr.refl _)
  have m7 := mc7 TM.out _ (Gr.refl _)
  have m8 := mc8 TM.out _ (Gr.refl _)
  have m9 := mc9 TM.out _ (Gr.refl _)
  have m10 := mc10 TM.out _ (Gr.refl _)
  try dsimp only at m0 m1 m2 m3 m4 m5 m6 m7 m8 m9 m10
  have x0 : World.cell? _ ⟨_, 0, none⟩ = some (.int .i64 x.item) := (TX.out).at 0 rfl
  have x1 : World.cell? _ ⟨_, 1, none⟩ = some (.int .i64 x.frm) := (TX.out).at 1 rfl
  have x2 : World.cell? _ ⟨_, 2, none⟩ = some (.int .i64 x.to) := (TX.out).at 2 rfl
  go_wp2_with fail
  clear m0 m1 m2 m3 m4 m5 m6 m7 m8 m9 m10
  clear x0 x1 x2
  refine (ref_Exists _ _ _).mono ?_
  rintro _ _ ⟨⟨r5, rfl, h5⟩, rfl⟩
  rcases h5.cases with ⟨rfl, k1⟩ | ⟨rfl, k1⟩
  rotate_left
  · exact absurd HEX.out k1
  clear h5 k1
  have m0 := mc0 TM.out _ (Gr.refl _)
  have m1 := mc1 TM.out _ (Gr.refl _)
  have m2 := mc2 TM.out _ (Gr.refl _)
  have m3 := mc3 TM.out _ (Gr.refl _)
  have m4 := mc4 TM.out _ (Gr.refl _)
  have m5 := mc5 TM.out _ (Gr.refl _)
  have m6 := mc6 TM.out _ (Gr.refl _)
  have m7 := mc7 TM.out _ (Gr.refl _)
  have m8 := mc8 TM.out _ (Gr.refl _)
  have m9 := mc9 TM.out _ (Gr.refl _)
  have m10 := mc10 TM.out _ (Gr.refl _)
  try dsimp only at m0 m1 m2 m3 m4 m5 m6 m7 m8 m9 m10
  have x0 : World.cell? _ ⟨_, 0, none⟩ = some (.int .i64 x.item) := (TX.out).at 0 rfl
  have x1 : World.cell? _ ⟨_, 1, none⟩ = some (.int .i64 x.frm) := (TX.out).at 1 rfl
  have x2 : World.cell? _ ⟨_, 2, none⟩ = some (.int .i64 x.to) := (TX.out).at 2 rfl
  go_wp2_with fail
  clear m0 m1 m2 m3 m4 m5 m6 m7 m8 m9 m10
  clear x0 x1 x2
  refine (ref_Domain4 w4 _ M x.to HM.out HF.out).mono ?_
  rintro _ w5 ⟨_, rfl, g1, rfl⟩
  have GC := Lib.hid g1
  have G := Lib.hid (G.out.trans g1)
  have TM := Lib.hid (TM.out.grow g1)
  have TX := Lib.hid (TX.out.grow g1)
  have HM := Lib.hid (HM.out.grow g1)
  have HT := Lib.hid (HT.out.grow g1)
  clear g1
  have HC := Lib.hid (fun w' (g : Gr w5 w') => HC.out w' (GC.out.trans g))
  go_wp2_with fail
  have g0 : Gr w5 w5.drew := (Gr.refl _).drew
  have m0 := mc0 TM.out
  have m1 := mc1 TM.out
  have m2 := mc2 TM.out
  have m3 := mc3 TM.out
  have m4 := mc4 TM.out
  have m5 := mc5 TM.out
  have m6 := mc6 TM.out
  have m7 := mc7 TM.out
  have m8 := mc8 TM.out
  have m9 := mc9 TM.out
  have m10 := mc10 TM.out
  try dsimp only at m0 m1 m2 m3 m4 m5 m6 m7 m8 m9 m10
  have x0 : ∀ w', Gr w5 w' → w'.cell? ⟨bx, 0, none⟩ = some (.int .i64 x.item) := TX.out.c 0 rfl
  have x1 : ∀ w', Gr w5 w' → w'.cell? ⟨bx, 1, none⟩ = some (.int .i64 x.frm) := TX.out.c 1 rfl
  have x2 : ∀ w', Gr w5 w' → w'.cell? ⟨bx, 2, none⟩ = some (.int .i64 x.to) := TX.out.c 2 rfl
  have hw0 : IntKind.i64.wrap (x.item - 1) = (k : Int) := by rw [HK.out]; exact hw1
  have y4 := fun w' (g : Gr w5 w') => (HC.out w' g).2.2.2.2.1
  refine wp_region_fast [(0, true), (1, true), (3, true), (4, true), (6, true), (7, true), (8, true), (9, true), (10, true), (11, true), (12, true), (13, true), (2, false), (5, false), (14, true), (15, true), (16, true)] (by kernel_rfl) (by kernel_rfl) rfl (by kernel_rfl) (fun _ _ d _ _ h => by cases d <;> exact h) ?_
  repeat (refine wpE_readB (v := ?_) g0 rfl rfl (fun w' hg => ?_) (fun K hK => ?_); rotate_left; (go_simp; rfl); go_simp; refine hK _ _ ?_; clear hK K)
  refine wpE_fn (args := ?_) rfl rfl rfl rfl rfl rfl (by kernel_rfl) (by kernel_rfl) ?_ (fun K hK => ?_)
  rotate_left
  · go_simp; rfl
  refine (mv_Duration _ _ M x (HM.out.grow g0) HF.out (HT.out.grow g0)).mono ?_
  rintro _ w6 ⟨_, rfl, g6, d, rfl, hd⟩
  refine ⟨_, rfl, g6, ?_⟩
  go_simp
  refine hK _ _ ?_
  clear hK K
  replace g0 := g0.trans g6
  repeat (refine wpE_readB (v := ?_) g0 rfl rfl (fun w' hg => ?_) (fun K hK => ?_); rotate_left; (go_simp; rfl); go_simp; refine hK _ _ ?_; clear hK K)
  refine wpE_fn (args := ?_) rfl rfl rfl rfl rfl rfl (by kernel_rfl) (by kernel_rfl) ?_ (fun K hK => ?_)
  rotate_left
  · go_simp; rfl
  refine (mv_Use _ _ M x (HM.out.grow g0) HF.out (HT.out.grow g0)).mono ?_
  rintro _ w7 ⟨_, rfl, g7, u, rfl, hu⟩
  refine ⟨_, rfl, g7, ?_⟩
  go_simp
  refine hK _ _ ?_
  clear hK K
  replace g0 := g0.trans g7
  repeat (refine wpE_readB (v := ?_) g0 rfl rfl (fun w' hg => ?_) (fun K hK => ?_); rotate_left; (go_simp; rfl); go_simp; refine hK _ _ ?_; clear hK K)
  refine wpE_nil ?_
  clear x0 x1 x2 y4
  have g1 := g0
  clear g0
  have G := Lib.hid (G.out.trans g1)
  have TM := Lib.hid (TM.out.grow g1)
  have TX := Lib.hid (TX.out.grow g1)
  have HM := Lib.hid (HM.out.grow g1)
  have HT := Lib.hid (HT.out.grow g1)
  clear g1
  have hd := hd.of HV.out HIT.out
  have hu := hu.of HV.out HIT.out
  obtain ⟨hd1, hd2⟩ := dur_range (x := x) HOK.out
  obtain ⟨hu1, hu2⟩ := use_range (x := x) HOK.out
  rw [← hd] at hd1 hd2
  rw [← hu] at hu1 hu2
  have HD := Lib.hid hd
  have HU := Lib.hid hu
  have HD1 := Lib.hid hd1
  have HD2 := Lib.hid hd2
  have HU1 := Lib.hid hu1
  have HU2 := Lib.hid hu2
  clear hd hu hd1 hd2 hu1 hu2
  by_cases h0 : x.to = 0
  · have e0 : (x.to != 0) = false := by simpa using h0
    have e2 : (x.to == 0) = true := by simpa using h0
    have H0 := Lib.hid h0
    have hdn := HD1.out
    clear h0
    have m0 := mc0 TM.out _ (Gr.refl _)
    have m1 := mc1 TM.out _ (Gr.refl _)
    have m2 := mc2 TM.out _ (Gr.refl _)
    have m3 := mc3 TM.out _ (Gr.refl _)
    have m4 := mc4 TM.out _ (Gr.refl _)
    have m5 := mc5 TM.out _ (Gr.refl _)
    have m6 := mc6 TM.out _ (Gr.refl _)
    have m7 := mc7 TM.out _ (Gr.refl _)
    have m8 := mc8 TM.out _ (Gr.refl _)
    have m9 := mc9 TM.out _ (Gr.refl _)
    have m10 := mc10 TM.out _ (Gr.refl _)
    try dsimp only at m0 m1 m2 m3 m4 m5 m6 m7 m8 m9 m10
    have x0 : World.cell? _ ⟨_, 0, none⟩ = some (.int .i64 x.item) := (TX.out).at 0 rfl
    have x1 : World.cell? _ ⟨_, 1, none⟩ = some (.int .i64 x.frm) := (TX.out).at 1 rfl
    have x2 : World.cell? _ ⟨_, 2, none⟩ = some (.int .i64 x.to) := (TX.out).at 2 rfl
    go_wp2_with fail
    clear m0 m1 m2 m3 m4 m5 m6 m7 m8 m9 m10
    clear x0 x1 x2
    refine (mv_Link w7 _ M x HM.out HF.out HT.out).mono ?_
    rintro _ w8 ⟨_, rfl, g1, l, rfl, hl⟩
    have G := Lib.hid (G.out.trans g1)
    have TM := Lib.hid (TM.out.grow g1)
    have TX := Lib.hid (TX.out.grow g1)
    have HM := Lib.hid (HM.out.grow g1)
    have HT := Lib.hid (HT.out.grow g1)
    clear g1
    have hl := hl.of HV.out HIT.out
    have hap : apartM M x it = false := by
      unfold apartM
      rw [e0]; rfl
    have hl0 := (link_zero HFI.out).2 hap
    obtain rfl : l = 0 := by rw [hl, hl0]
    have hu0 : u = 0 := by rw [HU.out]; unfold useF; rw [if_pos hl0]
    subst hu0
    clear hl hl0 hap
    go_wp2_with fail
    have g0 : Gr w8 w8.drew := (Gr.refl _).drew
    have m0 := mc0 TM.out
    have m1 := mc1 TM.out
    have m2 := mc2 TM.out
    have m3 := mc3 TM.out
    have m4 := mc4 TM.out
    have m5 := mc5 TM.out
    have m6 := mc6 TM.out
    have m7 := mc7 TM.out
    have m8 := mc8 TM.out
    have m9 := mc9 TM.out
    have m10 := mc10 TM.out
    try dsimp only at m0 m1 m2 m3 m4 m5 m6 m7 m8 m9 m10
    have x0 : ∀ w', Gr w8 w' → w'.cell? ⟨bx, 0, none⟩ = some (.int .i64 x.item) := TX.out.c 0 rfl
    have x1 : ∀ w', Gr w8 w' → w'.cell? ⟨bx, 1, none⟩ = some (.int .i64 x.frm) := TX.out.c 1 rfl
    have x2 : ∀ w', Gr w8 w' → w'.cell? ⟨bx, 2, none⟩ = some (.int .i64 x.to) := TX.out.c 2 rfl
    refine wp_region_fast [(0, true), (1, true), (2, true), (3, true), (4, true), (5, true), (6, true), (7, true), (8, true), (9, true), (10, true), (11, true), (12, true), (13, true), (16, true), (14, false), (15, false), (17, true), (18, true), (19, true), (20, true)] (by kernel_rfl) (by kernel_rfl) rfl (by kernel_rfl) (fun _ _ d _ _ h => by cases d <;> exact h) ?_
    repeat (first | (refine wpE_skip rfl rfl ?_; go_simp) | (refine wpE_readB (v := ?_) g0 rfl rfl (fun w' hg => ?_) (fun K hK => ?_); rotate_left; (go_simp; rfl); go_simp; refine hK _ _ ?_; clear hK K))
    refine wpE_nil ?_
    have G := Lib.hid (G.out.trans g0)
    go_wp2_with fail
    go_ret
    exact ⟨_, rfl, G.out, rfl⟩
  · have e0 : (x.to != 0) = true := by simpa using h0
    have e2 : (x.to == 0) = false := by simpa using h0
    have e1 : (domainM M 4 x.to == M.dark) = false := by
      have := free_of HFI.out h0
      unfold placeM at this
      simpa using this
    have H0 := Lib.hid h0
    have hdn := HD1.out
    clear h0
    have m0 := mc0 TM.out _ (Gr.refl _)
    have m1 := mc1 TM.out _ (Gr.refl _)
    have m2 := mc2 TM.out _ (Gr.refl _)
    have m3 := mc3 TM.out _ (Gr.refl _)
    have m4 := mc4 TM.out _ (Gr.refl _)
    have m5 := mc5 TM.out _ (Gr.refl _)
    have m6 := mc6 TM.out _ (Gr.refl _)
    have m7 := mc7 TM.out _ (Gr.refl _)
    have m8 := mc8 TM.out _ (Gr.refl _)
    have m9 := mc9 TM.out _ (Gr.refl _)
    have m10 := mc10 TM.out _ (Gr.refl _)
    try dsimp only at m0 m1 m2 m3 m4 m5 m6 m7 m8 m9 m10
    have x0 : World.cell? _ ⟨_, 0, none⟩ = some (.int .i64 x.item) := (TX.out).at 0 rfl
    have x1 : World.cell? _ ⟨_, 1, none⟩ = some (.int .i64 x.frm) := (TX.out).at 1 rfl
    have x2 : World.cell? _ ⟨_, 2, none⟩ = some (.int .i64 x.to) := (TX.out).at 2 rfl
    go_wp2_with fail
    clear m0 m1 m2 m3 m4 m5 m6 m7 m8 m9 m10
    clear x0 x1 x2 e1
    refine (mv_Link w7 _ M x HM.out HF.out HT.out).mono ?_
    rintro _ w8 ⟨_, rfl, g1, l, rfl, hl⟩
    have G := Lib.hid (G.out.trans g1)
    have TM := Lib.hid (TM.out.grow g1)
    have TX := Lib.hid (TX.out.grow g1)
    have HM := Lib.hid (HM.out.grow g1)
    have HT := Lib.hid (HT.out.grow g1)
    clear g1
    have hl := hl.of HV.out HIT.out
    cases hap : apartM M x it
    · have hl0 := (link_zero HFI.out).2 hap
      obtain rfl : l = 0 := by rw [hl, hl0]
      have hu0 : u = 0 := by rw [HU.out]; unfold useF; rw [if_pos hl0]
      subst hu0
      have hor := apart_false hap HOK.out.2.2.2.1.1
      have hor2 : it.size = 0 ∨ placeM M (srcM x it) = placeM M x.to := hor.resolve_left H0.out
      clear hl hl0 hap hor
      go_wp2_with fail
      have g0 : Gr w8 w8.drew := (Gr.refl _).drew
      have m0 := mc0 TM.out
      have m1 := mc1 TM.out
      have m2 := mc2 TM.out
      have m3 := mc3 TM.out
      have m4 := mc4 TM.out
      have m5 := mc5 TM.out
      have m6 := mc6 TM.out
      have m7 := mc7 TM.out
      have m8 := mc8 TM.out
      have m9 := mc9 TM.out
      have m10 := mc10 TM.out
      try dsimp only at m0 m1 m2 m3 m4 m5 m6 m7 m8 m9 m10
      try dsimp only at m0 m1 m2 m3 m4 m5 m6 m7 m8 m9 m10
      have x0 : ∀ w', Gr w8 w' → w'.cell? ⟨bx, 0, none⟩ = some (.int .i64 x.item) := TX.out.c 0 rfl
      have x1 : ∀ w', Gr w8 w' → w'.cell? ⟨bx, 1, none⟩ = some (.int .i64 x.frm) := TX.out.c 1 rfl
      have x2 : ∀ w', Gr w8 w' → w'.cell? ⟨bx, 2, none⟩ = some (.int .i64 x.to) := TX.out.c 2 rfl
      by_cases hsz : it.size = 0
      · have hz : (it.size == 0) = true := by simpa using hsz
        refine wp_region_fast [(0, true), (1, true), (2, true), (3, true), (4, true), (5, true), (6, true), (7, true), (8, true), (9, true), (10, true), (11, true), (12, true), (13, true), (16, true), (14, false), (15, false), (17, true), (18, true), (19, true), (20, true)] (by kernel_rfl) (by kernel_rfl) rfl (by kernel_rfl) (fun _ _ d _ _ h => by cases d <;> exact h) ?_
        repeat (first | (refine wpE_skip rfl rfl ?_; go_simp) | (refine wpE_readB (v := ?_) g0 rfl rfl (fun w' hg => ?_) (fun K hK => ?_); rotate_left; (go_simp; rfl); go_simp; refine hK _ _ ?_; clear hK K))
        refine wpE_nil ?_
        have G := Lib.hid (G.out.trans g0)
        go_wp2_with fail
        go_ret
        exact ⟨_, rfl, G.out, rfl⟩
      · have hz : (it.size == 0) = false := by simpa using hsz
        have HPL := Lib.hid (hor2.resolve_left hsz)
        clear hsz hor2
        refine wp_region_fast [(0, true), (1, true), (2, true), (3, true), (4, true), (5, true), (6, true), (7, true), (8, true), (9, true), (10, true), (11, true), (12, true), (13, true), (16, true), (14, false), (15, false), (17, true), (18, true), (19, true), (20, true)] (by kernel_rfl) (by kernel_rfl) rfl (by kernel_rfl) (fun _ _ d _ _ h => by cases d <;> exact h) ?_
        repeat (first | (refine wpE_skip rfl rfl ?_; go_simp) | (refine wpE_readB (v := ?_) g0 rfl rfl (fun w' hg => ?_) (fun K hK => ?_); rotate_left; (go_simp; rfl); go_simp; refine hK _ _ ?_; clear hK K))
        refine wpE_fn (args := ?_) rfl rfl rfl rfl rfl rfl (by kernel_rfl) (by kernel_rfl) ?_ (fun K hK => ?_)
        rotate_left
        · go_simp; rfl
        refine (mv_Source _ _ M x (HM.out.grow g0) HF.out (HT.out.grow g0)).mono ?_
        rintro _ w9 ⟨_, rfl, g9, s, rfl, hs⟩
        have hs := hs.of HV.out HIT.out
        rw [show srcF x it = srcM x it from by unfold srcF; rw [if_neg H0.out]] at hs
        subst hs
        refine ⟨_, rfl, g9, ?_⟩
        go_simp
        refine hK _ _ ?_
        clear hK K
        replace g0 := g0.trans g9
        repeat (first | (refine wpE_skip rfl rfl ?_; go_simp) | (refine wpE_readB (v := ?_) g0 rfl rfl (fun w' hg => ?_) (fun K hK => ?_); rotate_left; (go_simp; rfl); go_simp; refine hK _ _ ?_; clear hK K))
        refine wpE_fn (args := ?_) rfl rfl rfl rfl rfl rfl (by kernel_rfl) (by kernel_rfl) ?_ (fun K hK => ?_)
        rotate_left
        · go_simp; rfl
        refine (ref_Domain4 _ _ M (srcM x it) (HM.out.grow g0) HF.out).mono ?_
        rintro _ w10 ⟨_, rfl, g10, rfl⟩
        have hpl := HPL.out
        unfold placeM at hpl
        rw [hpl]
        refine ⟨_, rfl, g10, ?_⟩
        go_simp
        refine hK _ _ ?_
        clear hK K
        replace g0 := g0.trans g10
        repeat (first | (refine wpE_skip rfl rfl ?_; go_simp) | (refine wpE_readB (v := ?_) g0 rfl rfl (fun w' hg => ?_) (fun K hK => ?_); rotate_left; (go_simp; rfl); go_simp; refine hK _ _ ?_; clear hK K))
        refine wpE_nil ?_
        have G := Lib.hid (G.out.trans g0)
        go_wp2_with fail
        go_ret
        exact ⟨_, rfl, G.out, rfl⟩
    · obtain ⟨h1, h2, h3⟩ := apart_true hap
      have hln : l ≠ 0 := fun h => by
        rw [h] at hl
        rw [(link_zero HFI.out).1 hl.symm] at hap
        cases hap
      have hl1 : (l == 0) = false := by simpa using hln
      have hdd : d = durM it := by rw [HD.out]; unfold durF; rw [if_neg H0.out]
      have huu : u = useM it := by rw [HU.out]; unfold useF; rw [if_neg (by rw [← hl]; exact hln)]
      obtain ⟨c1, c2, c3⟩ := carry HOK.out.2.2.2.2.1 h2
      rw [← hdd, ← huu] at c1 c2
      have hmul : 0 ≤ d * u ∧ d * u ≤ 2097152 * 1048576 := ⟨Int.mul_nonneg (by have := HD1.out; omega) HU1.out, Int.mul_le_mul HD2.out HU2.out HU1.out (by decide)⟩
      have hmul2 : 0 ≤ (d - 1) * u ∧ (d - 1) * u ≤ 2097152 * 1048576 := ⟨Int.mul_nonneg (by have := HD1.out; omega) HU1.out, Int.mul_le_mul (by have := HD2.out; omega) HU2.out HU1.out (by decide)⟩
      have hwd : IntKind.i64.wrap (d - 1) = d - 1 := by rw [IntKind.wrap_i64]; have := HD1.out; have := HD2.out; omega
      have hwm : IntKind.i64.wrap (d * u) = d * u := by generalize d * u = A at *; rw [IntKind.wrap_i64]; omega
      have hwm2 : IntKind.i64.wrap ((d - 1) * u) = (d - 1) * u := by generalize (d - 1) * u = A at *; rw [IntKind.wrap_i64]; omega
      have HPL := Lib.hid h3
      clear hl hln hdd huu c3 hmul hmul2 hap h1 h2 h3 hdn
      go_wp2_with fail
      have g0 : Gr w8 w8.drew := (Gr.refl _).drew
      have m0 := mc0 TM.out
      have m1 := mc1 TM.out
      have m2 := mc2 TM.out
      have m3 := mc3 TM.out
      have m4 := mc4 TM.out
      have m5 := mc5 TM.out
      have m6 := mc6 TM.out
      have m7 := mc7 TM.out
      have m8 := mc8 TM.out
      have m9 := mc9 TM.out
      have m10 := mc10 TM.out
      try dsimp only at m0 m1 m2 m3 m4 m5 m6 m7 m8 m9 m10
      try dsimp only at m0 m1 m2 m3 m4 m5 m6 m7 m8 m9 m10
      have x0 : ∀ w', Gr w8 w' → w'.cell? ⟨bx, 0, none⟩ = some (.int .i64 x.item) := TX.out.c 0 rfl
      have x1 : ∀ w', Gr w8 w' → w'.cell? ⟨bx, 1, none⟩ = some (.int .i64 x.frm) := TX.out.c 1 rfl
      have x2 : ∀ w', Gr w8 w' → w'.cell? ⟨bx, 2, none⟩ = some (.int .i64 x.to) := TX.out.c 2 rfl
      refine wp_region_fast [(0, true), (1, true), (2, true), (3, true), (4, true), (5, true), (6, true), (7, true), (8, true), (9, true), (10, true), (11, true), (12, true), (13, true), (14, true), (15, true), (16, true), (19, true), (17, false), (18, false), (20, true), (21, true), (22, true)] (by kernel_rfl) (by kernel_rfl) rfl (by kernel_rfl) (fun _ _ d _ _ h => by cases d <;> exact h) ?_
      repeat (first | (refine wpE_skip rfl rfl ?_; go_simp) | (refine wpE_readB (v := ?_) g0 rfl rfl (fun w' hg => ?_) (fun K hK => ?_); rotate_left; (go_simp; rfl); go_simp; refine hK _ _ ?_; clear hK K))
      refine wpE_fn (args := ?_) rfl rfl rfl rfl rfl rfl (by kernel_rfl) (by kernel_rfl) ?_ (fun K hK => ?_)
      rotate_left
      · go_simp; rfl
      refine (mv_Source _ _ M x (HM.out.grow g0) HF.out (HT.out.grow g0)).mono ?_
      rintro _ w9 ⟨_, rfl, g9, s, rfl, hs⟩
      have hs := hs.of HV.out HIT.out
      rw [show srcF x it = srcM x it from by unfold srcF; rw [if_neg H0.out]] at hs
      subst hs
      refine ⟨_, rfl, g9, ?_⟩
      go_simp
      refine hK _ _ ?_
      clear hK K
      replace g0 := g0.trans g9
      repeat (first | (refine wpE_skip rfl rfl ?_; go_simp) | (refine wpE_readB (v := ?_) g0 rfl rfl (fun w' hg => ?_) (fun K hK => ?_); rotate_left; (go_simp; rfl); go_simp; refine hK _ _ ?_; clear hK K))
      refine wpE_fn (args := ?_) rfl rfl rfl rfl rfl rfl (by kernel_rfl) (by kernel_rfl) ?_ (fun K hK => ?_)
      rotate_left
      · go_simp; rfl
      refine (ref_Domain4 _ _ M (srcM x it) (HM.out.grow g0) HF.out).mono ?_
      rintro _ w10 ⟨_, rfl, g10, rfl⟩
      have hpl := HPL.out
      unfold placeM at hpl
      have hpn : (domainM M 4 (srcM x it) != domainM M 4 x.to) = true := by simpa using hpl
      refine ⟨_, rfl, g10, ?_⟩
      go_simp
      refine hK _ _ ?_
      clear hK K
      replace g0 := g0.trans g10
      repeat (first | (refine wpE_skip rfl rfl ?_; go_simp) | (refine wpE_readB (v := ?_) g0 rfl rfl (fun w' hg => ?_) (fun K hK => ?_); rotate_left; (go_simp; rfl); go_simp; refine hK _ _ ?_; clear hK K))
      refine wpE_nil ?_
      have G := Lib.hid (G.out.trans g0)
      go_wp2_with fail
      go_ret
      exact ⟨_, rfl, G.out, rfl⟩
end Go.Proofs.YtdekicijinmakaaGreatDoor

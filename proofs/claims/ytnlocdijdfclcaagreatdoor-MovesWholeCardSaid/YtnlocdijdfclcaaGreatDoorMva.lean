/-
 moves.place, source, apart, link.
-/
import Derived.Test.YtnlocdijdfclcaaGreatDoorDom
namespace Go.Proofs.YtnlocdijdfclcaaGreatDoor
open Go.RowKit Go.Lib Lex
set_option linter.unusedVariables false
set_option linter.unusedSimpArgs false

def moveV (x : MvM) : Array Value := #[.int .i64 x.item, .int .i64 x.frm, .int .i64 x.to]
def itV (x : ItemM) : Array Value := #[.string ⟨x.name.toArray⟩, .int .i64 x.kind, .int .i64 x.count, .int .i64 x.load, .int .i64 x.size, .int .i64 x.share, .slice x.onP x.on.length x.onC]
theorem mv_place (w : World) (P : Ptrs) (M : Mdl) (n : Int) (hm : MdlAt w P M) (hf : Few M) : Calls Tryz.prog 81 #[.agg (mcells P M), .int .i64 n] w (Ret w fun r _ => r = .int .i64 (placeM M n)) := by
 have HM := Lib.hid hm
 have B := Cells.new w (mcells P M) 29
 clear hm
 have m0 := mc0 B.2 _ (Gr.refl _)
 have m1 := mc1 B.2 _ (Gr.refl _)
 have m2 := mc2 B.2 _ (Gr.refl _)
 have m3 := mc3 B.2 _ (Gr.refl _)
 have m4 := mc4 B.2 _ (Gr.refl _)
 have m5 := mc5 B.2 _ (Gr.refl _)
 have m6 := mc6 B.2 _ (Gr.refl _)
 have m7 := mc7 B.2 _ (Gr.refl _)
 have m8 := mc8 B.2 _ (Gr.refl _)
 have m9 := mc9 B.2 _ (Gr.refl _)
 have m10 := mc10 B.2 _ (Gr.refl _)
 unfold mcells at B m0 m1 m2 m3 m4 m5 m6 m7 m8 m9 m10 ⊢
 go_enter Tryz.func81, Tryz.ntmps81
 go_wp2_with fail
 clear m0 m1 m2 m3 m4 m5 m6 m7 m8 m9 m10
 generalize w.heap.size = bm at B ⊢
 generalize w.alloc _ = W at B ⊢
 obtain ⟨g0, tm⟩ := B
 have TM := Lib.hid (show Cells W bm (mcells P M) from tm)
 have G := Lib.hid g0
 have HM := Lib.hid (HM.out.grow g0)
 clear g0 tm
 have m0 := mc0 TM.out _ (Gr.refl _)
 have m1 := mc1 TM.out _ (Gr.refl _)
 have m2 := mc2 TM.out _ (Gr.refl _)
 have m3 := mc3 TM.out _ (Gr.refl _)
 have m4 := mc4 TM.out _ (Gr.refl _)
 have m5 := mc5 TM.out _ (Gr.refl _)
 have m6 := mc6 TM.out _ (Gr.refl _)
 have m7 := mc7 TM.out _ (Gr.refl _)
 have m8 := mc8 TM.out _ (Gr.refl _)
 have m9 := mc9 TM.out _ (Gr.refl _)
 have m10 := mc10 TM.out _ (Gr.refl _)
 clear m0 m1 m2 m3 m4 m5 m6 m7 m8 m9 m10
 refine (dom_4 _ P M n HM.out hf).mono ?_
 rintro _ w1 ⟨_, rfl, g1, rfl⟩
 have G := Lib.hid (G.out.trans g1)
 go_wp2_with fail
 go_ret
 exact ⟨_, rfl, G.out, rfl⟩
theorem mv_source (w : World) (x : MvM) (it : ItemM) (hi : ItemOn w it) (hs : x.frm ≠ 0 ∨ it.on ≠ []) : Calls Tryz.prog 49 #[.agg (moveV x), .agg (itV it)] w (Ret w fun r _ => r = .int .i64 (srcM x it)) := by
 have B1 := Cells.new w (moveV x) 34
 have B2 := Cells.new (w.alloc (.cells (moveV x) 34)) (itV it) 61
 simp only [World.size_alloc] at B2
 have x0 : World.cell? _ ⟨_, 0, none⟩ = some (.int .i64 x.item) := (B1.2.grow B2.1).at 0 rfl
 have x1 : World.cell? _ ⟨_, 1, none⟩ = some (.int .i64 x.frm) := (B1.2.grow B2.1).at 1 rfl
 have x2 : World.cell? _ ⟨_, 2, none⟩ = some (.int .i64 x.to) := (B1.2.grow B2.1).at 2 rfl
 have i0 : World.cell? _ ⟨_, 0, none⟩ = some (.string ⟨it.name.toArray⟩) := (B2.2).at 0 rfl
 have i1 : World.cell? _ ⟨_, 1, none⟩ = some (.int .i64 it.kind) := (B2.2).at 1 rfl
 have i2 : World.cell? _ ⟨_, 2, none⟩ = some (.int .i64 it.count) := (B2.2).at 2 rfl
 have i3 : World.cell? _ ⟨_, 3, none⟩ = some (.int .i64 it.load) := (B2.2).at 3 rfl
 have i4 : World.cell? _ ⟨_, 4, none⟩ = some (.int .i64 it.size) := (B2.2).at 4 rfl
 have i5 : World.cell? _ ⟨_, 5, none⟩ = some (.int .i64 it.share) := (B2.2).at 5 rfl
 have i6 : World.cell? _ ⟨_, 6, none⟩ = some (.slice it.onP it.on.length it.onC) := (B2.2).at 6 rfl
 have G := Lib.hid (B1.1.trans B2.1)
 have HI := Lib.hid (show IntL _ (.slice it.onP it.on.length it.onC) it.on from SlL.grow hi (B1.1.trans B2.1))
 clear B1 B2 hi
 unfold moveV itV at *
 generalize it.onP = pp at *
 by_cases h0 : x.frm = 0
 ·have hne := hs.resolve_left (fun h => h h0)
  have hpos : 0 < it.on.length := List.length_pos_iff.2 hne
  have hpos' : (0 : Int) < (it.on.length : Int) := by omega
  obtain ⟨b, o, y, rfl, hy, hc⟩ := int_at HI.out rfl hpos
  have c0 := hc _ (Gr.refl _)
  rw [Nat.add_zero] at c0
  have HR := Lib.hid (show srcM x it = y from by
   unfold srcM
   rw [if_neg (by simpa using h0)]
   cases hl : it.on with
   | nil => exact absurd hl hne
   | cons z l => rw [hl] at hy; simp at hy; simpa using hy)
  have e0 : (x.frm != 0) = false := by simpa using h0
  clear hs hc hy hne h0
  go_enter Tryz.func49, Tryz.ntmps49
  go_wp2_with fail
  go_ret
  exact ⟨_, rfl, G.out, by rw [HR.out]; rfl⟩
 ·have e0 : (x.frm != 0) = true := by simpa using h0
  have HR := Lib.hid (show srcM x it = x.frm from by unfold srcM; rw [if_pos h0])
  clear hs
  go_enter Tryz.func49, Tryz.ntmps49
  go_wp2_with fail
  try rw [Exit.noGoto_ret]
  go_ret
  exact ⟨_, rfl, G.out, by rw [HR.out]; rfl⟩
set_option maxRecDepth 100000 in
set_option maxHeartbeats 1600000 in
theorem mv_apart (w : World) (P : Ptrs) (M : Mdl) (x : MvM) (it : ItemM) (hm : MdlAt w P M) (hf : Few M) (hi : ItemOn w it) (hs : x.frm ≠ 0 ∨ it.on ≠ []) :
  Calls Tryz.prog 44 #[.agg (mcells P M), .agg (moveV x), .agg (itV it)] w (Ret w fun r _ => r = .bool (apartM M x it)) := by
 have HM := Lib.hid hm
 have HF := Lib.hid hf
 have HI := Lib.hid hi
 have B0 := Cells.new w (mcells P M) 29
 have B1 := Cells.new (w.alloc (.cells (mcells P M) 29)) (moveV x) 34
 have B2 := Cells.new ((w.alloc (.cells (mcells P M) 29)).alloc (.cells (moveV x) 34)) (itV it) 61
 simp only [World.size_alloc] at B1 B2
 have H := Lib.hid (show _ ∧ _ ∧ _ ∧ _ from ⟨(B0.1.trans B1.1).trans B2.1, (B0.2.grow B1.1).grow B2.1, B1.2.grow B2.1, B2.2⟩)
 clear B0 B1 B2 hm hf hi
 unfold mcells moveV itV at H
 unfold mcells moveV itV
 go_enter Tryz.func44, Tryz.ntmps44
 go_wp2_with fail
 generalize w.heap.size + 1 + 1 = bi at H ⊢
 generalize w.heap.size + 1 = bx at H ⊢
 generalize w.heap.size = bm at H ⊢
 generalize ((w.alloc _).alloc _).alloc _ = W at H ⊢
 have G := Lib.hid H.out.1
 have TM := Lib.hid (show Cells W bm (mcells P M) from H.out.2.1)
 have TX := Lib.hid (show Cells W bx (moveV x) from H.out.2.2.1)
 have TI := Lib.hid (show Cells W bi (itV it) from H.out.2.2.2)
 have HM := Lib.hid (HM.out.grow G.out)
 have HI := Lib.hid (show ItemOn W it from SlL.grow HI.out G.out)
 clear H
 have HS := Lib.hid hs
 clear hs
 have g0 : Gr W W.drew := (Gr.refl _).drew
 have m0 := mc0 TM.out
 have m1 := mc1 TM.out
 have m2 := mc2 TM.out
 have m3 := mc3 TM.out
 have m4 := mc4 TM.out
 have m5 := mc5 TM.out
 have m6 := mc6 TM.out
 have m7 := mc7 TM.out
 have m8 := mc8 TM.out
 have m9 := mc9 TM.out
 have m10 := mc10 TM.out
 try dsimp only at m0 m1 m2 m3 m4 m5 m6 m7 m8 m9 m10
 have x0 : ∀ w', Gr W w' → w'.cell? ⟨bx, 0, none⟩ = some (.int .i64 x.item) := TX.out.c 0 rfl
 have x1 : ∀ w', Gr W w' → w'.cell? ⟨bx, 1, none⟩ = some (.int .i64 x.frm) := TX.out.c 1 rfl
 have x2 : ∀ w', Gr W w' → w'.cell? ⟨bx, 2, none⟩ = some (.int .i64 x.to) := TX.out.c 2 rfl
 have i0 : ∀ w', Gr W w' → w'.cell? ⟨bi, 0, none⟩ = some (.string ⟨it.name.toArray⟩) := TI.out.c 0 rfl
 have i1 : ∀ w', Gr W w' → w'.cell? ⟨bi, 1, none⟩ = some (.int .i64 it.kind) := TI.out.c 1 rfl
 have i2 : ∀ w', Gr W w' → w'.cell? ⟨bi, 2, none⟩ = some (.int .i64 it.count) := TI.out.c 2 rfl
 have i3 : ∀ w', Gr W w' → w'.cell? ⟨bi, 3, none⟩ = some (.int .i64 it.load) := TI.out.c 3 rfl
 have i4 : ∀ w', Gr W w' → w'.cell? ⟨bi, 4, none⟩ = some (.int .i64 it.size) := TI.out.c 4 rfl
 have i5 : ∀ w', Gr W w' → w'.cell? ⟨bi, 5, none⟩ = some (.int .i64 it.share) := TI.out.c 5 rfl
 have i6 : ∀ w', Gr W w' → w'.cell? ⟨bi, 6, none⟩ = some (.slice it.onP it.on.length it.onC) := TI.out.c 6 rfl
 obtain ⟨t1, h1⟩ : ∃ t, (x.to != 0) = t := ⟨_, rfl⟩
 obtain ⟨t2, h2⟩ : ∃ t, decide (0 < it.size) = t := ⟨_, rfl⟩
 have H1 := Lib.hid h1
 have H2 := Lib.hid h2
 refine wp_region_fast [(0, true), (1, true), (2, true), (3, true), (4, true), (5, true), (6, true), (7, true), (8, true), (9, true), (10, true), (11, true), (14, true), (15, true), (16, true), (12, false), (13, false), (17, false), (18, true), (19, true), (20, true)] (by kernel_rfl) (by kernel_rfl) rfl (by kernel_rfl) (fun _ _ d _ _ h => by cases d <;> exact h) ?_
 cases t1
 ·repeat (first | (refine wpE_skip rfl rfl ?_; go_simp) | (refine wpE_readB (v := ?_) g0 rfl rfl (fun w' hg => ?_) (fun K hK => ?_); rotate_left; (go_simp; rfl); go_simp; refine hK _ _ ?_; clear hK K))
  refine wpE_nil ?_
  have G := Lib.hid (G.out.trans g0)
  go_wp2_with fail
  go_ret
  exact ⟨_, rfl, G.out, by unfold apartM; rw [H1.out]; rfl⟩
 ·cases t2
  ·repeat (first | (refine wpE_skip rfl rfl ?_; go_simp) | (refine wpE_readB (v := ?_) g0 rfl rfl (fun w' hg => ?_) (fun K hK => ?_); rotate_left; (go_simp; rfl); go_simp; refine hK _ _ ?_; clear hK K))
   refine wpE_nil ?_
   have G := Lib.hid (G.out.trans g0)
   go_wp2_with fail
   go_ret
   exact ⟨_, rfl, G.out, by unfold apartM; rw [H1.out, H2.out]; rfl⟩
  ·repeat (refine wpE_readB (v := ?_) g0 rfl rfl (fun w' hg => ?_) (fun K hK => ?_); rotate_left; (go_simp; rfl); go_simp; refine hK _ _ ?_; clear hK K)
   refine wpE_fn (args := ?_) rfl rfl rfl rfl rfl rfl (by kernel_rfl) (by kernel_rfl) ?_ (fun K hK => ?_)
   rotate_left
   ·go_simp; rfl
   refine (mv_source _ x it (SlL.grow HI.out g0) HS.out).mono ?_
   rintro _ w2 ⟨_, rfl, g2, rfl⟩
   refine ⟨_, rfl, g2, ?_⟩
   go_simp
   refine hK _ _ ?_
   clear hK K
   replace g0 := g0.trans g2
   refine wpE_fn (args := ?_) rfl rfl rfl rfl rfl rfl (by kernel_rfl) (by kernel_rfl) ?_ (fun K hK => ?_)
   rotate_left
   ·go_simp; rfl
   refine (mv_place _ P M _ (HM.out.grow g0) HF.out).mono ?_
   rintro _ w3 ⟨_, rfl, g3, rfl⟩
   refine ⟨_, rfl, g3, ?_⟩
   go_simp
   refine hK _ _ ?_
   clear hK K
   replace g0 := g0.trans g3
   refine wpE_fn (args := ?_) rfl rfl rfl rfl rfl rfl (by kernel_rfl) (by kernel_rfl) ?_ (fun K hK => ?_)
   rotate_left
   ·go_simp; rfl
   refine (mv_place _ P M _ (HM.out.grow g0) HF.out).mono ?_
   rintro _ w4 ⟨_, rfl, g4, rfl⟩
   refine ⟨_, rfl, g4, ?_⟩
   go_simp
   refine hK _ _ ?_
   clear hK K
   replace g0 := g0.trans g4
   repeat (refine wpE_readB (v := ?_) g0 rfl rfl (fun w' hg => ?_) (fun K hK => ?_); rotate_left; (go_simp; rfl); go_simp; refine hK _ _ ?_; clear hK K)
   refine wpE_nil ?_
   have G := Lib.hid (G.out.trans g0)
   go_wp2_with fail
   go_ret
   exact ⟨_, rfl, G.out, by unfold apartM; rw [H1.out, H2.out]; rfl⟩
set_option maxRecDepth 100000 in
set_option maxHeartbeats 1600000 in
theorem mv_link (w : World) (P : Ptrs) (M : Mdl) (x : MvM) (it : ItemM) (hm : MdlAt w P M) (hf : Few M) (hi : ItemOn w it) (hs : x.frm ≠ 0 ∨ it.on ≠ []) :
  Calls Tryz.prog 45 #[.agg (mcells P M), .agg (moveV x), .agg (itV it)] w (Ret w fun r _ => r = .int .i64 (linkOf M x it)) := by
 have HM := Lib.hid hm
 have HF := Lib.hid hf
 have HI := Lib.hid hi
 have B0 := Cells.new w (mcells P M) 29
 have B1 := Cells.new (w.alloc (.cells (mcells P M) 29)) (moveV x) 34
 have B2 := Cells.new ((w.alloc (.cells (mcells P M) 29)).alloc (.cells (moveV x) 34)) (itV it) 61
 simp only [World.size_alloc] at B1 B2
 have H := Lib.hid (show _ ∧ _ ∧ _ ∧ _ from ⟨(B0.1.trans B1.1).trans B2.1, (B0.2.grow B1.1).grow B2.1, B1.2.grow B2.1, B2.2⟩)
 clear B0 B1 B2 hm hf hi
 unfold mcells moveV itV at H
 unfold mcells moveV itV
 go_enter Tryz.func45, Tryz.ntmps45
 go_wp2_with fail
 generalize w.heap.size + 1 + 1 = bi at H ⊢
 generalize w.heap.size + 1 = bx at H ⊢
 generalize w.heap.size = bm at H ⊢
 generalize ((w.alloc _).alloc _).alloc _ = W at H ⊢
 have G := Lib.hid H.out.1
 have TM := Lib.hid (show Cells W bm (mcells P M) from H.out.2.1)
 have TX := Lib.hid (show Cells W bx (moveV x) from H.out.2.2.1)
 have TI := Lib.hid (show Cells W bi (itV it) from H.out.2.2.2)
 have HM := Lib.hid (HM.out.grow G.out)
 have HI := Lib.hid (show ItemOn W it from SlL.grow HI.out G.out)
 clear H
 have HS := Lib.hid hs
 clear hs
 have g0 : Gr W W.drew := (Gr.refl _).drew
 have m0 := mc0 TM.out
 have m1 := mc1 TM.out
 have m2 := mc2 TM.out
 have m3 := mc3 TM.out
 have m4 := mc4 TM.out
 have m5 := mc5 TM.out
 have m6 := mc6 TM.out
 have m7 := mc7 TM.out
 have m8 := mc8 TM.out
 have m9 := mc9 TM.out
 have m10 := mc10 TM.out
 try dsimp only at m0 m1 m2 m3 m4 m5 m6 m7 m8 m9 m10
 have x0 : ∀ w', Gr W w' → w'.cell? ⟨bx, 0, none⟩ = some (.int .i64 x.item) := TX.out.c 0 rfl
 have x1 : ∀ w', Gr W w' → w'.cell? ⟨bx, 1, none⟩ = some (.int .i64 x.frm) := TX.out.c 1 rfl
 have x2 : ∀ w', Gr W w' → w'.cell? ⟨bx, 2, none⟩ = some (.int .i64 x.to) := TX.out.c 2 rfl
 have i0 : ∀ w', Gr W w' → w'.cell? ⟨bi, 0, none⟩ = some (.string ⟨it.name.toArray⟩) := TI.out.c 0 rfl
 have i1 : ∀ w', Gr W w' → w'.cell? ⟨bi, 1, none⟩ = some (.int .i64 it.kind) := TI.out.c 1 rfl
 have i2 : ∀ w', Gr W w' → w'.cell? ⟨bi, 2, none⟩ = some (.int .i64 it.count) := TI.out.c 2 rfl
 have i3 : ∀ w', Gr W w' → w'.cell? ⟨bi, 3, none⟩ = some (.int .i64 it.load) := TI.out.c 3 rfl
 have i4 : ∀ w', Gr W w' → w'.cell? ⟨bi, 4, none⟩ = some (.int .i64 it.size) := TI.out.c 4 rfl
 have i5 : ∀ w', Gr W w' → w'.cell? ⟨bi, 5, none⟩ = some (.int .i64 it.share) := TI.out.c 5 rfl
 have i6 : ∀ w', Gr W w' → w'.cell? ⟨bi, 6, none⟩ = some (.slice it.onP it.on.length it.onC) := TI.out.c 6 rfl
 refine wp_region_fast [(0, true), (1, true), (2, true), (3, true), (6, true), (7, true), (8, true), (4, false), (5, false), (9, false), (10, false), (11, true)] (by kernel_rfl) (by kernel_rfl) rfl (by kernel_rfl) (fun _ _ d _ _ h => by cases d <;> exact h) ?_
 repeat (refine wpE_readB (v := ?_) g0 rfl rfl (fun w' hg => ?_) (fun K hK => ?_); rotate_left; (go_simp; rfl); go_simp; refine hK _ _ ?_; clear hK K)
 refine wpE_fn (args := ?_) rfl rfl rfl rfl rfl rfl (by kernel_rfl) (by kernel_rfl) ?_ (fun K hK => ?_)
 rotate_left
 ·go_simp; rfl
 refine (mv_source _ x it (SlL.grow HI.out g0) HS.out).mono ?_
 rintro _ w2 ⟨_, rfl, g2, rfl⟩
 refine ⟨_, rfl, g2, ?_⟩
 go_simp
 refine hK _ _ ?_
 clear hK K
 replace g0 := g0.trans g2
 refine wpE_fn (args := ?_) rfl rfl rfl rfl rfl rfl (by kernel_rfl) (by kernel_rfl) ?_ (fun K hK => ?_)
 rotate_left
 ·go_simp; rfl
 refine (mv_place _ P M _ (HM.out.grow g0) HF.out).mono ?_
 rintro _ w3 ⟨_, rfl, g3, rfl⟩
 refine ⟨_, rfl, g3, ?_⟩
 go_simp
 refine hK _ _ ?_
 clear hK K
 replace g0 := g0.trans g3
 refine wpE_fn (args := ?_) rfl rfl rfl rfl rfl rfl (by kernel_rfl) (by kernel_rfl) ?_ (fun K hK => ?_)
 rotate_left
 ·go_simp; rfl
 refine (mv_place _ P M _ (HM.out.grow g0) HF.out).mono ?_
 rintro _ w4 ⟨_, rfl, g4, rfl⟩
 refine ⟨_, rfl, g4, ?_⟩
 go_simp
 refine hK _ _ ?_
 clear hK K
 replace g0 := g0.trans g4
 refine wpE_fn (args := ?_) rfl rfl rfl rfl rfl rfl (by kernel_rfl) (by kernel_rfl) ?_ (fun K hK => ?_)
 rotate_left
 ·go_simp; rfl
 refine (site_Link _ P M _ _ (HM.out.grow g0) HF.out).mono ?_
 rintro _ w5 ⟨_, rfl, g5, rfl⟩
 refine ⟨_, rfl, g5, ?_⟩
 go_simp
 refine hK _ _ ?_
 clear hK K
 replace g0 := g0.trans g5
 repeat (refine wpE_readB (v := ?_) g0 rfl rfl (fun w' hg => ?_) (fun K hK => ?_); rotate_left; (go_simp; rfl); go_simp; refine hK _ _ ?_; clear hK K)
 refine wpE_nil ?_
 have G := Lib.hid (G.out.trans g0)
 go_wp2_with fail
 go_ret
 exact ⟨_, rfl, G.out, rfl⟩
end Go.Proofs.YtnlocdijdfclcaaGreatDoor

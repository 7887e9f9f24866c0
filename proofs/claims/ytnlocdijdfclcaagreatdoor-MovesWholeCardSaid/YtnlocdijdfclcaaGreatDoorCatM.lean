/-
 catalog.validRule, the other kinds.
-/
import Derived.Test.YtnlocdijdfclcaaGreatDoorCatK
import Derived.Laws.EntriesVeiled
namespace Go.Proofs.YtnlocdijdfclcaaGreatDoor
open Go.RowKit Go.Lib Lex
set_option linter.unusedVariables false
set_option linter.unusedSimpArgs false
theorem no_form {k : Int} (h : ¬ k = 0 ∧ ¬ k = 1 ∧ ¬ k = 2 ∧ ¬ k = 3 ∧ ¬ k = 4 ∧ ¬ k = 5 ∧ ¬ k = 6) : fkv (.int .i64) (.int .i64 k) formsL = some none := by
 obtain ⟨h0, h1, h2, h3, h4, h5, h6⟩ := h
 have b0 : (k == 0) = false := by simpa using h0
 have b1 : (k == 1) = false := by simpa using h1
 have b2 : (k == 2) = false := by simpa using h2
 have b3 : (k == 3) = false := by simpa using h3
 have b4 : (k == 4) = false := by simpa using h4
 have b5 : (k == 5) = false := by simpa using h5
 have b6 : (k == 6) = false := by simpa using h6
 simp [formsL, fkv, Instr.sameNow, b0, b1, b2, b3, b4, b5, b6]

set_option maxRecDepth 100000 in
set_option maxHeartbeats 1600000 in
theorem cat_validRule1 (w : World) (P : Ptrs) (M : Mdl) (x : RuleM) (hm : MdlAt w P M) (hx : RuleMs w x) (hb : x.ms.length ≤ 1000000) (hk : x.kind = 1) :
  Calls Tryz.prog 75 #[.agg (mcells P M), .agg (ruleV x)] w (Ret w fun r _ => Tells (RuleOK M x) r) := by
 have HK := Lib.hid hk
 clear hk
 have HM := Lib.hid hm
 have HX := Lib.hid hx
 have B0 := Cells.new w (mcells P M) 29
 have B := Cells.new (w.alloc (.cells (mcells P M) 29)) #[.int .i64 x.kind, .int .i64 x.item, .int .i64 x.other, .int .i64 x.n, .int .i64 x.bye, .bool x.always, .slice x.msP x.ms.length x.msC] 63
 rw [World.size_alloc] at B
 clear hm hx
 have m0 := mc0 B0.2 _ B.1
 have m1 := mc1 B0.2 _ B.1
 have m2 := mc2 B0.2 _ B.1
 have m3 := mc3 B0.2 _ B.1
 have m4 := mc4 B0.2 _ B.1
 have m5 := mc5 B0.2 _ B.1
 have m6 := mc6 B0.2 _ B.1
 have m7 := mc7 B0.2 _ B.1
 have m8 := mc8 B0.2 _ B.1
 have m9 := mc9 B0.2 _ B.1
 have m10 := mc10 B0.2 _ B.1
 have x0 : World.cell? _ ⟨_, 0, none⟩ = some (.int .i64 x.kind) := (B.2).at 0 rfl
 have x1 : World.cell? _ ⟨_, 1, none⟩ = some (.int .i64 x.item) := (B.2).at 1 rfl
 have x2 : World.cell? _ ⟨_, 2, none⟩ = some (.int .i64 x.other) := (B.2).at 2 rfl
 have x3 : World.cell? _ ⟨_, 3, none⟩ = some (.int .i64 x.n) := (B.2).at 3 rfl
 have x4 : World.cell? _ ⟨_, 4, none⟩ = some (.int .i64 x.bye) := (B.2).at 4 rfl
 have x5 : World.cell? _ ⟨_, 5, none⟩ = some (.bool x.always) := (B.2).at 5 rfl
 have x6 : World.cell? _ ⟨_, 6, none⟩ = some (.slice x.msP x.ms.length x.msC) := (B.2).at 6 rfl
 have H0 := Lib.hid (B0.1.trans B.1)
 have H1 := Lib.hid (B0.2.grow B.1)
 have H2 := Lib.hid B.2
 clear B0 B
 unfold ruleV
 unfold mcells at H0 H1 H2 m0 m1 m2 m3 m4 m5 m6 m7 m8 m9 m10 x0 x1 x2 x3 x4 x5 x6 ⊢
 go_enter Tryz.func75, Tryz.ntmps75
 go_wp2_with fail
 clear m0 m1 m2 m3 m4 m5 m6 m7 m8 m9 m10 x0 x1 x2 x3 x4 x5 x6
 generalize w.heap.size + 1 = bx at H2 ⊢
 generalize w.heap.size = bm at H1 ⊢
 generalize (w.alloc _).alloc _ = W at H0 H1 H2 ⊢
 have TM := Lib.hid (show Cells W bm (mcells P M) from H1.out)
 have TX := Lib.hid H2.out
 have G := Lib.hid H0.out
 have HM := Lib.hid (HM.out.grow G.out)
 have HX := Lib.hid (SlL.grow HX.out G.out)
 clear H0 H1 H2
 have m0 := mc0 TM.out _ (Gr.refl _)
 have m1 := mc1 TM.out _ (Gr.refl _)
 have m2 := mc2 TM.out _ (Gr.refl _)
 have m3 := mc3 TM.out _ (Gr.refl _)
 have m4 := mc4 TM.out _ (Gr.refl _)
 have m5 := mc5 TM.out _ (Gr.refl _)
 have m6 := mc6 TM.out _ (Gr.refl _)
 have m7 := mc7 TM.out _ (Gr.refl _)
 have m8 := mc8 TM.out _ (Gr.refl _)
 have m9 := mc9 TM.out _ (Gr.refl _)
 have m10 := mc10 TM.out _ (Gr.refl _)
 have x0 : World.cell? W ⟨_, 0, none⟩ = some (.int .i64 x.kind) := (TX.out).at 0 rfl
 have x1 : World.cell? W ⟨_, 1, none⟩ = some (.int .i64 x.item) := (TX.out).at 1 rfl
 have x2 : World.cell? W ⟨_, 2, none⟩ = some (.int .i64 x.other) := (TX.out).at 2 rfl
 have x3 : World.cell? W ⟨_, 3, none⟩ = some (.int .i64 x.n) := (TX.out).at 3 rfl
 have x4 : World.cell? W ⟨_, 4, none⟩ = some (.int .i64 x.bye) := (TX.out).at 4 rfl
 have x5 : World.cell? W ⟨_, 5, none⟩ = some (.bool x.always) := (TX.out).at 5 rfl
 have x6 : World.cell? W ⟨_, 6, none⟩ = some (.slice x.msP x.ms.length x.msC) := (TX.out).at 6 rfl
 clear m0 m1 m2 m3 m4 m5 m6 m7 m8 m9 m10
 clear x0 x1 x2 x3 x4 x5 x6
 have x0 : ∀ w', Gr W w' → w'.cell? ⟨bx, 0, none⟩ = some (.int .i64 x.kind) := TX.out.c 0 rfl
 have g0 : Gr W W.drew := (Gr.refl _).drew
 refine wp_region_late zcF 60 [(1, 1), (2, 1), (0, 0), (3, 1), (4, 1), (5, 1), (6, 1), (7, 2), (8, 0), (9, 1)] (by kernel_rfl) (by kernel_rfl) rfl (by kernel_rfl) (fun _ _ d _ _ h => by cases d <;> exact h) (fun _ _ d _ _ h => by cases d <;> exact h) (by intro i hi; simp at hi; subst hi; exact ⟨_, _, rfl, rfl, rfl, allocF⟩) ?_
 repeat (refine wpF_readB (v := ?_) g0 rfl rfl (fun w' hg => ?_) (fun K hK => ?_); rotate_left; (go_simp; rfl); go_simp; refine hK _ _ ?_; clear hK K)
 refine wpF_do rfl rfl (fun K hK w1 g1 => ?_)
 go_simp
 refine (cat_forms _).mono ?_
 rintro _ w2 ⟨r2, rfl, g2, b, rfl, hf⟩
 refine ⟨fun _ => g2, hK _ _ ?_⟩
 clear hK K
 have hl := form_look w2 b hf x.kind (frm 155 156) (by rw [HK.out]; rfl)
 have g9 := (g0.trans g1).trans g2
 clear g0 g1 g2 hf
 have gr := Gr.refl w2
 try dsimp only [frm] at hl
 repeat (refine wpF_readB (v := ?_) gr rfl rfl (fun w' hg => ?_) (fun K hK => ?_); rotate_left; (go_simp; rfl); go_simp; refine hK _ _ ?_; clear hK K)
 clear hl x0
 refine wpF_new rfl rfl (fun K w8 b5 g8 f2 n2 hK => hK _ _ ?_)
 clear hK K
 have T2' := f2.twoF
 clear f2
 refine wpF_do rfl rfl (fun K hK w10 g10 => ?_)
 have e2 := T2'.grow g10
 have d0 := e2.c0 w10 (Gr.refl _)
 have d1 := e2.c1 w10 (Gr.refl _)
 have d2 := Cells.f e2 0
 have d3 := Cells.f e2 1
 go_simp
 refine ⟨fun h => Bool.noConfusion h, hK _ _ ?_⟩
 clear hK K
 have h13 := (g9.trans (g8.trans g10)).two n2 (.func (.func 155) #[] #[]) (.func (.func 156) #[] #[])
 have T5 := e2.set (.func (.func 155) #[] #[]) (.func (.func 156) #[] #[])
 clear d0 d1 d2 d3 e2 T2' gr
 generalize (w10.setCell _ _).setCell _ _ = W3 at h13 T5 ⊢
 have gr := Gr.refl W3
 repeat (refine wpF_readB (v := ?_) gr rfl rfl (fun w' hg => ?_) (fun K hK => ?_); rotate_left; (go_simp; rfl); go_simp; refine hK _ _ ?_; clear hK K)
 refine wpF_nil ?_
 clear n2 g8 g10 g9 gr
 have G := Lib.hid (G.out.trans h13)
 have TM := Lib.hid (TM.out.grow h13)
 have TX := Lib.hid (TX.out.grow h13)
 have HM := Lib.hid (HM.out.grow h13)
 have HX := Lib.hid (HX.out.grow h13)
 clear h13
 have T5 := Lib.hid T5
 go_wp2_with fail
 have g0 : Gr W3 W3.drew := (Gr.refl _).drew
 have m0 := mc0 TM.out
 have m1 := mc1 TM.out
 have m2 := mc2 TM.out
 have m3 := mc3 TM.out
 have m4 := mc4 TM.out
 have m5 := mc5 TM.out
 have m6 := mc6 TM.out
 have m7 := mc7 TM.out
 have m8 := mc8 TM.out
 have m9 := mc9 TM.out
 have m10 := mc10 TM.out
 try dsimp only at m0 m1 m2 m3 m4 m5 m6 m7 m8 m9 m10
 have x0 : ∀ w', Gr W3 w' → w'.cell? ⟨bx, 0, none⟩ = some (.int .i64 x.kind) := TX.out.c 0 rfl
 have x1 : ∀ w', Gr W3 w' → w'.cell? ⟨bx, 1, none⟩ = some (.int .i64 x.item) := TX.out.c 1 rfl
 have x2 : ∀ w', Gr W3 w' → w'.cell? ⟨bx, 2, none⟩ = some (.int .i64 x.other) := TX.out.c 2 rfl
 have x3 : ∀ w', Gr W3 w' → w'.cell? ⟨bx, 3, none⟩ = some (.int .i64 x.n) := TX.out.c 3 rfl
 have x4 : ∀ w', Gr W3 w' → w'.cell? ⟨bx, 4, none⟩ = some (.int .i64 x.bye) := TX.out.c 4 rfl
 have x5 : ∀ w', Gr W3 w' → w'.cell? ⟨bx, 5, none⟩ = some (.bool x.always) := TX.out.c 5 rfl
 have x6 : ∀ w', Gr W3 w' → w'.cell? ⟨bx, 6, none⟩ = some (.slice x.msP x.ms.length x.msC) := TX.out.c 6 rfl
 have t0 := T5.out.c0
 have t1 := T5.out.c1
 have he1 : ∀ args w, (callFunc 155 args).run Tryz.prog w = .ok (.enter 155 args) w := enters_of Tryz.func155 (by kernel_rfl) rfl
 have he2 : ∀ args w, (callFunc 156 args).run Tryz.prog w = .ok (.enter 156 args) w := enters_of Tryz.func156 (by kernel_rfl) rfl
 refine wp_region_fast [(0, true), (1, true), (2, true), (3, true), (4, true), (5, true), (6, false), (7, true), (8, true), (9, true), (10, true), (11, true), (12, true), (13, false), (14, false), (15, true), (16, true)] (by kernel_rfl) (by kernel_rfl) rfl (by kernel_rfl) (fun _ _ d _ _ h => by cases d <;> exact h) ?_
 repeat (refine wpE_readB (v := ?_) g0 rfl rfl (fun w' hg => ?_) (fun K hK => ?_); rotate_left; (go_simp; rfl); go_simp; refine hK _ _ ?_; clear hK K)
 refine wpE_fnV (args := ?_) rfl rfl rfl rfl rfl he1 ?_ (fun K hK => ?_)
 rotate_left
 ·go_simp; rfl
 refine (frm_3 _ P M x (HM.out.grow g0) (HX.out.grow g0)).mono ?_
 rintro _ w4 ⟨r4, rfl, g4, h4⟩
 refine ⟨_, rfl, g4, ?_⟩
 go_simp
 refine hK _ _ ?_
 clear hK K
 have G := Lib.hid (G.out.trans (g0.trans g4))
 replace g0 := g0.trans g4
 rcases h4.cases with ⟨rfl, k1⟩ | ⟨rfl, k1⟩ <;> have h1 := Lib.hid k1 <;> clear k1 h4
 ·repeat (refine wpE_readB (v := ?_) g0 rfl rfl (fun w' hg => ?_) (fun K hK => ?_); rotate_left; (go_simp; rfl); go_simp; refine hK _ _ ?_; clear hK K)
  refine wpE_fnV (args := ?_) rfl rfl rfl rfl rfl he2 ?_ (fun K hK => ?_)
  rotate_left
  ·go_simp; rfl
  refine (prj_4 _ x).mono ?_
  rintro _ w5 ⟨_, rfl, g5, rfl⟩
  refine ⟨_, rfl, g5, ?_⟩
  go_simp
  refine hK _ _ ?_
  clear hK K
  have G := Lib.hid (G.out.trans g5)
  replace g0 := g0.trans g5
  repeat (refine wpE_readB (v := ?_) g0 rfl rfl (fun w' hg => ?_) (fun K hK => ?_); rotate_left; (go_simp; rfl); go_simp; refine hK _ _ ?_; clear hK K)
  refine wpE_fn (args := ?_) rfl rfl rfl rfl rfl rfl (by kernel_rfl) (by kernel_rfl) ?_ (fun K hK => ?_)
  rotate_left
  ·go_simp; rfl
  refine (cat_same _ x { noRule with item := x.item, n := x.n, always := x.always } (HX.out.grow g0) (noms _) hb (Nat.zero_le _)).mono ?_
  rintro _ w6 ⟨r6, rfl, g6, h6⟩
  refine ⟨_, rfl, g6, ?_⟩
  go_simp
  refine hK _ _ ?_
  clear hK K
  have G := Lib.hid (G.out.trans g6)
  replace g0 := g0.trans g6
  rcases h6.cases with ⟨rfl, k1⟩ | ⟨rfl, k1⟩ <;> have h2 := Lib.hid k1 <;> clear k1 h6
  ·repeat (refine wpE_readB (v := ?_) g0 rfl rfl (fun w' hg => ?_) (fun K hK => ?_); rotate_left; (go_simp; rfl); go_simp; refine hK _ _ ?_; clear hK K)
   refine wpE_nil ?_
   go_wp2_with fail
   go_ret
   exact ⟨_, rfl, G.out, Tells.yes ((fin_1 HK.out).2 ⟨h1.out, h2.out⟩)⟩
  ·repeat (refine wpE_readB (v := ?_) g0 rfl rfl (fun w' hg => ?_) (fun K hK => ?_); rotate_left; (go_simp; rfl); go_simp; refine hK _ _ ?_; clear hK K)
   refine wpE_nil ?_
   go_wp2_with fail
   go_ret
   exact ⟨_, rfl, G.out, Tells.no fun h => h2.out ((fin_1 HK.out).1 h).2⟩
 ·repeat (refine wpE_readB (v := ?_) g0 rfl rfl (fun w' hg => ?_) (fun K hK => ?_); rotate_left; (go_simp; rfl); go_simp; refine hK _ _ ?_; clear hK K)
  repeat (refine wpE_skip rfl rfl ?_; go_simp)
  repeat (refine wpE_readB (v := ?_) g0 rfl rfl (fun w' hg => ?_) (fun K hK => ?_); rotate_left; (go_simp; rfl); go_simp; refine hK _ _ ?_; clear hK K)
  refine wpE_nil ?_
  go_wp2_with fail
  go_ret
  exact ⟨_, rfl, G.out, Tells.no fun h => h1.out ((fin_1 HK.out).1 h).1⟩
set_option maxRecDepth 100000 in
set_option maxHeartbeats 1600000 in
theorem cat_validRule2 (w : World) (P : Ptrs) (M : Mdl) (x : RuleM) (hm : MdlAt w P M) (hx : RuleMs w x) (hb : x.ms.length ≤ 1000000) (hk : x.kind = 2) :
  Calls Tryz.prog 75 #[.agg (mcells P M), .agg (ruleV x)] w (Ret w fun r _ => Tells (RuleOK M x) r) := by
 have HK := Lib.hid hk
 clear hk
 have HM := Lib.hid hm
 have HX := Lib.hid hx
 have B0 := Cells.new w (mcells P M) 29
 have B := Cells.new (w.alloc (.cells (mcells P M) 29)) #[.int .i64 x.kind, .int .i64 x.item, .int .i64 x.other, .int .i64 x.n, .int .i64 x.bye, .bool x.always, .slice x.msP x.ms.length x.msC] 63
 rw [World.size_alloc] at B
 clear hm hx
 have m0 := mc0 B0.2 _ B.1
 have m1 := mc1 B0.2 _ B.1
 have m2 := mc2 B0.2 _ B.1
 have m3 := mc3 B0.2 _ B.1
 have m4 := mc4 B0.2 _ B.1
 have m5 := mc5 B0.2 _ B.1
 have m6 := mc6 B0.2 _ B.1
 have m7 := mc7 B0.2 _ B.1
 have m8 := mc8 B0.2 _ B.1
 have m9 := mc9 B0.2 _ B.1
 have m10 := mc10 B0.2 _ B.1
 have x0 : World.cell? _ ⟨_, 0, none⟩ = some (.int .i64 x.kind) := (B.2).at 0 rfl
 have x1 : World.cell? _ ⟨_, 1, none⟩ = some (.int .i64 x.item) := (B.2).at 1 rfl
 have x2 : World.cell? _ ⟨_, 2, none⟩ = some (.int .i64 x.other) := (B.2).at 2 rfl
 have x3 : World.cell? _ ⟨_, 3, none⟩ = some (.int .i64 x.n) := (B.2).at 3 rfl
 have x4 : World.cell? _ ⟨_, 4, none⟩ = some (.int .i64 x.bye) := (B.2).at 4 rfl
 have x5 : World.cell? _ ⟨_, 5, none⟩ = some (.bool x.always) := (B.2).at 5 rfl
 have x6 : World.cell? _ ⟨_, 6, none⟩ = some (.slice x.msP x.ms.length x.msC) := (B.2).at 6 rfl
 have H0 := Lib.hid (B0.1.trans B.1)
 have H1 := Lib.hid (B0.2.grow B.1)
 have H2 := Lib.hid B.2
 clear B0 B
 unfold ruleV
 unfold mcells at H0 H1 H2 m0 m1 m2 m3 m4 m5 m6 m7 m8 m9 m10 x0 x1 x2 x3 x4 x5 x6 ⊢
 go_enter Tryz.func75, Tryz.ntmps75
 go_wp2_with fail
 clear m0 m1 m2 m3 m4 m5 m6 m7 m8 m9 m10 x0 x1 x2 x3 x4 x5 x6
 generalize w.heap.size + 1 = bx at H2 ⊢
 generalize w.heap.size = bm at H1 ⊢
 generalize (w.alloc _).alloc _ = W at H0 H1 H2 ⊢
 have TM := Lib.hid (show Cells W bm (mcells P M) from H1.out)
 have TX := Lib.hid H2.out
 have G := Lib.hid H0.out
 have HM := Lib.hid (HM.out.grow G.out)
 have HX := Lib.hid (SlL.grow HX.out G.out)
 clear H0 H1 H2
 have m0 := mc0 TM.out _ (Gr.refl _)
 have m1 := mc1 TM.out _ (Gr.refl _)
 have m2 := mc2 TM.out _ (Gr.refl _)
 have m3 := mc3 TM.out _ (Gr.refl _)
 have m4 := mc4 TM.out _ (Gr.refl _)
 have m5 := mc5 TM.out _ (Gr.refl _)
 have m6 := mc6 TM.out _ (Gr.refl _)
 have m7 := mc7 TM.out _ (Gr.refl _)
 have m8 := mc8 TM.out _ (Gr.refl _)
 have m9 := mc9 TM.out _ (Gr.refl _)
 have m10 := mc10 TM.out _ (Gr.refl _)
 have x0 : World.cell? W ⟨_, 0, none⟩ = some (.int .i64 x.kind) := (TX.out).at 0 rfl
 have x1 : World.cell? W ⟨_, 1, none⟩ = some (.int .i64 x.item) := (TX.out).at 1 rfl
 have x2 : World.cell? W ⟨_, 2, none⟩ = some (.int .i64 x.other) := (TX.out).at 2 rfl
 have x3 : World.cell? W ⟨_, 3, none⟩ = some (.int .i64 x.n) := (TX.out).at 3 rfl
 have x4 : World.cell? W ⟨_, 4, none⟩ = some (.int .i64 x.bye) := (TX.out).at 4 rfl
 have x5 : World.cell? W ⟨_, 5, none⟩ = some (.bool x.always) := (TX.out).at 5 rfl
 have x6 : World.cell? W ⟨_, 6, none⟩ = some (.slice x.msP x.ms.length x.msC) := (TX.out).at 6 rfl
 clear m0 m1 m2 m3 m4 m5 m6 m7 m8 m9 m10
 clear x0 x1 x2 x3 x4 x5 x6
 have x0 : ∀ w', Gr W w' → w'.cell? ⟨bx, 0, none⟩ = some (.int .i64 x.kind) := TX.out.c 0 rfl
 have g0 : Gr W W.drew := (Gr.refl _).drew
 refine wp_region_late zcF 60 [(1, 1), (2, 1), (0, 0), (3, 1), (4, 1), (5, 1), (6, 1), (7, 2), (8, 0), (9, 1)] (by kernel_rfl) (by kernel_rfl) rfl (by kernel_rfl) (fun _ _ d _ _ h => by cases d <;> exact h) (fun _ _ d _ _ h => by cases d <;> exact h) (by intro i hi; simp at hi; subst hi; exact ⟨_, _, rfl, rfl, rfl, allocF⟩) ?_
 repeat (refine wpF_readB (v := ?_) g0 rfl rfl (fun w' hg => ?_) (fun K hK => ?_); rotate_left; (go_simp; rfl); go_simp; refine hK _ _ ?_; clear hK K)
 refine wpF_do rfl rfl (fun K hK w1 g1 => ?_)
 go_simp
 refine (cat_forms _).mono ?_
 rintro _ w2 ⟨r2, rfl, g2, b, rfl, hf⟩
 refine ⟨fun _ => g2, hK _ _ ?_⟩
 clear hK K
 have hl := form_look w2 b hf x.kind (frm 157 158) (by rw [HK.out]; rfl)
 have g9 := (g0.trans g1).trans g2
 clear g0 g1 g2 hf
 have gr := Gr.refl w2
 try dsimp only [frm] at hl
 repeat (refine wpF_readB (v := ?_) gr rfl rfl (fun w' hg => ?_) (fun K hK => ?_); rotate_left; (go_simp; rfl); go_simp; refine hK _ _ ?_; clear hK K)
 clear hl x0
 refine wpF_new rfl rfl (fun K w8 b5 g8 f2 n2 hK => hK _ _ ?_)
 clear hK K
 have T2' := f2.twoF
 clear f2
 refine wpF_do rfl rfl (fun K hK w10 g10 => ?_)
 have e2 := T2'.grow g10
 have d0 := e2.c0 w10 (Gr.refl _)
 have d1 := e2.c1 w10 (Gr.refl _)
 have d2 := Cells.f e2 0
 have d3 := Cells.f e2 1
 go_simp
 refine ⟨fun h => Bool.noConfusion h, hK _ _ ?_⟩
 clear hK K
 have h13 := (g9.trans (g8.trans g10)).two n2 (.func (.func 157) #[] #[]) (.func (.func 158) #[] #[])
 have T5 := e2.set (.func (.func 157) #[] #[]) (.func (.func 158) #[] #[])
 clear d0 d1 d2 d3 e2 T2' gr
 generalize (w10.setCell _ _).setCell _ _ = W3 at h13 T5 ⊢
 have gr := Gr.refl W3
 repeat (refine wpF_readB (v := ?_) gr rfl rfl (fun w' hg => ?_) (fun K hK => ?_); rotate_left; (go_simp; rfl); go_simp; refine hK _ _ ?_; clear hK K)
 refine wpF_nil ?_
 clear n2 g8 g10 g9 gr
 have G := Lib.hid (G.out.trans h13)
 have TM := Lib.hid (TM.out.grow h13)
 have TX := Lib.hid (TX.out.grow h13)
 have HM := Lib.hid (HM.out.grow h13)
 have HX := Lib.hid (HX.out.grow h13)
 clear h13
 have T5 := Lib.hid T5
 go_wp2_with fail
 have g0 : Gr W3 W3.drew := (Gr.refl _).drew
 have m0 := mc0 TM.out
 have m1 := mc1 TM.out
 have m2 := mc2 TM.out
 have m3 := mc3 TM.out
 have m4 := mc4 TM.out
 have m5 := mc5 TM.out
 have m6 := mc6 TM.out
 have m7 := mc7 TM.out
 have m8 := mc8 TM.out
 have m9 := mc9 TM.out
 have m10 := mc10 TM.out
 try dsimp only at m0 m1 m2 m3 m4 m5 m6 m7 m8 m9 m10
 have x0 : ∀ w', Gr W3 w' → w'.cell? ⟨bx, 0, none⟩ = some (.int .i64 x.kind) := TX.out.c 0 rfl
 have x1 : ∀ w', Gr W3 w' → w'.cell? ⟨bx, 1, none⟩ = some (.int .i64 x.item) := TX.out.c 1 rfl
 have x2 : ∀ w', Gr W3 w' → w'.cell? ⟨bx, 2, none⟩ = some (.int .i64 x.other) := TX.out.c 2 rfl
 have x3 : ∀ w', Gr W3 w' → w'.cell? ⟨bx, 3, none⟩ = some (.int .i64 x.n) := TX.out.c 3 rfl
 have x4 : ∀ w', Gr W3 w' → w'.cell? ⟨bx, 4, none⟩ = some (.int .i64 x.bye) := TX.out.c 4 rfl
 have x5 : ∀ w', Gr W3 w' → w'.cell? ⟨bx, 5, none⟩ = some (.bool x.always) := TX.out.c 5 rfl
 have x6 : ∀ w', Gr W3 w' → w'.cell? ⟨bx, 6, none⟩ = some (.slice x.msP x.ms.length x.msC) := TX.out.c 6 rfl
 have t0 := T5.out.c0
 have t1 := T5.out.c1
 have he1 : ∀ args w, (callFunc 157 args).run Tryz.prog w = .ok (.enter 157 args) w := enters_of Tryz.func157 (by kernel_rfl) rfl
 have he2 : ∀ args w, (callFunc 158 args).run Tryz.prog w = .ok (.enter 158 args) w := enters_of Tryz.func158 (by kernel_rfl) rfl
 refine wp_region_fast [(0, true), (1, true), (2, true), (3, true), (4, true), (5, true), (6, false), (7, true), (8, true), (9, true), (10, true), (11, true), (12, true), (13, false), (14, false), (15, true), (16, true)] (by kernel_rfl) (by kernel_rfl) rfl (by kernel_rfl) (fun _ _ d _ _ h => by cases d <;> exact h) ?_
 repeat (refine wpE_readB (v := ?_) g0 rfl rfl (fun w' hg => ?_) (fun K hK => ?_); rotate_left; (go_simp; rfl); go_simp; refine hK _ _ ?_; clear hK K)
 refine wpE_fnV (args := ?_) rfl rfl rfl rfl rfl he1 ?_ (fun K hK => ?_)
 rotate_left
 ·go_simp; rfl
 refine (frm_5 _ P M x (HM.out.grow g0) (HX.out.grow g0)).mono ?_
 rintro _ w4 ⟨r4, rfl, g4, h4⟩
 refine ⟨_, rfl, g4, ?_⟩
 go_simp
 refine hK _ _ ?_
 clear hK K
 have G := Lib.hid (G.out.trans (g0.trans g4))
 replace g0 := g0.trans g4
 rcases h4.cases with ⟨rfl, k1⟩ | ⟨rfl, k1⟩ <;> have h1 := Lib.hid k1 <;> clear k1 h4
 ·repeat (refine wpE_readB (v := ?_) g0 rfl rfl (fun w' hg => ?_) (fun K hK => ?_); rotate_left; (go_simp; rfl); go_simp; refine hK _ _ ?_; clear hK K)
  refine wpE_fnV (args := ?_) rfl rfl rfl rfl rfl he2 ?_ (fun K hK => ?_)
  rotate_left
  ·go_simp; rfl
  refine (prj_6 _ x).mono ?_
  rintro _ w5 ⟨_, rfl, g5, rfl⟩
  refine ⟨_, rfl, g5, ?_⟩
  go_simp
  refine hK _ _ ?_
  clear hK K
  have G := Lib.hid (G.out.trans g5)
  replace g0 := g0.trans g5
  repeat (refine wpE_readB (v := ?_) g0 rfl rfl (fun w' hg => ?_) (fun K hK => ?_); rotate_left; (go_simp; rfl); go_simp; refine hK _ _ ?_; clear hK K)
  refine wpE_fn (args := ?_) rfl rfl rfl rfl rfl rfl (by kernel_rfl) (by kernel_rfl) ?_ (fun K hK => ?_)
  rotate_left
  ·go_simp; rfl
  refine (cat_same _ x { noRule with item := x.item, n := x.n, bye := x.bye } (HX.out.grow g0) (noms _) hb (Nat.zero_le _)).mono ?_
  rintro _ w6 ⟨r6, rfl, g6, h6⟩
  refine ⟨_, rfl, g6, ?_⟩
  go_simp
  refine hK _ _ ?_
  clear hK K
  have G := Lib.hid (G.out.trans g6)
  replace g0 := g0.trans g6
  rcases h6.cases with ⟨rfl, k1⟩ | ⟨rfl, k1⟩ <;> have h2 := Lib.hid k1 <;> clear k1 h6
  ·repeat (refine wpE_readB (v := ?_) g0 rfl rfl (fun w' hg => ?_) (fun K hK => ?_); rotate_left; (go_simp; rfl); go_simp; refine hK _ _ ?_; clear hK K)
   refine wpE_nil ?_
   go_wp2_with fail
   go_ret
   exact ⟨_, rfl, G.out, Tells.yes ((fin_2 HK.out).2 ⟨h1.out, h2.out⟩)⟩
  ·repeat (refine wpE_readB (v := ?_) g0 rfl rfl (fun w' hg => ?_) (fun K hK => ?_); rotate_left; (go_simp; rfl); go_simp; refine hK _ _ ?_; clear hK K)
   refine wpE_nil ?_
   go_wp2_with fail
   go_ret
   exact ⟨_, rfl, G.out, Tells.no fun h => h2.out ((fin_2 HK.out).1 h).2⟩
 ·repeat (refine wpE_readB (v := ?_) g0 rfl rfl (fun w' hg => ?_) (fun K hK => ?_); rotate_left; (go_simp; rfl); go_simp; refine hK _ _ ?_; clear hK K)
  repeat (refine wpE_skip rfl rfl ?_; go_simp)
  repeat (refine wpE_readB (v := ?_) g0 rfl rfl (fun w' hg => ?_) (fun K hK => ?_); rotate_left; (go_simp; rfl); go_simp; refine hK _ _ ?_; clear hK K)
  refine wpE_nil ?_
  go_wp2_with fail
  go_ret
  exact ⟨_, rfl, G.out, Tells.no fun h => h1.out ((fin_2 HK.out).1 h).1⟩
set_option maxRecDepth 100000 in
set_option maxHeartbeats 1600000 in
theorem cat_validRule3 (w : World) (P : Ptrs) (M : Mdl) (x : RuleM) (hm : MdlAt w P M) (hx : RuleMs w x) (hb : x.ms.length ≤ 1000000) (hk : x.kind = 3) :
  Calls Tryz.prog 75 #[.agg (mcells P M), .agg (ruleV x)] w (Ret w fun r _ => Tells (RuleOK M x) r) := by
 have HK := Lib.hid hk
 clear hk
 have HM := Lib.hid hm
 have HX := Lib.hid hx
 have B0 := Cells.new w (mcells P M) 29
 have B := Cells.new (w.alloc (.cells (mcells P M) 29)) #[.int .i64 x.kind, .int .i64 x.item, .int .i64 x.other, .int .i64 x.n, .int .i64 x.bye, .bool x.always, .slice x.msP x.ms.length x.msC] 63
 rw [World.size_alloc] at B
 clear hm hx
 have m0 := mc0 B0.2 _ B.1
 have m1 := mc1 B0.2 _ B.1
 have m2 := mc2 B0.2 _ B.1
 have m3 := mc3 B0.2 _ B.1
 have m4 := mc4 B0.2 _ B.1
 have m5 := mc5 B0.2 _ B.1
 have m6 := mc6 B0.2 _ B.1
 have m7 := mc7 B0.2 _ B.1
 have m8 := mc8 B0.2 _ B.1
 have m9 := mc9 B0.2 _ B.1
 have m10 := mc10 B0.2 _ B.1
 have x0 : World.cell? _ ⟨_, 0, none⟩ = some (.int .i64 x.kind) := (B.2).at 0 rfl
 have x1 : World.cell? _ ⟨_, 1, none⟩ = some (.int .i64 x.item) := (B.2).at 1 rfl
 have x2 : World.cell? _ ⟨_, 2, none⟩ = some (.int .i64 x.other) := (B.2).at 2 rfl
 have x3 : World.cell? _ ⟨_, 3, none⟩ = some (.int .i64 x.n) := (B.2).at 3 rfl
 have x4 : World.cell? _ ⟨_, 4, none⟩ = some (.int .i64 x.bye) := (B.2).at 4 rfl
 have x5 : World.cell? _ ⟨_, 5, none⟩ = some (.bool x.always) := (B.2).at 5 rfl
 have x6 : World.cell? _ ⟨_, 6, none⟩ = some (.slice x.msP x.ms.length x.msC) := (B.2).at 6 rfl
 have H0 := Lib.hid (B0.1.trans B.1)
 have H1 := Lib.hid (B0.2.grow B.1)
 have H2 := Lib.hid B.2
 clear B0 B
 unfold ruleV
 unfold mcells at H0 H1 H2 m0 m1 m2 m3 m4 m5 m6 m7 m8 m9 m10 x0 x1 x2 x3 x4 x5 x6 ⊢
 go_enter Tryz.func75, Tryz.ntmps75
 go_wp2_with fail
 clear m0 m1 m2 m3 m4 m5 m6 m7 m8 m9 m10 x0 x1 x2 x3 x4 x5 x6
 generalize w.heap.size + 1 = bx at H2 ⊢
 generalize w.heap.size = bm at H1 ⊢
 generalize (w.alloc _).alloc _ = W at H0 H1 H2 ⊢
 have TM := Lib.hid (show Cells W bm (mcells P M) from H1.out)
 have TX := Lib.hid H2.out
 have G := Lib.hid H0.out
 have HM := Lib.hid (HM.out.grow G.out)
 have HX := Lib.hid (SlL.grow HX.out G.out)
 clear H0 H1 H2
 have m0 := mc0 TM.out _ (Gr.refl _)
 have m1 := mc1 TM.out _ (Gr.refl _)
 have m2 := mc2 TM.out _ (Gr.refl _)
 have m3 := mc3 TM.out _ (Gr.refl _)
 have m4 := mc4 TM.out _ (Gr.refl _)
 have m5 := mc5 TM.out _ (Gr.refl _)
 have m6 := mc6 TM.out _ (Gr.refl _)
 have m7 := mc7 TM.out _ (Gr.refl _)
 have m8 := mc8 TM.out _ (Gr.refl _)
 have m9 := mc9 TM.out _ (Gr.refl _)
 have m10 := mc10 TM.out _ (Gr.refl _)
 have x0 : World.cell? W ⟨_, 0, none⟩ = some (.int .i64 x.kind) := (TX.out).at 0 rfl
 have x1 : World.cell? W ⟨_, 1, none⟩ = some (.int .i64 x.item) := (TX.out).at 1 rfl
 have x2 : World.cell? W ⟨_, 2, none⟩ = some (.int .i64 x.other) := (TX.out).at 2 rfl
 have x3 : World.cell? W ⟨_, 3, none⟩ = some (.int .i64 x.n) := (TX.out).at 3 rfl
 have x4 : World.cell? W ⟨_, 4, none⟩ = some (.int .i64 x.bye) := (TX.out).at 4 rfl
 have x5 : World.cell? W ⟨_, 5, none⟩ = some (.bool x.always) := (TX.out).at 5 rfl
 have x6 : World.cell? W ⟨_, 6, none⟩ = some (.slice x.msP x.ms.length x.msC) := (TX.out).at 6 rfl
 clear m0 m1 m2 m3 m4 m5 m6 m7 m8 m9 m10
 clear x0 x1 x2 x3 x4 x5 x6
 have x0 : ∀ w', Gr W w' → w'.cell? ⟨bx, 0, none⟩ = some (.int .i64 x.kind) := TX.out.c 0 rfl
 have g0 : Gr W W.drew := (Gr.refl _).drew
 refine wp_region_late zcF 60 [(1, 1), (2, 1), (0, 0), (3, 1), (4, 1), (5, 1), (6, 1), (7, 2), (8, 0), (9, 1)] (by kernel_rfl) (by kernel_rfl) rfl (by kernel_rfl) (fun _ _ d _ _ h => by cases d <;> exact h) (fun _ _ d _ _ h => by cases d <;> exact h) (by intro i hi; simp at hi; subst hi; exact ⟨_, _, rfl, rfl, rfl, allocF⟩) ?_
 repeat (refine wpF_readB (v := ?_) g0 rfl rfl (fun w' hg => ?_) (fun K hK => ?_); rotate_left; (go_simp; rfl); go_simp; refine hK _ _ ?_; clear hK K)
 refine wpF_do rfl rfl (fun K hK w1 g1 => ?_)
 go_simp
 refine (cat_forms _).mono ?_
 rintro _ w2 ⟨r2, rfl, g2, b, rfl, hf⟩
 refine ⟨fun _ => g2, hK _ _ ?_⟩
 clear hK K
 have hl := form_look w2 b hf x.kind (frm 159 160) (by rw [HK.out]; rfl)
 have g9 := (g0.trans g1).trans g2
 clear g0 g1 g2 hf
 have gr := Gr.refl w2
 try dsimp only [frm] at hl
 repeat (refine wpF_readB (v := ?_) gr rfl rfl (fun w' hg => ?_) (fun K hK => ?_); rotate_left; (go_simp; rfl); go_simp; refine hK _ _ ?_; clear hK K)
 clear hl x0
 refine wpF_new rfl rfl (fun K w8 b5 g8 f2 n2 hK => hK _ _ ?_)
 clear hK K
 have T2' := f2.twoF
 clear f2
 refine wpF_do rfl rfl (fun K hK w10 g10 => ?_)
 have e2 := T2'.grow g10
 have d0 := e2.c0 w10 (Gr.refl _)
 have d1 := e2.c1 w10 (Gr.refl _)
 have d2 := Cells.f e2 0
 have d3 := Cells.f e2 1
 go_simp
 refine ⟨fun h => Bool.noConfusion h, hK _ _ ?_⟩
 clear hK K
 have h13 := (g9.trans (g8.trans g10)).two n2 (.func (.func 159) #[] #[]) (.func (.func 160) #[] #[])
 have T5 := e2.set (.func (.func 159) #[] #[]) (.func (.func 160) #[] #[])
 clear d0 d1 d2 d3 e2 T2' gr
 generalize (w10.setCell _ _).setCell _ _ = W3 at h13 T5 ⊢
 have gr := Gr.refl W3
 repeat (refine wpF_readB (v := ?_) gr rfl rfl (fun w' hg => ?_) (fun K hK => ?_); rotate_left; (go_simp; rfl); go_simp; refine hK _ _ ?_; clear hK K)
 refine wpF_nil ?_
 clear n2 g8 g10 g9 gr
 have G := Lib.hid (G.out.trans h13)
 have TM := Lib.hid (TM.out.grow h13)
 have TX := Lib.hid (TX.out.grow h13)
 have HM := Lib.hid (HM.out.grow h13)
 have HX := Lib.hid (HX.out.grow h13)
 clear h13
 have T5 := Lib.hid T5
 go_wp2_with fail
 have g0 : Gr W3 W3.drew := (Gr.refl _).drew
 have m0 := mc0 TM.out
 have m1 := mc1 TM.out
 have m2 := mc2 TM.out
 have m3 := mc3 TM.out
 have m4 := mc4 TM.out
 have m5 := mc5 TM.out
 have m6 := mc6 TM.out
 have m7 := mc7 TM.out
 have m8 := mc8 TM.out
 have m9 := mc9 TM.out
 have m10 := mc10 TM.out
 try dsimp only at m0 m1 m2 m3 m4 m5 m6 m7 m8 m9 m10
 have x0 : ∀ w', Gr W3 w' → w'.cell? ⟨bx, 0, none⟩ = some (.int .i64 x.kind) := TX.out.c 0 rfl
 have x1 : ∀ w', Gr W3 w' → w'.cell? ⟨bx, 1, none⟩ = some (.int .i64 x.item) := TX.out.c 1 rfl
 have x2 : ∀ w', Gr W3 w' → w'.cell? ⟨bx, 2, none⟩ = some (.int .i64 x.other) := TX.out.c 2 rfl
 have x3 : ∀ w', Gr W3 w' → w'.cell? ⟨bx, 3, none⟩ = some (.int .i64 x.n) := TX.out.c 3 rfl
 have x4 : ∀ w', Gr W3 w' → w'.cell? ⟨bx, 4, none⟩ = some (.int .i64 x.bye) := TX.out.c 4 rfl
 have x5 : ∀ w', Gr W3 w' → w'.cell? ⟨bx, 5, none⟩ = some (.bool x.always) := TX.out.c 5 rfl
 have x6 : ∀ w', Gr W3 w' → w'.cell? ⟨bx, 6, none⟩ = some (.slice x.msP x.ms.length x.msC) := TX.out.c 6 rfl
 have t0 := T5.out.c0
 have t1 := T5.out.c1
 have he1 : ∀ args w, (callFunc 159 args).run Tryz.prog w = .ok (.enter 159 args) w := enters_of Tryz.func159 (by kernel_rfl) rfl
 have he2 : ∀ args w, (callFunc 160 args).run Tryz.prog w = .ok (.enter 160 args) w := enters_of Tryz.func160 (by kernel_rfl) rfl
 refine wp_region_fast [(0, true), (1, true), (2, true), (3, true), (4, true), (5, true), (6, false), (7, true), (8, true), (9, true), (10, true), (11, true), (12, true), (13, false), (14, false), (15, true), (16, true)] (by kernel_rfl) (by kernel_rfl) rfl (by kernel_rfl) (fun _ _ d _ _ h => by cases d <;> exact h) ?_
 repeat (refine wpE_readB (v := ?_) g0 rfl rfl (fun w' hg => ?_) (fun K hK => ?_); rotate_left; (go_simp; rfl); go_simp; refine hK _ _ ?_; clear hK K)
 refine wpE_fnV (args := ?_) rfl rfl rfl rfl rfl he1 ?_ (fun K hK => ?_)
 rotate_left
 ·go_simp; rfl
 refine (frm_7 _ P M x (HM.out.grow g0) (HX.out.grow g0) hb).mono ?_
 rintro _ w4 ⟨r4, rfl, g4, h4⟩
 refine ⟨_, rfl, g4, ?_⟩
 go_simp
 refine hK _ _ ?_
 clear hK K
 have G := Lib.hid (G.out.trans (g0.trans g4))
 replace g0 := g0.trans g4
 rcases h4.cases with ⟨rfl, k1⟩ | ⟨rfl, k1⟩ <;> have h1 := Lib.hid k1 <;> clear k1 h4
 ·repeat (refine wpE_readB (v := ?_) g0 rfl rfl (fun w' hg => ?_) (fun K hK => ?_); rotate_left; (go_simp; rfl); go_simp; refine hK _ _ ?_; clear hK K)
  refine wpE_fnV (args := ?_) rfl rfl rfl rfl rfl he2 ?_ (fun K hK => ?_)
  rotate_left
  ·go_simp; rfl
  refine (prj_8 _ x).mono ?_
  rintro _ w5 ⟨_, rfl, g5, rfl⟩
  refine ⟨_, rfl, g5, ?_⟩
  go_simp
  refine hK _ _ ?_
  clear hK K
  have G := Lib.hid (G.out.trans g5)
  replace g0 := g0.trans g5
  repeat (refine wpE_readB (v := ?_) g0 rfl rfl (fun w' hg => ?_) (fun K hK => ?_); rotate_left; (go_simp; rfl); go_simp; refine hK _ _ ?_; clear hK K)
  refine wpE_fn (args := ?_) rfl rfl rfl rfl rfl rfl (by kernel_rfl) (by kernel_rfl) ?_ (fun K hK => ?_)
  rotate_left
  ·go_simp; rfl
  refine (cat_same _ x { noRule with item := x.item, msP := x.msP, msC := x.msC, ms := x.ms } (HX.out.grow g0) (HX.out.grow g0) hb (hb)).mono ?_
  rintro _ w6 ⟨r6, rfl, g6, h6⟩
  refine ⟨_, rfl, g6, ?_⟩
  go_simp
  refine hK _ _ ?_
  clear hK K
  have G := Lib.hid (G.out.trans g6)
  replace g0 := g0.trans g6
  rcases h6.cases with ⟨rfl, k1⟩ | ⟨rfl, k1⟩ <;> have h2 := Lib.hid k1 <;> clear k1 h6
  ·repeat (refine wpE_readB (v := ?_) g0 rfl rfl (fun w' hg => ?_) (fun K hK => ?_); rotate_left; (go_simp; rfl); go_simp; refine hK _ _ ?_; clear hK K)
   refine wpE_nil ?_
   go_wp2_with fail
   go_ret
   exact ⟨_, rfl, G.out, Tells.yes ((fin_3 HK.out).2 ⟨h1.out, h2.out⟩)⟩
  ·repeat (refine wpE_readB (v := ?_) g0 rfl rfl (fun w' hg => ?_) (fun K hK => ?_); rotate_left; (go_simp; rfl); go_simp; refine hK _ _ ?_; clear hK K)
   refine wpE_nil ?_
   go_wp2_with fail
   go_ret
   exact ⟨_, rfl, G.out, Tells.no fun h => h2.out ((fin_3 HK.out).1 h).2⟩
 ·repeat (refine wpE_readB (v := ?_) g0 rfl rfl (fun w' hg => ?_) (fun K hK => ?_); rotate_left; (go_simp; rfl); go_simp; refine hK _ _ ?_; clear hK K)
  repeat (refine wpE_skip rfl rfl ?_; go_simp)
  repeat (refine wpE_readB (v := ?_) g0 rfl rfl (fun w' hg => ?_) (fun K hK => ?_); rotate_left; (go_simp; rfl); go_simp; refine hK _ _ ?_; clear hK K)
  refine wpE_nil ?_
  go_wp2_with fail
  go_ret
  exact ⟨_, rfl, G.out, Tells.no fun h => h1.out ((fin_3 HK.out).1 h).1⟩
set_option maxRecDepth 100000 in
set_option maxHeartbeats 1600000 in
theorem cat_validRule4 (w : World) (P : Ptrs) (M : Mdl) (x : RuleM) (hm : MdlAt w P M) (hx : RuleMs w x) (hb : x.ms.length ≤ 1000000) (hk : x.kind = 4) :
  Calls Tryz.prog 75 #[.agg (mcells P M), .agg (ruleV x)] w (Ret w fun r _ => Tells (RuleOK M x) r) := by
 have HK := Lib.hid hk
 clear hk
 have HM := Lib.hid hm
 have HX := Lib.hid hx
 have B0 := Cells.new w (mcells P M) 29
 have B := Cells.new (w.alloc (.cells (mcells P M) 29)) #[.int .i64 x.kind, .int .i64 x.item, .int .i64 x.other, .int .i64 x.n, .int .i64 x.bye, .bool x.always, .slice x.msP x.ms.length x.msC] 63
 rw [World.size_alloc] at B
 clear hm hx
 have m0 := mc0 B0.2 _ B.1
 have m1 := mc1 B0.2 _ B.1
 have m2 := mc2 B0.2 _ B.1
 have m3 := mc3 B0.2 _ B.1
 have m4 := mc4 B0.2 _ B.1
 have m5 := mc5 B0.2 _ B.1
 have m6 := mc6 B0.2 _ B.1
 have m7 := mc7 B0.2 _ B.1
 have m8 := mc8 B0.2 _ B.1
 have m9 := mc9 B0.2 _ B.1
 have m10 := mc10 B0.2 _ B.1
 have x0 : World.cell? _ ⟨_, 0, none⟩ = some (.int .i64 x.kind) := (B.2).at 0 rfl
 have x1 : World.cell? _ ⟨_, 1, none⟩ = some (.int .i64 x.item) := (B.2).at 1 rfl
 have x2 : World.cell? _ ⟨_, 2, none⟩ = some (.int .i64 x.other) := (B.2).at 2 rfl
 have x3 : World.cell? _ ⟨_, 3, none⟩ = some (.int .i64 x.n) := (B.2).at 3 rfl
 have x4 : World.cell? _ ⟨_, 4, none⟩ = some (.int .i64 x.bye) := (B.2).at 4 rfl
 have x5 : World.cell? _ ⟨_, 5, none⟩ = some (.bool x.always) := (B.2).at 5 rfl
 have x6 : World.cell? _ ⟨_, 6, none⟩ = some (.slice x.msP x.ms.length x.msC) := (B.2).at 6 rfl
 have H0 := Lib.hid (B0.1.trans B.1)
 have H1 := Lib.hid (B0.2.grow B.1)
 have H2 := Lib.hid B.2
 clear B0 B
 unfold ruleV
 unfold mcells at H0 H1 H2 m0 m1 m2 m3 m4 m5 m6 m7 m8 m9 m10 x0 x1 x2 x3 x4 x5 x6 ⊢
 go_enter Tryz.func75, Tryz.ntmps75
 go_wp2_with fail
 clear m0 m1 m2 m3 m4 m5 m6 m7 m8 m9 m10 x0 x1 x2 x3 x4 x5 x6
 generalize w.heap.size + 1 = bx at H2 ⊢
 generalize w.heap.size = bm at H1 ⊢
 generalize (w.alloc _).alloc _ = W at H0 H1 H2 ⊢
 have TM := Lib.hid (show Cells W bm (mcells P M) from H1.out)
 have TX := Lib.hid H2.out
 have G := Lib.hid H0.out
 have HM := Lib.hid (HM.out.grow G.out)
 have HX := Lib.hid (SlL.grow HX.out G.out)
 clear H0 H1 H2
 have m0 := mc0 TM.out _ (Gr.refl _)
 have m1 := mc1 TM.out _ (Gr.refl _)
 have m2 := mc2 TM.out _ (Gr.refl _)
 have m3 := mc3 TM.out _ (Gr.refl _)
 have m4 := mc4 TM.out _ (Gr.refl _)
 have m5 := mc5 TM.out _ (Gr.refl _)
 have m6 := mc6 TM.out _ (Gr.refl _)
 have m7 := mc7 TM.out _ (Gr.refl _)
 have m8 := mc8 TM.out _ (Gr.refl _)
 have m9 := mc9 TM.out _ (Gr.refl _)
 have m10 := mc10 TM.out _ (Gr.refl _)
 have x0 : World.cell? W ⟨_, 0, none⟩ = some (.int .i64 x.kind) := (TX.out).at 0 rfl
 have x1 : World.cell? W ⟨_, 1, none⟩ = some (.int .i64 x.item) := (TX.out).at 1 rfl
 have x2 : World.cell? W ⟨_, 2, none⟩ = some (.int .i64 x.other) := (TX.out).at 2 rfl
 have x3 : World.cell? W ⟨_, 3, none⟩ = some (.int .i64 x.n) := (TX.out).at 3 rfl
 have x4 : World.cell? W ⟨_, 4, none⟩ = some (.int .i64 x.bye) := (TX.out).at 4 rfl
 have x5 : World.cell? W ⟨_, 5, none⟩ = some (.bool x.always) := (TX.out).at 5 rfl
 have x6 : World.cell? W ⟨_, 6, none⟩ = some (.slice x.msP x.ms.length x.msC) := (TX.out).at 6 rfl
 clear m0 m1 m2 m3 m4 m5 m6 m7 m8 m9 m10
 clear x0 x1 x2 x3 x4 x5 x6
 have x0 : ∀ w', Gr W w' → w'.cell? ⟨bx, 0, none⟩ = some (.int .i64 x.kind) := TX.out.c 0 rfl
 have g0 : Gr W W.drew := (Gr.refl _).drew
 refine wp_region_late zcF 60 [(1, 1), (2, 1), (0, 0), (3, 1), (4, 1), (5, 1), (6, 1), (7, 2), (8, 0), (9, 1)] (by kernel_rfl) (by kernel_rfl) rfl (by kernel_rfl) (fun _ _ d _ _ h => by cases d <;> exact h) (fun _ _ d _ _ h => by cases d <;> exact h) (by intro i hi; simp at hi; subst hi; exact ⟨_, _, rfl, rfl, rfl, allocF⟩) ?_
 repeat (refine wpF_readB (v := ?_) g0 rfl rfl (fun w' hg => ?_) (fun K hK => ?_); rotate_left; (go_simp; rfl); go_simp; refine hK _ _ ?_; clear hK K)
 refine wpF_do rfl rfl (fun K hK w1 g1 => ?_)
 go_simp
 refine (cat_forms _).mono ?_
 rintro _ w2 ⟨r2, rfl, g2, b, rfl, hf⟩
 refine ⟨fun _ => g2, hK _ _ ?_⟩
 clear hK K
 have hl := form_look w2 b hf x.kind (frm 161 162) (by rw [HK.out]; rfl)
 have g9 := (g0.trans g1).trans g2
 clear g0 g1 g2 hf
 have gr := Gr.refl w2
 try dsimp only [frm] at hl
 repeat (refine wpF_readB (v := ?_) gr rfl rfl (fun w' hg => ?_) (fun K hK => ?_); rotate_left; (go_simp; rfl); go_simp; refine hK _ _ ?_; clear hK K)
 clear hl x0
 refine wpF_new rfl rfl (fun K w8 b5 g8 f2 n2 hK => hK _ _ ?_)
 clear hK K
 have T2' := f2.twoF
 clear f2
 refine wpF_do rfl rfl (fun K hK w10 g10 => ?_)
 have e2 := T2'.grow g10
 have d0 := e2.c0 w10 (Gr.refl _)
 have d1 := e2.c1 w10 (Gr.refl _)
 have d2 := Cells.f e2 0
 have d3 := Cells.f e2 1
 go_simp
 refine ⟨fun h => Bool.noConfusion h, hK _ _ ?_⟩
 clear hK K
 have h13 := (g9.trans (g8.trans g10)).two n2 (.func (.func 161) #[] #[]) (.func (.func 162) #[] #[])
 have T5 := e2.set (.func (.func 161) #[] #[]) (.func (.func 162) #[] #[])
 clear d0 d1 d2 d3 e2 T2' gr
 generalize (w10.setCell _ _).setCell _ _ = W3 at h13 T5 ⊢
 have gr := Gr.refl W3
 repeat (refine wpF_readB (v := ?_) gr rfl rfl (fun w' hg => ?_) (fun K hK => ?_); rotate_left; (go_simp; rfl); go_simp; refine hK _ _ ?_; clear hK K)
 refine wpF_nil ?_
 clear n2 g8 g10 g9 gr
 have G := Lib.hid (G.out.trans h13)
 have TM := Lib.hid (TM.out.grow h13)
 have TX := Lib.hid (TX.out.grow h13)
 have HM := Lib.hid (HM.out.grow h13)
 have HX := Lib.hid (HX.out.grow h13)
 clear h13
 have T5 := Lib.hid T5
 go_wp2_with fail
 have g0 : Gr W3 W3.drew := (Gr.refl _).drew
 have m0 := mc0 TM.out
 have m1 := mc1 TM.out
 have m2 := mc2 TM.out
 have m3 := mc3 TM.out
 have m4 := mc4 TM.out
 have m5 := mc5 TM.out
 have m6 := mc6 TM.out
 have m7 := mc7 TM.out
 have m8 := mc8 TM.out
 have m9 := mc9 TM.out
 have m10 := mc10 TM.out
 try dsimp only at m0 m1 m2 m3 m4 m5 m6 m7 m8 m9 m10
 have x0 : ∀ w', Gr W3 w' → w'.cell? ⟨bx, 0, none⟩ = some (.int .i64 x.kind) := TX.out.c 0 rfl
 have x1 : ∀ w', Gr W3 w' → w'.cell? ⟨bx, 1, none⟩ = some (.int .i64 x.item) := TX.out.c 1 rfl
 have x2 : ∀ w', Gr W3 w' → w'.cell? ⟨bx, 2, none⟩ = some (.int .i64 x.other) := TX.out.c 2 rfl
 have x3 : ∀ w', Gr W3 w' → w'.cell? ⟨bx, 3, none⟩ = some (.int .i64 x.n) := TX.out.c 3 rfl
 have x4 : ∀ w', Gr W3 w' → w'.cell? ⟨bx, 4, none⟩ = some (.int .i64 x.bye) := TX.out.c 4 rfl
 have x5 : ∀ w', Gr W3 w' → w'.cell? ⟨bx, 5, none⟩ = some (.bool x.always) := TX.out.c 5 rfl
 have x6 : ∀ w', Gr W3 w' → w'.cell? ⟨bx, 6, none⟩ = some (.slice x.msP x.ms.length x.msC) := TX.out.c 6 rfl
 have t0 := T5.out.c0
 have t1 := T5.out.c1
 have he1 : ∀ args w, (callFunc 161 args).run Tryz.prog w = .ok (.enter 161 args) w := enters_of Tryz.func161 (by kernel_rfl) rfl
 have he2 : ∀ args w, (callFunc 162 args).run Tryz.prog w = .ok (.enter 162 args) w := enters_of Tryz.func162 (by kernel_rfl) rfl
 refine wp_region_fast [(0, true), (1, true), (2, true), (3, true), (4, true), (5, true), (6, false), (7, true), (8, true), (9, true), (10, true), (11, true), (12, true), (13, false), (14, false), (15, true), (16, true)] (by kernel_rfl) (by kernel_rfl) rfl (by kernel_rfl) (fun _ _ d _ _ h => by cases d <;> exact h) ?_
 repeat (refine wpE_readB (v := ?_) g0 rfl rfl (fun w' hg => ?_) (fun K hK => ?_); rotate_left; (go_simp; rfl); go_simp; refine hK _ _ ?_; clear hK K)
 refine wpE_fnV (args := ?_) rfl rfl rfl rfl rfl he1 ?_ (fun K hK => ?_)
 rotate_left
 ·go_simp; rfl
 refine (frm_9 _ P M x (HM.out.grow g0) (HX.out.grow g0)).mono ?_
 rintro _ w4 ⟨r4, rfl, g4, h4⟩
 refine ⟨_, rfl, g4, ?_⟩
 go_simp
 refine hK _ _ ?_
 clear hK K
 have G := Lib.hid (G.out.trans (g0.trans g4))
 replace g0 := g0.trans g4
 rcases h4.cases with ⟨rfl, k1⟩ | ⟨rfl, k1⟩ <;> have h1 := Lib.hid k1 <;> clear k1 h4
 ·repeat (refine wpE_readB (v := ?_) g0 rfl rfl (fun w' hg => ?_) (fun K hK => ?_); rotate_left; (go_simp; rfl); go_simp; refine hK _ _ ?_; clear hK K)
  refine wpE_fnV (args := ?_) rfl rfl rfl rfl rfl he2 ?_ (fun K hK => ?_)
  rotate_left
  ·go_simp; rfl
  refine (prj_10 _ x).mono ?_
  rintro _ w5 ⟨_, rfl, g5, rfl⟩
  refine ⟨_, rfl, g5, ?_⟩
  go_simp
  refine hK _ _ ?_
  clear hK K
  have G := Lib.hid (G.out.trans g5)
  replace g0 := g0.trans g5
  repeat (refine wpE_readB (v := ?_) g0 rfl rfl (fun w' hg => ?_) (fun K hK => ?_); rotate_left; (go_simp; rfl); go_simp; refine hK _ _ ?_; clear hK K)
  refine wpE_fn (args := ?_) rfl rfl rfl rfl rfl rfl (by kernel_rfl) (by kernel_rfl) ?_ (fun K hK => ?_)
  rotate_left
  ·go_simp; rfl
  refine (cat_same _ x { noRule with item := x.item, other := x.other } (HX.out.grow g0) (noms _) hb (Nat.zero_le _)).mono ?_
  rintro _ w6 ⟨r6, rfl, g6, h6⟩
  refine ⟨_, rfl, g6, ?_⟩
  go_simp
  refine hK _ _ ?_
  clear hK K
  have G := Lib.hid (G.out.trans g6)
  replace g0 := g0.trans g6
  rcases h6.cases with ⟨rfl, k1⟩ | ⟨rfl, k1⟩ <;> have h2 := Lib.hid k1 <;> clear k1 h6
  ·repeat (refine wpE_readB (v := ?_) g0 rfl rfl (fun w' hg => ?_) (fun K hK => ?_); rotate_left; (go_simp; rfl); go_simp; refine hK _ _ ?_; clear hK K)
   refine wpE_nil ?_
   go_wp2_with fail
   go_ret
   exact ⟨_, rfl, G.out, Tells.yes ((fin_4 HK.out).2 ⟨h1.out, h2.out⟩)⟩
  ·repeat (refine wpE_readB (v := ?_) g0 rfl rfl (fun w' hg => ?_) (fun K hK => ?_); rotate_left; (go_simp; rfl); go_simp; refine hK _ _ ?_; clear hK K)
   refine wpE_nil ?_
   go_wp2_with fail
   go_ret
   exact ⟨_, rfl, G.out, Tells.no fun h => h2.out ((fin_4 HK.out).1 h).2⟩
 ·repeat (refine wpE_readB (v := ?_) g0 rfl rfl (fun w' hg => ?_) (fun K hK => ?_); rotate_left; (go_simp; rfl); go_simp; refine hK _ _ ?_; clear hK K)
  repeat (refine wpE_skip rfl rfl ?_; go_simp)
  repeat (refine wpE_readB (v := ?_) g0 rfl rfl (fun w' hg => ?_) (fun K hK => ?_); rotate_left; (go_simp; rfl); go_simp; refine hK _ _ ?_; clear hK K)
  refine wpE_nil ?_
  go_wp2_with fail
  go_ret
  exact ⟨_, rfl, G.out, Tells.no fun h => h1.out ((fin_4 HK.out).1 h).1⟩
set_option maxRecDepth 100000 in
set_option maxHeartbeats 1600000 in
theorem cat_validRule5 (w : World) (P : Ptrs) (M : Mdl) (x : RuleM) (hm : MdlAt w P M) (hx : RuleMs w x) (hb : x.ms.length ≤ 1000000) (hk : x.kind = 5) :
  Calls Tryz.prog 75 #[.agg (mcells P M), .agg (ruleV x)] w (Ret w fun r _ => Tells (RuleOK M x) r) := by
 have HK := Lib.hid hk
 clear hk
 have HM := Lib.hid hm
 have HX := Lib.hid hx
 have B0 := Cells.new w (mcells P M) 29
 have B := Cells.new (w.alloc (.cells (mcells P M) 29)) #[.int .i64 x.kind, .int .i64 x.item, .int .i64 x.other, .int .i64 x.n, .int .i64 x.bye, .bool x.always, .slice x.msP x.ms.length x.msC] 63
 rw [World.size_alloc] at B
 clear hm hx
 have m0 := mc0 B0.2 _ B.1
 have m1 := mc1 B0.2 _ B.1
 have m2 := mc2 B0.2 _ B.1
 have m3 := mc3 B0.2 _ B.1
 have m4 := mc4 B0.2 _ B.1
 have m5 := mc5 B0.2 _ B.1
 have m6 := mc6 B0.2 _ B.1
 have m7 := mc7 B0.2 _ B.1
 have m8 := mc8 B0.2 _ B.1
 have m9 := mc9 B0.2 _ B.1
 have m10 := mc10 B0.2 _ B.1
 have x0 : World.cell? _ ⟨_, 0, none⟩ = some (.int .i64 x.kind) := (B.2).at 0 rfl
 have x1 : World.cell? _ ⟨_, 1, none⟩ = some (.int .i64 x.item) := (B.2).at 1 rfl
 have x2 : World.cell? _ ⟨_, 2, none⟩ = some (.int .i64 x.other) := (B.2).at 2 rfl
 have x3 : World.cell? _ ⟨_, 3, none⟩ = some (.int .i64 x.n) := (B.2).at 3 rfl
 have x4 : World.cell? _ ⟨_, 4, none⟩ = some (.int .i64 x.bye) := (B.2).at 4 rfl
 have x5 : World.cell? _ ⟨_, 5, none⟩ = some (.bool x.always) := (B.2).at 5 rfl
 have x6 : World.cell? _ ⟨_, 6, none⟩ = some (.slice x.msP x.ms.length x.msC) := (B.2).at 6 rfl
 have H0 := Lib.hid (B0.1.trans B.1)
 have H1 := Lib.hid (B0.2.grow B.1)
 have H2 := Lib.hid B.2
 clear B0 B
 unfold ruleV
 unfold mcells at H0 H1 H2 m0 m1 m2 m3 m4 m5 m6 m7 m8 m9 m10 x0 x1 x2 x3 x4 x5 x6 ⊢
 go_enter Tryz.func75, Tryz.ntmps75
 go_wp2_with fail
 clear m0 m1 m2 m3 m4 m5 m6 m7 m8 m9 m10 x0 x1 x2 x3 x4 x5 x6
 generalize w.heap.size + 1 = bx at H2 ⊢
 generalize w.heap.size = bm at H1 ⊢
 generalize (w.alloc _).alloc _ = W at H0 H1 H2 ⊢
 have TM := Lib.hid (show Cells W bm (mcells P M) from H1.out)
 have TX := Lib.hid H2.out
 have G := Lib.hid H0.out
 have HM := Lib.hid (HM.out.grow G.out)
 have HX := Lib.hid (SlL.grow HX.out G.out)
 clear H0 H1 H2
 have m0 := mc0 TM.out _ (Gr.refl _)
 have m1 := mc1 TM.out _ (Gr.refl _)
 have m2 := mc2 TM.out _ (Gr.refl _)
 have m3 := mc3 TM.out _ (Gr.refl _)
 have m4 := mc4 TM.out _ (Gr.refl _)
 have m5 := mc5 TM.out _ (Gr.refl _)
 have m6 := mc6 TM.out _ (Gr.refl _)
 have m7 := mc7 TM.out _ (Gr.refl _)
 have m8 := mc8 TM.out _ (Gr.refl _)
 have m9 := mc9 TM.out _ (Gr.refl _)
 have m10 := mc10 TM.out _ (Gr.refl _)
 have x0 : World.cell? W ⟨_, 0, none⟩ = some (.int .i64 x.kind) := (TX.out).at 0 rfl
 have x1 : World.cell? W ⟨_, 1, none⟩ = some (.int .i64 x.item) := (TX.out).at 1 rfl
 have x2 : World.cell? W ⟨_, 2, none⟩ = some (.int .i64 x.other) := (TX.out).at 2 rfl
 have x3 : World.cell? W ⟨_, 3, none⟩ = some (.int .i64 x.n) := (TX.out).at 3 rfl
 have x4 : World.cell? W ⟨_, 4, none⟩ = some (.int .i64 x.bye) := (TX.out).at 4 rfl
 have x5 : World.cell? W ⟨_, 5, none⟩ = some (.bool x.always) := (TX.out).at 5 rfl
 have x6 : World.cell? W ⟨_, 6, none⟩ = some (.slice x.msP x.ms.length x.msC) := (TX.out).at 6 rfl
 clear m0 m1 m2 m3 m4 m5 m6 m7 m8 m9 m10
 clear x0 x1 x2 x3 x4 x5 x6
 have x0 : ∀ w', Gr W w' → w'.cell? ⟨bx, 0, none⟩ = some (.int .i64 x.kind) := TX.out.c 0 rfl
 have g0 : Gr W W.drew := (Gr.refl _).drew
 refine wp_region_late zcF 60 [(1, 1), (2, 1), (0, 0), (3, 1), (4, 1), (5, 1), (6, 1), (7, 2), (8, 0), (9, 1)] (by kernel_rfl) (by kernel_rfl) rfl (by kernel_rfl) (fun _ _ d _ _ h => by cases d <;> exact h) (fun _ _ d _ _ h => by cases d <;> exact h) (by intro i hi; simp at hi; subst hi; exact ⟨_, _, rfl, rfl, rfl, allocF⟩) ?_
 repeat (refine wpF_readB (v := ?_) g0 rfl rfl (fun w' hg => ?_) (fun K hK => ?_); rotate_left; (go_simp; rfl); go_simp; refine hK _ _ ?_; clear hK K)
 refine wpF_do rfl rfl (fun K hK w1 g1 => ?_)
 go_simp
 refine (cat_forms _).mono ?_
 rintro _ w2 ⟨r2, rfl, g2, b, rfl, hf⟩
 refine ⟨fun _ => g2, hK _ _ ?_⟩
 clear hK K
 have hl := form_look w2 b hf x.kind (frm 163 164) (by rw [HK.out]; rfl)
 have g9 := (g0.trans g1).trans g2
 clear g0 g1 g2 hf
 have gr := Gr.refl w2
 try dsimp only [frm] at hl
 repeat (refine wpF_readB (v := ?_) gr rfl rfl (fun w' hg => ?_) (fun K hK => ?_); rotate_left; (go_simp; rfl); go_simp; refine hK _ _ ?_; clear hK K)
 clear hl x0
 refine wpF_new rfl rfl (fun K w8 b5 g8 f2 n2 hK => hK _ _ ?_)
 clear hK K
 have T2' := f2.twoF
 clear f2
 refine wpF_do rfl rfl (fun K hK w10 g10 => ?_)
 have e2 := T2'.grow g10
 have d0 := e2.c0 w10 (Gr.refl _)
 have d1 := e2.c1 w10 (Gr.refl _)
 have d2 := Cells.f e2 0
 have d3 := Cells.f e2 1
 go_simp
 refine ⟨fun h => Bool.noConfusion h, hK _ _ ?_⟩
 clear hK K
 have h13 := (g9.trans (g8.trans g10)).two n2 (.func (.func 163) #[] #[]) (.func (.func 164) #[] #[])
 have T5 := e2.set (.func (.func 163) #[] #[]) (.func (.func 164) #[] #[])
 clear d0 d1 d2 d3 e2 T2' gr
 generalize (w10.setCell _ _).setCell _ _ = W3 at h13 T5 ⊢
 have gr := Gr.refl W3
 repeat (refine wpF_readB (v := ?_) gr rfl rfl (fun w' hg => ?_) (fun K hK => ?_); rotate_left; (go_simp; rfl); go_simp; refine hK _ _ ?_; clear hK K)
 refine wpF_nil ?_
 clear n2 g8 g10 g9 gr
 have G := Lib.hid (G.out.trans h13)
 have TM := Lib.hid (TM.out.grow h13)
 have TX := Lib.hid (TX.out.grow h13)
 have HM := Lib.hid (HM.out.grow h13)
 have HX := Lib.hid (HX.out.grow h13)
 clear h13
 have T5 := Lib.hid T5
 go_wp2_with fail
 have g0 : Gr W3 W3.drew := (Gr.refl _).drew
 have m0 := mc0 TM.out
 have m1 := mc1 TM.out
 have m2 := mc2 TM.out
 have m3 := mc3 TM.out
 have m4 := mc4 TM.out
 have m5 := mc5 TM.out
 have m6 := mc6 TM.out
 have m7 := mc7 TM.out
 have m8 := mc8 TM.out
 have m9 := mc9 TM.out
 have m10 := mc10 TM.out
 try dsimp only at m0 m1 m2 m3 m4 m5 m6 m7 m8 m9 m10
 have x0 : ∀ w', Gr W3 w' → w'.cell? ⟨bx, 0, none⟩ = some (.int .i64 x.kind) := TX.out.c 0 rfl
 have x1 : ∀ w', Gr W3 w' → w'.cell? ⟨bx, 1, none⟩ = some (.int .i64 x.item) := TX.out.c 1 rfl
 have x2 : ∀ w', Gr W3 w' → w'.cell? ⟨bx, 2, none⟩ = some (.int .i64 x.other) := TX.out.c 2 rfl
 have x3 : ∀ w', Gr W3 w' → w'.cell? ⟨bx, 3, none⟩ = some (.int .i64 x.n) := TX.out.c 3 rfl
 have x4 : ∀ w', Gr W3 w' → w'.cell? ⟨bx, 4, none⟩ = some (.int .i64 x.bye) := TX.out.c 4 rfl
 have x5 : ∀ w', Gr W3 w' → w'.cell? ⟨bx, 5, none⟩ = some (.bool x.always) := TX.out.c 5 rfl
 have x6 : ∀ w', Gr W3 w' → w'.cell? ⟨bx, 6, none⟩ = some (.slice x.msP x.ms.length x.msC) := TX.out.c 6 rfl
 have t0 := T5.out.c0
 have t1 := T5.out.c1
 have he1 : ∀ args w, (callFunc 163 args).run Tryz.prog w = .ok (.enter 163 args) w := enters_of Tryz.func163 (by kernel_rfl) rfl
 have he2 : ∀ args w, (callFunc 164 args).run Tryz.prog w = .ok (.enter 164 args) w := enters_of Tryz.func164 (by kernel_rfl) rfl
 refine wp_region_fast [(0, true), (1, true), (2, true), (3, true), (4, true), (5, true), (6, false), (7, true), (8, true), (9, true), (10, true), (11, true), (12, true), (13, false), (14, false), (15, true), (16, true)] (by kernel_rfl) (by kernel_rfl) rfl (by kernel_rfl) (fun _ _ d _ _ h => by cases d <;> exact h) ?_
 repeat (refine wpE_readB (v := ?_) g0 rfl rfl (fun w' hg => ?_) (fun K hK => ?_); rotate_left; (go_simp; rfl); go_simp; refine hK _ _ ?_; clear hK K)
 refine wpE_fnV (args := ?_) rfl rfl rfl rfl rfl he1 ?_ (fun K hK => ?_)
 rotate_left
 ·go_simp; rfl
 refine (frm_11 _ P M x (HM.out.grow g0) (HX.out.grow g0)).mono ?_
 rintro _ w4 ⟨r4, rfl, g4, h4⟩
 refine ⟨_, rfl, g4, ?_⟩
 go_simp
 refine hK _ _ ?_
 clear hK K
 have G := Lib.hid (G.out.trans (g0.trans g4))
 replace g0 := g0.trans g4
 rcases h4.cases with ⟨rfl, k1⟩ | ⟨rfl, k1⟩ <;> have h1 := Lib.hid k1 <;> clear k1 h4
 ·repeat (refine wpE_readB (v := ?_) g0 rfl rfl (fun w' hg => ?_) (fun K hK => ?_); rotate_left; (go_simp; rfl); go_simp; refine hK _ _ ?_; clear hK K)
  refine wpE_fnV (args := ?_) rfl rfl rfl rfl rfl he2 ?_ (fun K hK => ?_)
  rotate_left
  ·go_simp; rfl
  refine (prj_12 _ x).mono ?_
  rintro _ w5 ⟨_, rfl, g5, rfl⟩
  refine ⟨_, rfl, g5, ?_⟩
  go_simp
  refine hK _ _ ?_
  clear hK K
  have G := Lib.hid (G.out.trans g5)
  replace g0 := g0.trans g5
  repeat (refine wpE_readB (v := ?_) g0 rfl rfl (fun w' hg => ?_) (fun K hK => ?_); rotate_left; (go_simp; rfl); go_simp; refine hK _ _ ?_; clear hK K)
  refine wpE_fn (args := ?_) rfl rfl rfl rfl rfl rfl (by kernel_rfl) (by kernel_rfl) ?_ (fun K hK => ?_)
  rotate_left
  ·go_simp; rfl
  refine (cat_same _ x { noRule with n := x.n } (HX.out.grow g0) (noms _) hb (Nat.zero_le _)).mono ?_
  rintro _ w6 ⟨r6, rfl, g6, h6⟩
  refine ⟨_, rfl, g6, ?_⟩
  go_simp
  refine hK _ _ ?_
  clear hK K
  have G := Lib.hid (G.out.trans g6)
  replace g0 := g0.trans g6
  rcases h6.cases with ⟨rfl, k1⟩ | ⟨rfl, k1⟩ <;> have h2 := Lib.hid k1 <;> clear k1 h6
  ·repeat (refine wpE_readB (v := ?_) g0 rfl rfl (fun w' hg => ?_) (fun K hK => ?_); rotate_left; (go_simp; rfl); go_simp; refine hK _ _ ?_; clear hK K)
   refine wpE_nil ?_
   go_wp2_with fail
   go_ret
   exact ⟨_, rfl, G.out, Tells.yes ((fin_5 HK.out).2 ⟨h1.out, h2.out⟩)⟩
  ·repeat (refine wpE_readB (v := ?_) g0 rfl rfl (fun w' hg => ?_) (fun K hK => ?_); rotate_left; (go_simp; rfl); go_simp; refine hK _ _ ?_; clear hK K)
   refine wpE_nil ?_
   go_wp2_with fail
   go_ret
   exact ⟨_, rfl, G.out, Tells.no fun h => h2.out ((fin_5 HK.out).1 h).2⟩
 ·repeat (refine wpE_readB (v := ?_) g0 rfl rfl (fun w' hg => ?_) (fun K hK => ?_); rotate_left; (go_simp; rfl); go_simp; refine hK _ _ ?_; clear hK K)
  repeat (refine wpE_skip rfl rfl ?_; go_simp)
  repeat (refine wpE_readB (v := ?_) g0 rfl rfl (fun w' hg => ?_) (fun K hK => ?_); rotate_left; (go_simp; rfl); go_simp; refine hK _ _ ?_; clear hK K)
  refine wpE_nil ?_
  go_wp2_with fail
  go_ret
  exact ⟨_, rfl, G.out, Tells.no fun h => h1.out ((fin_5 HK.out).1 h).1⟩
set_option maxRecDepth 100000 in
set_option maxHeartbeats 1600000 in
theorem cat_validRule6 (w : World) (P : Ptrs) (M : Mdl) (x : RuleM) (hm : MdlAt w P M) (hx : RuleMs w x) (hb : x.ms.length ≤ 1000000) (hk : x.kind = 6) :
  Calls Tryz.prog 75 #[.agg (mcells P M), .agg (ruleV x)] w (Ret w fun r _ => Tells (RuleOK M x) r) := by
 have HK := Lib.hid hk
 clear hk
 have HM := Lib.hid hm
 have HX := Lib.hid hx
 have B0 := Cells.new w (mcells P M) 29
 have B := Cells.new (w.alloc (.cells (mcells P M) 29)) #[.int .i64 x.kind, .int .i64 x.item, .int .i64 x.other, .int .i64 x.n, .int .i64 x.bye, .bool x.always, .slice x.msP x.ms.length x.msC] 63
 rw [World.size_alloc] at B
 clear hm hx
 have m0 := mc0 B0.2 _ B.1
 have m1 := mc1 B0.2 _ B.1
 have m2 := mc2 B0.2 _ B.1
 have m3 := mc3 B0.2 _ B.1
 have m4 := mc4 B0.2 _ B.1
 have m5 := mc5 B0.2 _ B.1
 have m6 := mc6 B0.2 _ B.1
 have m7 := mc7 B0.2 _ B.1
 have m8 := mc8 B0.2 _ B.1
 have m9 := mc9 B0.2 _ B.1
 have m10 := mc10 B0.2 _ B.1
 have x0 : World.cell? _ ⟨_, 0, none⟩ = some (.int .i64 x.kind) := (B.2).at 0 rfl
 have x1 : World.cell? _ ⟨_, 1, none⟩ = some (.int .i64 x.item) := (B.2).at 1 rfl
 have x2 : World.cell? _ ⟨_, 2, none⟩ = some (.int .i64 x.other) := (B.2).at 2 rfl
 have x3 : World.cell? _ ⟨_, 3, none⟩ = some (.int .i64 x.n) := (B.2).at 3 rfl
 have x4 : World.cell? _ ⟨_, 4, none⟩ = some (.int .i64 x.bye) := (B.2).at 4 rfl
 have x5 : World.cell? _ ⟨_, 5, none⟩ = some (.bool x.always) := (B.2).at 5 rfl
 have x6 : World.cell? _ ⟨_, 6, none⟩ = some (.slice x.msP x.ms.length x.msC) := (B.2).at 6 rfl
 have H0 := Lib.hid (B0.1.trans B.1)
 have H1 := Lib.hid (B0.2.grow B.1)
 have H2 := Lib.hid B.2
 clear B0 B
 unfold ruleV
 unfold mcells at H0 H1 H2 m0 m1 m2 m3 m4 m5 m6 m7 m8 m9 m10 x0 x1 x2 x3 x4 x5 x6 ⊢
 go_enter Tryz.func75, Tryz.ntmps75
 go_wp2_with fail
 clear m0 m1 m2 m3 m4 m5 m6 m7 m8 m9 m10 x0 x1 x2 x3 x4 x5 x6
 generalize w.heap.size + 1 = bx at H2 ⊢
 generalize w.heap.size = bm at H1 ⊢
 generalize (w.alloc _).alloc _ = W at H0 H1 H2 ⊢
 have TM := Lib.hid (show Cells W bm (mcells P M) from H1.out)
 have TX := Lib.hid H2.out
 have G := Lib.hid H0.out
 have HM := Lib.hid (HM.out.grow G.out)
 have HX := Lib.hid (SlL.grow HX.out G.out)
 clear H0 H1 H2
 have m0 := mc0 TM.out _ (Gr.refl _)
 have m1 := mc1 TM.out _ (Gr.refl _)
 have m2 := mc2 TM.out _ (Gr.refl _)
 have m3 := mc3 TM.out _ (Gr.refl _)
 have m4 := mc4 TM.out _ (Gr.refl _)
 have m5 := mc5 TM.out _ (Gr.refl _)
 have m6 := mc6 TM.out _ (Gr.refl _)
 have m7 := mc7 TM.out _ (Gr.refl _)
 have m8 := mc8 TM.out _ (Gr.refl _)
 have m9 := mc9 TM.out _ (Gr.refl _)
 have m10 := mc10 TM.out _ (Gr.refl _)
 have x0 : World.cell? W ⟨_, 0, none⟩ = some (.int .i64 x.kind) := (TX.out).at 0 rfl
 have x1 : World.cell? W ⟨_, 1, none⟩ = some (.int .i64 x.item) := (TX.out).at 1 rfl
 have x2 : World.cell? W ⟨_, 2, none⟩ = some (.int .i64 x.other) := (TX.out).at 2 rfl
 have x3 : World.cell? W ⟨_, 3, none⟩ = some (.int .i64 x.n) := (TX.out).at 3 rfl
 have x4 : World.cell? W ⟨_, 4, none⟩ = some (.int .i64 x.bye) := (TX.out).at 4 rfl
 have x5 : World.cell? W ⟨_, 5, none⟩ = some (.bool x.always) := (TX.out).at 5 rfl
 have x6 : World.cell? W ⟨_, 6, none⟩ = some (.slice x.msP x.ms.length x.msC) := (TX.out).at 6 rfl
 clear m0 m1 m2 m3 m4 m5 m6 m7 m8 m9 m10
 clear x0 x1 x2 x3 x4 x5 x6
 have x0 : ∀ w', Gr W w' → w'.cell? ⟨bx, 0, none⟩ = some (.int .i64 x.kind) := TX.out.c 0 rfl
 have g0 : Gr W W.drew := (Gr.refl _).drew
 refine wp_region_late zcF 60 [(1, 1), (2, 1), (0, 0), (3, 1), (4, 1), (5, 1), (6, 1), (7, 2), (8, 0), (9, 1)] (by kernel_rfl) (by kernel_rfl) rfl (by kernel_rfl) (fun _ _ d _ _ h => by cases d <;> exact h) (fun _ _ d _ _ h => by cases d <;> exact h) (by intro i hi; simp at hi; subst hi; exact ⟨_, _, rfl, rfl, rfl, allocF⟩) ?_
 repeat (refine wpF_readB (v := ?_) g0 rfl rfl (fun w' hg => ?_) (fun K hK => ?_); rotate_left; (go_simp; rfl); go_simp; refine hK _ _ ?_; clear hK K)
 refine wpF_do rfl rfl (fun K hK w1 g1 => ?_)
 go_simp
 refine (cat_forms _).mono ?_
 rintro _ w2 ⟨r2, rfl, g2, b, rfl, hf⟩
 refine ⟨fun _ => g2, hK _ _ ?_⟩
 clear hK K
 have hl := form_look w2 b hf x.kind (frm 165 166) (by rw [HK.out]; rfl)
 have g9 := (g0.trans g1).trans g2
 clear g0 g1 g2 hf
 have gr := Gr.refl w2
 try dsimp only [frm] at hl
 repeat (refine wpF_readB (v := ?_) gr rfl rfl (fun w' hg => ?_) (fun K hK => ?_); rotate_left; (go_simp; rfl); go_simp; refine hK _ _ ?_; clear hK K)
 clear hl x0
 refine wpF_new rfl rfl (fun K w8 b5 g8 f2 n2 hK => hK _ _ ?_)
 clear hK K
 have T2' := f2.twoF
 clear f2
 refine wpF_do rfl rfl (fun K hK w10 g10 => ?_)
 have e2 := T2'.grow g10
 have d0 := e2.c0 w10 (Gr.refl _)
 have d1 := e2.c1 w10 (Gr.refl _)
 have d2 := Cells.f e2 0
 have d3 := Cells.f e2 1
 go_simp
 refine ⟨fun h => Bool.noConfusion h, hK _ _ ?_⟩
 clear hK K
 have h13 := (g9.trans (g8.trans g10)).two n2 (.func (.func 165) #[] #[]) (.func (.func 166) #[] #[])
 have T5 := e2.set (.func (.func 165) #[] #[]) (.func (.func 166) #[] #[])
 clear d0 d1 d2 d3 e2 T2' gr
 generalize (w10.setCell _ _).setCell _ _ = W3 at h13 T5 ⊢
 have gr := Gr.refl W3
 repeat (refine wpF_readB (v := ?_) gr rfl rfl (fun w' hg => ?_) (fun K hK => ?_); rotate_left; (go_simp; rfl); go_simp; refine hK _ _ ?_; clear hK K)
 refine wpF_nil ?_
 clear n2 g8 g10 g9 gr
 have G := Lib.hid (G.out.trans h13)
 have TM := Lib.hid (TM.out.grow h13)
 have TX := Lib.hid (TX.out.grow h13)
 have HM := Lib.hid (HM.out.grow h13)
 have HX := Lib.hid (HX.out.grow h13)
 clear h13
 have T5 := Lib.hid T5
 go_wp2_with fail
 have g0 : Gr W3 W3.drew := (Gr.refl _).drew
 have m0 := mc0 TM.out
 have m1 := mc1 TM.out
 have m2 := mc2 TM.out
 have m3 := mc3 TM.out
 have m4 := mc4 TM.out
 have m5 := mc5 TM.out
 have m6 := mc6 TM.out
 have m7 := mc7 TM.out
 have m8 := mc8 TM.out
 have m9 := mc9 TM.out
 have m10 := mc10 TM.out
 try dsimp only at m0 m1 m2 m3 m4 m5 m6 m7 m8 m9 m10
 have x0 : ∀ w', Gr W3 w' → w'.cell? ⟨bx, 0, none⟩ = some (.int .i64 x.kind) := TX.out.c 0 rfl
 have x1 : ∀ w', Gr W3 w' → w'.cell? ⟨bx, 1, none⟩ = some (.int .i64 x.item) := TX.out.c 1 rfl
 have x2 : ∀ w', Gr W3 w' → w'.cell? ⟨bx, 2, none⟩ = some (.int .i64 x.other) := TX.out.c 2 rfl
 have x3 : ∀ w', Gr W3 w' → w'.cell? ⟨bx, 3, none⟩ = some (.int .i64 x.n) := TX.out.c 3 rfl
 have x4 : ∀ w', Gr W3 w' → w'.cell? ⟨bx, 4, none⟩ = some (.int .i64 x.bye) := TX.out.c 4 rfl
 have x5 : ∀ w', Gr W3 w' → w'.cell? ⟨bx, 5, none⟩ = some (.bool x.always) := TX.out.c 5 rfl
 have x6 : ∀ w', Gr W3 w' → w'.cell? ⟨bx, 6, none⟩ = some (.slice x.msP x.ms.length x.msC) := TX.out.c 6 rfl
 have t0 := T5.out.c0
 have t1 := T5.out.c1
 have he1 : ∀ args w, (callFunc 165 args).run Tryz.prog w = .ok (.enter 165 args) w := enters_of Tryz.func165 (by kernel_rfl) rfl
 have he2 : ∀ args w, (callFunc 166 args).run Tryz.prog w = .ok (.enter 166 args) w := enters_of Tryz.func166 (by kernel_rfl) rfl
 refine wp_region_fast [(0, true), (1, true), (2, true), (3, true), (4, true), (5, true), (6, false), (7, true), (8, true), (9, true), (10, true), (11, true), (12, true), (13, false), (14, false), (15, true), (16, true)] (by kernel_rfl) (by kernel_rfl) rfl (by kernel_rfl) (fun _ _ d _ _ h => by cases d <;> exact h) ?_
 repeat (refine wpE_readB (v := ?_) g0 rfl rfl (fun w' hg => ?_) (fun K hK => ?_); rotate_left; (go_simp; rfl); go_simp; refine hK _ _ ?_; clear hK K)
 refine wpE_fnV (args := ?_) rfl rfl rfl rfl rfl he1 ?_ (fun K hK => ?_)
 rotate_left
 ·go_simp; rfl
 refine (frm_13 _ P M x (HM.out.grow g0) (HX.out.grow g0)).mono ?_
 rintro _ w4 ⟨r4, rfl, g4, h4⟩
 refine ⟨_, rfl, g4, ?_⟩
 go_simp
 refine hK _ _ ?_
 clear hK K
 have G := Lib.hid (G.out.trans (g0.trans g4))
 replace g0 := g0.trans g4
 rcases h4.cases with ⟨rfl, k1⟩ | ⟨rfl, k1⟩ <;> have h1 := Lib.hid k1 <;> clear k1 h4
 ·repeat (refine wpE_readB (v := ?_) g0 rfl rfl (fun w' hg => ?_) (fun K hK => ?_); rotate_left; (go_simp; rfl); go_simp; refine hK _ _ ?_; clear hK K)
  refine wpE_fnV (args := ?_) rfl rfl rfl rfl rfl he2 ?_ (fun K hK => ?_)
  rotate_left
  ·go_simp; rfl
  refine (prj_14 _ x).mono ?_
  rintro _ w5 ⟨_, rfl, g5, rfl⟩
  refine ⟨_, rfl, g5, ?_⟩
  go_simp
  refine hK _ _ ?_
  clear hK K
  have G := Lib.hid (G.out.trans g5)
  replace g0 := g0.trans g5
  repeat (refine wpE_readB (v := ?_) g0 rfl rfl (fun w' hg => ?_) (fun K hK => ?_); rotate_left; (go_simp; rfl); go_simp; refine hK _ _ ?_; clear hK K)
  refine wpE_fn (args := ?_) rfl rfl rfl rfl rfl rfl (by kernel_rfl) (by kernel_rfl) ?_ (fun K hK => ?_)
  rotate_left
  ·go_simp; rfl
  refine (cat_same _ x { noRule with item := x.item, n := x.n } (HX.out.grow g0) (noms _) hb (Nat.zero_le _)).mono ?_
  rintro _ w6 ⟨r6, rfl, g6, h6⟩
  refine ⟨_, rfl, g6, ?_⟩
  go_simp
  refine hK _ _ ?_
  clear hK K
  have G := Lib.hid (G.out.trans g6)
  replace g0 := g0.trans g6
  rcases h6.cases with ⟨rfl, k1⟩ | ⟨rfl, k1⟩ <;> have h2 := Lib.hid k1 <;> clear k1 h6
  ·repeat (refine wpE_readB (v := ?_) g0 rfl rfl (fun w' hg => ?_) (fun K hK => ?_); rotate_left; (go_simp; rfl); go_simp; refine hK _ _ ?_; clear hK K)
   refine wpE_nil ?_
   go_wp2_with fail
   go_ret
   exact ⟨_, rfl, G.out, Tells.yes ((fin_6 HK.out).2 ⟨h1.out, h2.out⟩)⟩
  ·repeat (refine wpE_readB (v := ?_) g0 rfl rfl (fun w' hg => ?_) (fun K hK => ?_); rotate_left; (go_simp; rfl); go_simp; refine hK _ _ ?_; clear hK K)
   refine wpE_nil ?_
   go_wp2_with fail
   go_ret
   exact ⟨_, rfl, G.out, Tells.no fun h => h2.out ((fin_6 HK.out).1 h).2⟩
 ·repeat (refine wpE_readB (v := ?_) g0 rfl rfl (fun w' hg => ?_) (fun K hK => ?_); rotate_left; (go_simp; rfl); go_simp; refine hK _ _ ?_; clear hK K)
  repeat (refine wpE_skip rfl rfl ?_; go_simp)
  repeat (refine wpE_readB (v := ?_) g0 rfl rfl (fun w' hg => ?_) (fun K hK => ?_); rotate_left; (go_simp; rfl); go_simp; refine hK _ _ ?_; clear hK K)
  refine wpE_nil ?_
  go_wp2_with fail
  go_ret
  exact ⟨_, rfl, G.out, Tells.no fun h => h1.out ((fin_6 HK.out).1 h).1⟩
set_option maxRecDepth 100000 in
set_option maxHeartbeats 1600000 in
theorem cat_validRule7 (w : World) (P : Ptrs) (M : Mdl) (x : RuleM) (hm : MdlAt w P M) (hx : RuleMs w x) (hb : x.ms.length ≤ 1000000) (hk : ¬ x.kind = 0 ∧ ¬ x.kind = 1 ∧ ¬ x.kind = 2 ∧ ¬ x.kind = 3 ∧ ¬ x.kind = 4 ∧ ¬ x.kind = 5 ∧ ¬ x.kind = 6) :
  Calls Tryz.prog 75 #[.agg (mcells P M), .agg (ruleV x)] w (Ret w fun r _ => Tells (RuleOK M x) r) := by
 have HK := Lib.hid hk
 clear hk
 have HM := Lib.hid hm
 have HX := Lib.hid hx
 have B0 := Cells.new w (mcells P M) 29
 have B := Cells.new (w.alloc (.cells (mcells P M) 29)) #[.int .i64 x.kind, .int .i64 x.item, .int .i64 x.other, .int .i64 x.n, .int .i64 x.bye, .bool x.always, .slice x.msP x.ms.length x.msC] 63
 rw [World.size_alloc] at B
 clear hm hx
 have m0 := mc0 B0.2 _ B.1
 have m1 := mc1 B0.2 _ B.1
 have m2 := mc2 B0.2 _ B.1
 have m3 := mc3 B0.2 _ B.1
 have m4 := mc4 B0.2 _ B.1
 have m5 := mc5 B0.2 _ B.1
 have m6 := mc6 B0.2 _ B.1
 have m7 := mc7 B0.2 _ B.1
 have m8 := mc8 B0.2 _ B.1
 have m9 := mc9 B0.2 _ B.1
 have m10 := mc10 B0.2 _ B.1
 have x0 : World.cell? _ ⟨_, 0, none⟩ = some (.int .i64 x.kind) := (B.2).at 0 rfl
 have x1 : World.cell? _ ⟨_, 1, none⟩ = some (.int .i64 x.item) := (B.2).at 1 rfl
 have x2 : World.cell? _ ⟨_, 2, none⟩ = some (.int .i64 x.other) := (B.2).at 2 rfl
 have x3 : World.cell? _ ⟨_, 3, none⟩ = some (.int .i64 x.n) := (B.2).at 3 rfl
 have x4 : World.cell? _ ⟨_, 4, none⟩ = some (.int .i64 x.bye) := (B.2).at 4 rfl
 have x5 : World.cell? _ ⟨_, 5, none⟩ = some (.bool x.always) := (B.2).at 5 rfl
 have x6 : World.cell? _ ⟨_, 6, none⟩ = some (.slice x.msP x.ms.length x.msC) := (B.2).at 6 rfl
 have H0 := Lib.hid (B0.1.trans B.1)
 have H1 := Lib.hid (B0.2.grow B.1)
 have H2 := Lib.hid B.2
 clear B0 B
 unfold ruleV
 unfold mcells at H0 H1 H2 m0 m1 m2 m3 m4 m5 m6 m7 m8 m9 m10 x0 x1 x2 x3 x4 x5 x6 ⊢
 go_enter Tryz.func75, Tryz.ntmps75
 go_wp2_with fail
 clear m0 m1 m2 m3 m4 m5 m6 m7 m8 m9 m10 x0 x1 x2 x3 x4 x5 x6
 generalize w.heap.size + 1 = bx at H2 ⊢
 generalize w.heap.size = bm at H1 ⊢
 generalize (w.alloc _).alloc _ = W at H0 H1 H2 ⊢
 have TM := Lib.hid (show Cells W bm (mcells P M) from H1.out)
 have TX := Lib.hid H2.out
 have G := Lib.hid H0.out
 have HM := Lib.hid (HM.out.grow G.out)
 have HX := Lib.hid (SlL.grow HX.out G.out)
 clear H0 H1 H2
 have m0 := mc0 TM.out _ (Gr.refl _)
 have m1 := mc1 TM.out _ (Gr.refl _)
 have m2 := mc2 TM.out _ (Gr.refl _)
 have m3 := mc3 TM.out _ (Gr.refl _)
 have m4 := mc4 TM.out _ (Gr.refl _)
 have m5 := mc5 TM.out _ (Gr.refl _)
 have m6 := mc6 TM.out _ (Gr.refl _)
 have m7 := mc7 TM.out _ (Gr.refl _)
 have m8 := mc8 TM.out _ (Gr.refl _)
 have m9 := mc9 TM.out _ (Gr.refl _)
 have m10 := mc10 TM.out _ (Gr.refl _)
 have x0 : World.cell? W ⟨_, 0, none⟩ = some (.int .i64 x.kind) := (TX.out).at 0 rfl
 have x1 : World.cell? W ⟨_, 1, none⟩ = some (.int .i64 x.item) := (TX.out).at 1 rfl
 have x2 : World.cell? W ⟨_, 2, none⟩ = some (.int .i64 x.other) := (TX.out).at 2 rfl
 have x3 : World.cell? W ⟨_, 3, none⟩ = some (.int .i64 x.n) := (TX.out).at 3 rfl
 have x4 : World.cell? W ⟨_, 4, none⟩ = some (.int .i64 x.bye) := (TX.out).at 4 rfl
 have x5 : World.cell? W ⟨_, 5, none⟩ = some (.bool x.always) := (TX.out).at 5 rfl
 have x6 : World.cell? W ⟨_, 6, none⟩ = some (.slice x.msP x.ms.length x.msC) := (TX.out).at 6 rfl
 clear m0 m1 m2 m3 m4 m5 m6 m7 m8 m9 m10
 clear x0 x1 x2 x3 x4 x5 x6
 have x0 : ∀ w', Gr W w' → w'.cell? ⟨bx, 0, none⟩ = some (.int .i64 x.kind) := TX.out.c 0 rfl
 have g0 : Gr W W.drew := (Gr.refl _).drew
 refine wp_region_late zcF 60 [(1, 1), (2, 1), (0, 0), (3, 1), (4, 1), (5, 1), (6, 1), (7, 2), (8, 0), (9, 1)] (by kernel_rfl) (by kernel_rfl) rfl (by kernel_rfl) (fun _ _ d _ _ h => by cases d <;> exact h) (fun _ _ d _ _ h => by cases d <;> exact h) (by intro i hi; simp at hi; subst hi; exact ⟨_, _, rfl, rfl, rfl, allocF⟩) ?_
 repeat (refine wpF_readB (v := ?_) g0 rfl rfl (fun w' hg => ?_) (fun K hK => ?_); rotate_left; (go_simp; rfl); go_simp; refine hK _ _ ?_; clear hK K)
 refine wpF_do rfl rfl (fun K hK w1 g1 => ?_)
 go_simp
 refine (cat_forms _).mono ?_
 rintro _ w2 ⟨r2, rfl, g2, b, rfl, hf⟩
 refine ⟨fun _ => g2, hK _ _ ?_⟩
 clear hK K
 have hl := form_none w2 b hf x.kind (no_form HK.out)
 have g9 := (g0.trans g1).trans g2
 clear g0 g1 g2 hf
 have gr := Gr.refl w2
 try dsimp only [frm] at hl
 repeat (refine wpF_readB (v := ?_) gr rfl rfl (fun w' hg => ?_) (fun K hK => ?_); rotate_left; (go_simp; rfl); go_simp; refine hK _ _ ?_; clear hK K)
 clear hl x0
 refine wpF_new rfl rfl (fun K w8 b5 g8 f2 n2 hK => hK _ _ ?_)
 clear hK K
 have T2' := f2.twoF
 clear f2
 refine wpF_do rfl rfl (fun K hK w10 g10 => ?_)
 have e2 := T2'.grow g10
 have d0 := e2.c0 w10 (Gr.refl _)
 have d1 := e2.c1 w10 (Gr.refl _)
 have d2 := Cells.f e2 0
 have d3 := Cells.f e2 1
 go_simp
 refine ⟨fun h => Bool.noConfusion h, hK _ _ ?_⟩
 clear hK K
 have h13 := (g9.trans (g8.trans g10)).two n2 .nilFunc .nilFunc
 have T5 := e2.set .nilFunc .nilFunc
 clear d0 d1 d2 d3 e2 T2' gr
 generalize (w10.setCell _ _).setCell _ _ = W3 at h13 T5 ⊢
 have gr := Gr.refl W3
 repeat (refine wpF_readB (v := ?_) gr rfl rfl (fun w' hg => ?_) (fun K hK => ?_); rotate_left; (go_simp; rfl); go_simp; refine hK _ _ ?_; clear hK K)
 refine wpF_nil ?_
 clear n2 g8 g10 g9 gr
 have G := Lib.hid (G.out.trans h13)
 have TM := Lib.hid (TM.out.grow h13)
 have TX := Lib.hid (TX.out.grow h13)
 have HM := Lib.hid (HM.out.grow h13)
 have HX := Lib.hid (HX.out.grow h13)
 clear h13
 have T5 := Lib.hid T5
 go_wp2_with fail
 have g0 : Gr W3 W3.drew := (Gr.refl _).drew
 refine wp_region_fast [(0, true), (1, true), (2, true), (3, true), (4, true), (5, true), (6, false), (7, true), (8, true), (9, true), (10, true), (11, true), (12, true), (13, false), (14, false), (15, true), (16, true)] (by kernel_rfl) (by kernel_rfl) rfl (by kernel_rfl) (fun _ _ d _ _ h => by cases d <;> exact h) ?_
 have G := Lib.hid (G.out.trans g0)
 repeat (refine wpE_readB (v := ?_) g0 rfl rfl (fun w' hg => ?_) (fun K hK => ?_); rotate_left; (go_simp; rfl); go_simp; refine hK _ _ ?_; clear hK K)
 repeat (refine wpE_skip rfl rfl ?_; go_simp)
 repeat (refine wpE_readB (v := ?_) g0 rfl rfl (fun w' hg => ?_) (fun K hK => ?_); rotate_left; (go_simp; rfl); go_simp; refine hK _ _ ?_; clear hK K)
 repeat (refine wpE_skip rfl rfl ?_; go_simp)
 repeat (refine wpE_readB (v := ?_) g0 rfl rfl (fun w' hg => ?_) (fun K hK => ?_); rotate_left; (go_simp; rfl); go_simp; refine hK _ _ ?_; clear hK K)
 refine wpE_nil ?_
 go_wp2_with fail
 go_ret
 exact ⟨_, rfl, G.out, Tells.no (rule_7 HK.out)⟩
theorem cat_validRule (w : World) (P : Ptrs) (M : Mdl) (x : RuleM) (hm : MdlAt w P M) (hx : RuleMs w x) (hb : x.ms.length ≤ 1000000) :
  Calls Tryz.prog 75 #[.agg (mcells P M), .agg (ruleV x)] w (Ret w fun r _ => Tells (RuleOK M x) r) := by
 by_cases k0 : x.kind = 0
 ·exact cat_validRule0 w P M x hm hx hb k0
 by_cases k1 : x.kind = 1
 ·exact cat_validRule1 w P M x hm hx hb k1
 by_cases k2 : x.kind = 2
 ·exact cat_validRule2 w P M x hm hx hb k2
 by_cases k3 : x.kind = 3
 ·exact cat_validRule3 w P M x hm hx hb k3
 by_cases k4 : x.kind = 4
 ·exact cat_validRule4 w P M x hm hx hb k4
 by_cases k5 : x.kind = 5
 ·exact cat_validRule5 w P M x hm hx hb k5
 by_cases k6 : x.kind = 6
 ·exact cat_validRule6 w P M x hm hx hb k6
 exact cat_validRule7 w P M x hm hx hb ⟨k0, k1, k2, k3, k4, k5, k6⟩
end Go.Proofs.YtnlocdijdfclcaaGreatDoor

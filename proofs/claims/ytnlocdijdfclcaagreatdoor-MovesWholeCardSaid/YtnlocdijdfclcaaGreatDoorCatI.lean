/-
  The closures of catalog.forms.
  catalog.same; the map of catalog.forms.
-/
import Derived.Test.YtnlocdijdfclcaaGreatDoorCatF
namespace Go.Proofs.YtnlocdijdfclcaaGreatDoor
open Go.RowKit Go.Lib Lex
set_option linter.unusedVariables false
set_option linter.unusedSimpArgs false

def noRule : RuleM := ⟨0, 0, 0, 0, 0, false, none, 0, []⟩
theorem cat_item (w : World) (P : Ptrs) (M : Mdl) (n : Int) (hm : MdlAt w P M) :
  Calls Tryz.prog 153 #[.agg (mcells P M), .int .i64 n] w (Ret w fun r _ => Tells (Ex n M.items.length) r) := by
 have HM := Lib.hid hm
 have B := Cells.new w (mcells P M) 29
 clear hm
 have m0 := mc0 B.2 _ (Gr.refl _)
 have m1 := mc1 B.2 _ (Gr.refl _)
 have m2 := mc2 B.2 _ (Gr.refl _)
 have m3 := mc3 B.2 _ (Gr.refl _)
 have m4 := mc4 B.2 _ (Gr.refl _)
 have m5 := mc5 B.2 _ (Gr.refl _)
 have m6 := mc6 B.2 _ (Gr.refl _)
 have m7 := mc7 B.2 _ (Gr.refl _)
 have m8 := mc8 B.2 _ (Gr.refl _)
 have m9 := mc9 B.2 _ (Gr.refl _)
 have m10 := mc10 B.2 _ (Gr.refl _)
 unfold mcells at B m0 m1 m2 m3 m4 m5 m6 m7 m8 m9 m10 ⊢
 go_enter Tryz.func153, Tryz.ntmps153
 go_wp2_with fail
 clear m0 m1 m2 m3 m4 m5 m6 m7 m8 m9 m10
 generalize w.heap.size = bm at B ⊢
 generalize w.alloc _ = W at B ⊢
 obtain ⟨g0, tm⟩ := B
 have TM := Lib.hid (show Cells W bm (mcells P M) from tm)
 have G := Lib.hid g0
 have HM := Lib.hid (HM.out.grow g0)
 clear g0 tm
 have m0 := mc0 TM.out _ (Gr.refl _)
 have m1 := mc1 TM.out _ (Gr.refl _)
 have m2 := mc2 TM.out _ (Gr.refl _)
 have m3 := mc3 TM.out _ (Gr.refl _)
 have m4 := mc4 TM.out _ (Gr.refl _)
 have m5 := mc5 TM.out _ (Gr.refl _)
 have m6 := mc6 TM.out _ (Gr.refl _)
 have m7 := mc7 TM.out _ (Gr.refl _)
 have m8 := mc8 TM.out _ (Gr.refl _)
 have m9 := mc9 TM.out _ (Gr.refl _)
 have m10 := mc10 TM.out _ (Gr.refl _)
 refine (cat_within _ _ _ _).mono ?_
 rintro _ w1 ⟨⟨v1, rfl, h1⟩, rfl⟩
 have H1 := Lib.hid h1
 clear h1
 clear m0 m1 m2 m3 m4 m5 m6 m7 m8 m9 m10
 go_wp2_with fail
 go_ret
 exact ⟨_, rfl, G.out, H1.out⟩
theorem prj_2 (w : World) (x : RuleM) :
  Calls Tryz.prog 154 #[.agg (ruleV x)] w (Ret w fun r _ => r = .agg (ruleV { noRule with item := x.item })) := by
 have B := Cells.new w (ruleV x) 63
 have B1 := Cells.new (w.alloc (.cells (ruleV x) 63)) (ruleV noRule) 63
 rw [World.size_alloc] at B1
 have B2 := Cells.new (w.alloc (.cells (ruleV x) 63)) (ruleV { noRule with item := x.item }) 63
 rw [World.size_alloc] at B2
 have x0 : World.cell? _ ⟨_, 0, none⟩ = some (.int .i64 x.kind) := ((B.2.grow B1.1)).at 0 rfl
 have x1 : World.cell? _ ⟨_, 1, none⟩ = some (.int .i64 x.item) := ((B.2.grow B1.1)).at 1 rfl
 have x2 : World.cell? _ ⟨_, 2, none⟩ = some (.int .i64 x.other) := ((B.2.grow B1.1)).at 2 rfl
 have x3 : World.cell? _ ⟨_, 3, none⟩ = some (.int .i64 x.n) := ((B.2.grow B1.1)).at 3 rfl
 have x4 : World.cell? _ ⟨_, 4, none⟩ = some (.int .i64 x.bye) := ((B.2.grow B1.1)).at 4 rfl
 have x5 : World.cell? _ ⟨_, 5, none⟩ = some (.bool x.always) := ((B.2.grow B1.1)).at 5 rfl
 have x6 : World.cell? _ ⟨_, 6, none⟩ = some (.slice x.msP x.ms.length x.msC) := ((B.2.grow B1.1)).at 6 rfl
 have H := Lib.hid B.1
 have H2 := Lib.hid B2
 clear B B1 B2
 unfold ruleV at x0 x1 x2 x3 x4 x5 x6 H2 ⊢
 unfold noRule at x0 x1 x2 x3 x4 x5 x6 H2 ⊢
 dsimp only at x0 x1 x2 x3 x4 x5 x6 H2 ⊢
 go_enter Tryz.func154, Tryz.ntmps154
 go_wp2_with fail
 clear x0 x1 x2 x3 x4 x5 x6
 obtain ⟨g1, t1⟩ := H2.out
 generalize (w.alloc _).alloc _ = W at g1 t1 ⊢
 have y0 := t1.at 0 rfl
 have y1 := t1.at 1 rfl
 have y2 := t1.at 2 rfl
 have y3 := t1.at 3 rfl
 have y4 := t1.at 4 rfl
 have y5 := t1.at 5 rfl
 have y6 := t1.at 6 rfl
 refine bodyPost_ret (by simp [results, Tryz.results154, go_sem, y0, y1, y2, y3, y4, y5, y6]; rfl) rfl ?_
 exact ⟨_, rfl, H.out.trans g1, rfl⟩
theorem prj_4 (w : World) (x : RuleM) :
  Calls Tryz.prog 156 #[.agg (ruleV x)] w (Ret w fun r _ => r = .agg (ruleV { noRule with item := x.item, n := x.n, always := x.always })) := by
 have B := Cells.new w (ruleV x) 63
 have B1 := Cells.new (w.alloc (.cells (ruleV x) 63)) (ruleV noRule) 63
 rw [World.size_alloc] at B1
 have B2 := Cells.new (w.alloc (.cells (ruleV x) 63)) (ruleV { noRule with item := x.item, n := x.n, always := x.always }) 63
 rw [World.size_alloc] at B2
 have x0 : World.cell? _ ⟨_, 0, none⟩ = some (.int .i64 x.kind) := ((B.2.grow B1.1)).at 0 rfl
 have x1 : World.cell? _ ⟨_, 1, none⟩ = some (.int .i64 x.item) := ((B.2.grow B1.1)).at 1 rfl
 have x2 : World.cell? _ ⟨_, 2, none⟩ = some (.int .i64 x.other) := ((B.2.grow B1.1)).at 2 rfl
 have x3 : World.cell? _ ⟨_, 3, none⟩ = some (.int .i64 x.n) := ((B.2.grow B1.1)).at 3 rfl
 have x4 : World.cell? _ ⟨_, 4, none⟩ = some (.int .i64 x.bye) := ((B.2.grow B1.1)).at 4 rfl
 have x5 : World.cell? _ ⟨_, 5, none⟩ = some (.bool x.always) := ((B.2.grow B1.1)).at 5 rfl
 have x6 : World.cell? _ ⟨_, 6, none⟩ = some (.slice x.msP x.ms.length x.msC) := ((B.2.grow B1.1)).at 6 rfl
 have H := Lib.hid B.1
 have H2 := Lib.hid B2
 clear B B1 B2
 unfold ruleV at x0 x1 x2 x3 x4 x5 x6 H2 ⊢
 unfold noRule at x0 x1 x2 x3 x4 x5 x6 H2 ⊢
 dsimp only at x0 x1 x2 x3 x4 x5 x6 H2 ⊢
 go_enter Tryz.func156, Tryz.ntmps156
 go_wp2_with fail
 clear x0 x1 x2 x3 x4 x5 x6
 obtain ⟨g1, t1⟩ := H2.out
 generalize (w.alloc _).alloc _ = W at g1 t1 ⊢
 have y0 := t1.at 0 rfl
 have y1 := t1.at 1 rfl
 have y2 := t1.at 2 rfl
 have y3 := t1.at 3 rfl
 have y4 := t1.at 4 rfl
 have y5 := t1.at 5 rfl
 have y6 := t1.at 6 rfl
 refine bodyPost_ret (by simp [results, Tryz.results156, go_sem, y0, y1, y2, y3, y4, y5, y6]; rfl) rfl ?_
 exact ⟨_, rfl, H.out.trans g1, rfl⟩
theorem prj_6 (w : World) (x : RuleM) :
  Calls Tryz.prog 158 #[.agg (ruleV x)] w (Ret w fun r _ => r = .agg (ruleV { noRule with item := x.item, n := x.n, bye := x.bye })) := by
 have B := Cells.new w (ruleV x) 63
 have B1 := Cells.new (w.alloc (.cells (ruleV x) 63)) (ruleV noRule) 63
 rw [World.size_alloc] at B1
 have B2 := Cells.new (w.alloc (.cells (ruleV x) 63)) (ruleV { noRule with item := x.item, n := x.n, bye := x.bye }) 63
 rw [World.size_alloc] at B2
 have x0 : World.cell? _ ⟨_, 0, none⟩ = some (.int .i64 x.kind) := ((B.2.grow B1.1)).at 0 rfl
 have x1 : World.cell? _ ⟨_, 1, none⟩ = some (.int .i64 x.item) := ((B.2.grow B1.1)).at 1 rfl
 have x2 : World.cell? _ ⟨_, 2, none⟩ = some (.int .i64 x.other) := ((B.2.grow B1.1)).at 2 rfl
 have x3 : World.cell? _ ⟨_, 3, none⟩ = some (.int .i64 x.n) := ((B.2.grow B1.1)).at 3 rfl
 have x4 : World.cell? _ ⟨_, 4, none⟩ = some (.int .i64 x.bye) := ((B.2.grow B1.1)).at 4 rfl
 have x5 : World.cell? _ ⟨_, 5, none⟩ = some (.bool x.always) := ((B.2.grow B1.1)).at 5 rfl
 have x6 : World.cell? _ ⟨_, 6, none⟩ = some (.slice x.msP x.ms.length x.msC) := ((B.2.grow B1.1)).at 6 rfl
 have H := Lib.hid B.1
 have H2 := Lib.hid B2
 clear B B1 B2
 unfold ruleV at x0 x1 x2 x3 x4 x5 x6 H2 ⊢
 unfold noRule at x0 x1 x2 x3 x4 x5 x6 H2 ⊢
 dsimp only at x0 x1 x2 x3 x4 x5 x6 H2 ⊢
 go_enter Tryz.func158, Tryz.ntmps158
 go_wp2_with fail
 clear x0 x1 x2 x3 x4 x5 x6
 obtain ⟨g1, t1⟩ := H2.out
 generalize (w.alloc _).alloc _ = W at g1 t1 ⊢
 have y0 := t1.at 0 rfl
 have y1 := t1.at 1 rfl
 have y2 := t1.at 2 rfl
 have y3 := t1.at 3 rfl
 have y4 := t1.at 4 rfl
 have y5 := t1.at 5 rfl
 have y6 := t1.at 6 rfl
 refine bodyPost_ret (by simp [results, Tryz.results158, go_sem, y0, y1, y2, y3, y4, y5, y6]; rfl) rfl ?_
 exact ⟨_, rfl, H.out.trans g1, rfl⟩
theorem prj_8 (w : World) (x : RuleM) :
  Calls Tryz.prog 160 #[.agg (ruleV x)] w (Ret w fun r _ => r = .agg (ruleV { noRule with item := x.item, msP := x.msP, msC := x.msC, ms := x.ms })) := by
 have B := Cells.new w (ruleV x) 63
 have B1 := Cells.new (w.alloc (.cells (ruleV x) 63)) (ruleV noRule) 63
 rw [World.size_alloc] at B1
 have B2 := Cells.new (w.alloc (.cells (ruleV x) 63)) (ruleV { noRule with item := x.item, msP := x.msP, msC := x.msC, ms := x.ms }) 63
 rw [World.size_alloc] at B2
 have x0 : World.cell? _ ⟨_, 0, none⟩ = some (.int .i64 x.kind) := ((B.2.grow B1.1)).at 0 rfl
 have x1 : World.cell? _ ⟨_, 1, none⟩ = some (.int .i64 x.item) := ((B.2.grow B1.1)).at 1 rfl
 have x2 : World.cell? _ ⟨_, 2, none⟩ = some (.int .i64 x.other) := ((B.2.grow B1.1)).at 2 rfl
 have x3 : World.cell? _ ⟨_, 3, none⟩ = some (.int .i64 x.n) := ((B.2.grow B1.1)).at 3 rfl
 have x4 : World.cell? _ ⟨_, 4, none⟩ = some (.int .i64 x.bye) := ((B.2.grow B1.1)).at 4 rfl
 have x5 : World.cell? _ ⟨_, 5, none⟩ = some (.bool x.always) := ((B.2.grow B1.1)).at 5 rfl
 have x6 : World.cell? _ ⟨_, 6, none⟩ = some (.slice x.msP x.ms.length x.msC) := ((B.2.grow B1.1)).at 6 rfl
 have H := Lib.hid B.1
 have H2 := Lib.hid B2
 clear B B1 B2
 unfold ruleV at x0 x1 x2 x3 x4 x5 x6 H2 ⊢
 unfold noRule at x0 x1 x2 x3 x4 x5 x6 H2 ⊢
 dsimp only at x0 x1 x2 x3 x4 x5 x6 H2 ⊢
 go_enter Tryz.func160, Tryz.ntmps160
 go_wp2_with fail
 clear x0 x1 x2 x3 x4 x5 x6
 obtain ⟨g1, t1⟩ := H2.out
 generalize (w.alloc _).alloc _ = W at g1 t1 ⊢
 have y0 := t1.at 0 rfl
 have y1 := t1.at 1 rfl
 have y2 := t1.at 2 rfl
 have y3 := t1.at 3 rfl
 have y4 := t1.at 4 rfl
 have y5 := t1.at 5 rfl
 have y6 := t1.at 6 rfl
 refine bodyPost_ret (by simp [results, Tryz.results160, go_sem, y0, y1, y2, y3, y4, y5, y6]; rfl) rfl ?_
 exact ⟨_, rfl, H.out.trans g1, rfl⟩
theorem prj_10 (w : World) (x : RuleM) :
  Calls Tryz.prog 162 #[.agg (ruleV x)] w (Ret w fun r _ => r = .agg (ruleV { noRule with item := x.item, other := x.other })) := by
 have B := Cells.new w (ruleV x) 63
 have B1 := Cells.new (w.alloc (.cells (ruleV x) 63)) (ruleV noRule) 63
 rw [World.size_alloc] at B1
 have B2 := Cells.new (w.alloc (.cells (ruleV x) 63)) (ruleV { noRule with item := x.item, other := x.other }) 63
 rw [World.size_alloc] at B2
 have x0 : World.cell? _ ⟨_, 0, none⟩ = some (.int .i64 x.kind) := ((B.2.grow B1.1)).at 0 rfl
 have x1 : World.cell? _ ⟨_, 1, none⟩ = some (.int .i64 x.item) := ((B.2.grow B1.1)).at 1 rfl
 have x2 : World.cell? _ ⟨_, 2, none⟩ = some (.int .i64 x.other) := ((B.2.grow B1.1)).at 2 rfl
 have x3 : World.cell? _ ⟨_, 3, none⟩ = some (.int .i64 x.n) := ((B.2.grow B1.1)).at 3 rfl
 have x4 : World.cell? _ ⟨_, 4, none⟩ = some (.int .i64 x.bye) := ((B.2.grow B1.1)).at 4 rfl
 have x5 : World.cell? _ ⟨_, 5, none⟩ = some (.bool x.always) := ((B.2.grow B1.1)).at 5 rfl
 have x6 : World.cell? _ ⟨_, 6, none⟩ = some (.slice x.msP x.ms.length x.msC) := ((B.2.grow B1.1)).at 6 rfl
 have H := Lib.hid B.1
 have H2 := Lib.hid B2
 clear B B1 B2
 unfold ruleV at x0 x1 x2 x3 x4 x5 x6 H2 ⊢
 unfold noRule at x0 x1 x2 x3 x4 x5 x6 H2 ⊢
 dsimp only at x0 x1 x2 x3 x4 x5 x6 H2 ⊢
 go_enter Tryz.func162, Tryz.ntmps162
 go_wp2_with fail
 clear x0 x1 x2 x3 x4 x5 x6
 obtain ⟨g1, t1⟩ := H2.out
 generalize (w.alloc _).alloc _ = W at g1 t1 ⊢
 have y0 := t1.at 0 rfl
 have y1 := t1.at 1 rfl
 have y2 := t1.at 2 rfl
 have y3 := t1.at 3 rfl
 have y4 := t1.at 4 rfl
 have y5 := t1.at 5 rfl
 have y6 := t1.at 6 rfl
 refine bodyPost_ret (by simp [results, Tryz.results162, go_sem, y0, y1, y2, y3, y4, y5, y6]; rfl) rfl ?_
 exact ⟨_, rfl, H.out.trans g1, rfl⟩
theorem prj_12 (w : World) (x : RuleM) :
  Calls Tryz.prog 164 #[.agg (ruleV x)] w (Ret w fun r _ => r = .agg (ruleV { noRule with n := x.n })) := by
 have B := Cells.new w (ruleV x) 63
 have B1 := Cells.new (w.alloc (.cells (ruleV x) 63)) (ruleV noRule) 63
 rw [World.size_alloc] at B1
 have B2 := Cells.new (w.alloc (.cells (ruleV x) 63)) (ruleV { noRule with n := x.n }) 63
 rw [World.size_alloc] at B2
 have x0 : World.cell? _ ⟨_, 0, none⟩ = some (.int .i64 x.kind) := ((B.2.grow B1.1)).at 0 rfl
 have x1 : World.cell? _ ⟨_, 1, none⟩ = some (.int .i64 x.item) := ((B.2.grow B1.1)).at 1 rfl
 have x2 : World.cell? _ ⟨_, 2, none⟩ = some (.int .i64 x.other) := ((B.2.grow B1.1)).at 2 rfl
 have x3 : World.cell? _ ⟨_, 3, none⟩ = some (.int .i64 x.n) := ((B.2.grow B1.1)).at 3 rfl
 have x4 : World.cell? _ ⟨_, 4, none⟩ = some (.int .i64 x.bye) := ((B.2.grow B1.1)).at 4 rfl
 have x5 : World.cell? _ ⟨_, 5, none⟩ = some (.bool x.always) := ((B.2.grow B1.1)).at 5 rfl
 have x6 : World.cell? _ ⟨_, 6, none⟩ = some (.slice x.msP x.ms.length x.msC) := ((B.2.grow B1.1)).at 6 rfl
 have H := Lib.hid B.1
 have H2 := Lib.hid B2
 clear B B1 B2
 unfold ruleV at x0 x1 x2 x3 x4 x5 x6 H2 ⊢
 unfold noRule at x0 x1 x2 x3 x4 x5 x6 H2 ⊢
 dsimp only at x0 x1 x2 x3 x4 x5 x6 H2 ⊢
 go_enter Tryz.func164, Tryz.ntmps164
 go_wp2_with fail
 clear x0 x1 x2 x3 x4 x5 x6
 obtain ⟨g1, t1⟩ := H2.out
 generalize (w.alloc _).alloc _ = W at g1 t1 ⊢
 have y0 := t1.at 0 rfl
 have y1 := t1.at 1 rfl
 have y2 := t1.at 2 rfl
 have y3 := t1.at 3 rfl
 have y4 := t1.at 4 rfl
 have y5 := t1.at 5 rfl
 have y6 := t1.at 6 rfl
 refine bodyPost_ret (by simp [results, Tryz.results164, go_sem, y0, y1, y2, y3, y4, y5, y6]; rfl) rfl ?_
 exact ⟨_, rfl, H.out.trans g1, rfl⟩
theorem prj_14 (w : World) (x : RuleM) :
  Calls Tryz.prog 166 #[.agg (ruleV x)] w (Ret w fun r _ => r = .agg (ruleV { noRule with item := x.item, n := x.n })) := by
 have B := Cells.new w (ruleV x) 63
 have B1 := Cells.new (w.alloc (.cells (ruleV x) 63)) (ruleV noRule) 63
 rw [World.size_alloc] at B1
 have B2 := Cells.new (w.alloc (.cells (ruleV x) 63)) (ruleV { noRule with item := x.item, n := x.n }) 63
 rw [World.size_alloc] at B2
 have x0 : World.cell? _ ⟨_, 0, none⟩ = some (.int .i64 x.kind) := ((B.2.grow B1.1)).at 0 rfl
 have x1 : World.cell? _ ⟨_, 1, none⟩ = some (.int .i64 x.item) := ((B.2.grow B1.1)).at 1 rfl
 have x2 : World.cell? _ ⟨_, 2, none⟩ = some (.int .i64 x.other) := ((B.2.grow B1.1)).at 2 rfl
 have x3 : World.cell? _ ⟨_, 3, none⟩ = some (.int .i64 x.n) := ((B.2.grow B1.1)).at 3 rfl
 have x4 : World.cell? _ ⟨_, 4, none⟩ = some (.int .i64 x.bye) := ((B.2.grow B1.1)).at 4 rfl
 have x5 : World.cell? _ ⟨_, 5, none⟩ = some (.bool x.always) := ((B.2.grow B1.1)).at 5 rfl
 have x6 : World.cell? _ ⟨_, 6, none⟩ = some (.slice x.msP x.ms.length x.msC) := ((B.2.grow B1.1)).at 6 rfl
 have H := Lib.hid B.1
 have H2 := Lib.hid B2
 clear B B1 B2
 unfold ruleV at x0 x1 x2 x3 x4 x5 x6 H2 ⊢
 unfold noRule at x0 x1 x2 x3 x4 x5 x6 H2 ⊢
 dsimp only at x0 x1 x2 x3 x4 x5 x6 H2 ⊢
 go_enter Tryz.func166, Tryz.ntmps166
 go_wp2_with fail
 clear x0 x1 x2 x3 x4 x5 x6
 obtain ⟨g1, t1⟩ := H2.out
 generalize (w.alloc _).alloc _ = W at g1 t1 ⊢
 have y0 := t1.at 0 rfl
 have y1 := t1.at 1 rfl
 have y2 := t1.at 2 rfl
 have y3 := t1.at 3 rfl
 have y4 := t1.at 4 rfl
 have y5 := t1.at 5 rfl
 have y6 := t1.at 6 rfl
 refine bodyPost_ret (by simp [results, Tryz.results166, go_sem, y0, y1, y2, y3, y4, y5, y6]; rfl) rfl ?_
 exact ⟨_, rfl, H.out.trans g1, rfl⟩
theorem RuleMs.grow {w w' : World} {x : RuleM} (h : RuleMs w x) (g : Gr w w') : RuleMs w' x := SlL.grow h g
set_option maxRecDepth 100000 in
theorem frm_3 (w : World) (P : Ptrs) (M : Mdl) (x : RuleM) (hm : MdlAt w P M) (hx : RuleMs w x) :
  Calls Tryz.prog 155 #[.agg (mcells P M), .agg (ruleV x)] w (Ret w fun r _ => Tells (Ex x.item M.items.length ∧ Within x.n 0 16) r) := by
 have HM := Lib.hid hm
 have HX := Lib.hid hx
 have B0 := Cells.new w (mcells P M) 29
 have B := Cells.new (w.alloc (.cells (mcells P M) 29)) #[.int .i64 x.kind, .int .i64 x.item, .int .i64 x.other, .int .i64 x.n, .int .i64 x.bye, .bool x.always, .slice x.msP x.ms.length x.msC] 63
 rw [World.size_alloc] at B
 clear hm hx
 have m0 := mc0 B0.2 _ B.1
 have m1 := mc1 B0.2 _ B.1
 have m2 := mc2 B0.2 _ B.1
 have m3 := mc3 B0.2 _ B.1
 have m4 := mc4 B0.2 _ B.1
 have m5 := mc5 B0.2 _ B.1
 have m6 := mc6 B0.2 _ B.1
 have m7 := mc7 B0.2 _ B.1
 have m8 := mc8 B0.2 _ B.1
 have m9 := mc9 B0.2 _ B.1
 have m10 := mc10 B0.2 _ B.1
 have x0 : World.cell? _ ⟨_, 0, none⟩ = some (.int .i64 x.kind) := (B.2).at 0 rfl
 have x1 : World.cell? _ ⟨_, 1, none⟩ = some (.int .i64 x.item) := (B.2).at 1 rfl
 have x2 : World.cell? _ ⟨_, 2, none⟩ = some (.int .i64 x.other) := (B.2).at 2 rfl
 have x3 : World.cell? _ ⟨_, 3, none⟩ = some (.int .i64 x.n) := (B.2).at 3 rfl
 have x4 : World.cell? _ ⟨_, 4, none⟩ = some (.int .i64 x.bye) := (B.2).at 4 rfl
 have x5 : World.cell? _ ⟨_, 5, none⟩ = some (.bool x.always) := (B.2).at 5 rfl
 have x6 : World.cell? _ ⟨_, 6, none⟩ = some (.slice x.msP x.ms.length x.msC) := (B.2).at 6 rfl
 have H0 := Lib.hid (B0.1.trans B.1)
 have H1 := Lib.hid (B0.2.grow B.1)
 have H2 := Lib.hid B.2
 clear B0 B
 unfold ruleV
 unfold mcells at H0 H1 H2 m0 m1 m2 m3 m4 m5 m6 m7 m8 m9 m10 x0 x1 x2 x3 x4 x5 x6 ⊢
 go_enter Tryz.func155, Tryz.ntmps155
 go_wp2_with fail
 clear m0 m1 m2 m3 m4 m5 m6 m7 m8 m9 m10 x0 x1 x2 x3 x4 x5 x6
 generalize w.heap.size + 1 = bx at H2 ⊢
 generalize w.heap.size = bm at H1 ⊢
 generalize (w.alloc _).alloc _ = W at H0 H1 H2 ⊢
 have TM := Lib.hid (show Cells W bm (mcells P M) from H1.out)
 have TX := Lib.hid H2.out
 have G := Lib.hid H0.out
 have HM := Lib.hid (HM.out.grow G.out)
 have HX := Lib.hid (SlL.grow HX.out G.out)
 clear H0 H1 H2
 have m0 := mc0 TM.out _ (Gr.refl _)
 have m1 := mc1 TM.out _ (Gr.refl _)
 have m2 := mc2 TM.out _ (Gr.refl _)
 have m3 := mc3 TM.out _ (Gr.refl _)
 have m4 := mc4 TM.out _ (Gr.refl _)
 have m5 := mc5 TM.out _ (Gr.refl _)
 have m6 := mc6 TM.out _ (Gr.refl _)
 have m7 := mc7 TM.out _ (Gr.refl _)
 have m8 := mc8 TM.out _ (Gr.refl _)
 have m9 := mc9 TM.out _ (Gr.refl _)
 have m10 := mc10 TM.out _ (Gr.refl _)
 have x0 : World.cell? W ⟨_, 0, none⟩ = some (.int .i64 x.kind) := (TX.out).at 0 rfl
 have x1 : World.cell? W ⟨_, 1, none⟩ = some (.int .i64 x.item) := (TX.out).at 1 rfl
 have x2 : World.cell? W ⟨_, 2, none⟩ = some (.int .i64 x.other) := (TX.out).at 2 rfl
 have x3 : World.cell? W ⟨_, 3, none⟩ = some (.int .i64 x.n) := (TX.out).at 3 rfl
 have x4 : World.cell? W ⟨_, 4, none⟩ = some (.int .i64 x.bye) := (TX.out).at 4 rfl
 have x5 : World.cell? W ⟨_, 5, none⟩ = some (.bool x.always) := (TX.out).at 5 rfl
 have x6 : World.cell? W ⟨_, 6, none⟩ = some (.slice x.msP x.ms.length x.msC) := (TX.out).at 6 rfl
 clear m0 m1 m2 m3 m4 m5 m6 m7 m8 m9 m10
 clear x0 x1 x2 x3 x4 x5 x6
 refine (cat_item _ P M _ HM.out).mono ?_
 rintro _ w1 ⟨v1, rfl, g1, z1⟩
 have G := Lib.hid (G.out.trans g1)
 have TM := Lib.hid (TM.out.grow g1)
 have TX := Lib.hid (TX.out.grow g1)
 have HM := Lib.hid (HM.out.grow g1)
 have HX := Lib.hid (HX.out.grow g1)
 clear g1
 have m0 := mc0 TM.out _ (Gr.refl _)
 have m1 := mc1 TM.out _ (Gr.refl _)
 have m2 := mc2 TM.out _ (Gr.refl _)
 have m3 := mc3 TM.out _ (Gr.refl _)
 have m4 := mc4 TM.out _ (Gr.refl _)
 have m5 := mc5 TM.out _ (Gr.refl _)
 have m6 := mc6 TM.out _ (Gr.refl _)
 have m7 := mc7 TM.out _ (Gr.refl _)
 have m8 := mc8 TM.out _ (Gr.refl _)
 have m9 := mc9 TM.out _ (Gr.refl _)
 have m10 := mc10 TM.out _ (Gr.refl _)
 have x0 : World.cell? w1 ⟨_, 0, none⟩ = some (.int .i64 x.kind) := (TX.out).at 0 rfl
 have x1 : World.cell? w1 ⟨_, 1, none⟩ = some (.int .i64 x.item) := (TX.out).at 1 rfl
 have x2 : World.cell? w1 ⟨_, 2, none⟩ = some (.int .i64 x.other) := (TX.out).at 2 rfl
 have x3 : World.cell? w1 ⟨_, 3, none⟩ = some (.int .i64 x.n) := (TX.out).at 3 rfl
 have x4 : World.cell? w1 ⟨_, 4, none⟩ = some (.int .i64 x.bye) := (TX.out).at 4 rfl
 have x5 : World.cell? w1 ⟨_, 5, none⟩ = some (.bool x.always) := (TX.out).at 5 rfl
 have x6 : World.cell? w1 ⟨_, 6, none⟩ = some (.slice x.msP x.ms.length x.msC) := (TX.out).at 6 rfl
 rcases z1.cases with ⟨rfl, k1⟩ | ⟨rfl, k1⟩ <;> have hE := Lib.hid k1 <;> clear k1 z1
 ·go_wp2_with fail
  refine (cat_within _ _ _ _).mono ?_
  rintro _ w1 ⟨⟨v1, rfl, h1⟩, rfl⟩
  rcases h1.cases with ⟨rfl, k1⟩ | ⟨rfl, k1⟩ <;> have hW := Lib.hid k1 <;> clear k1 h1
  ·go_wp2_with fail
   go_ret
   exact ⟨_, rfl, G.out, Tells.yes ⟨hE.out, hW.out⟩⟩
  ·go_wp2_with fail
   go_ret
   exact ⟨_, rfl, G.out, Tells.no fun h => hW.out h.2⟩
 ·go_wp2_with fail
  go_ret
  exact ⟨_, rfl, G.out, Tells.no fun h => hE.out h.1⟩
set_option maxRecDepth 100000 in
theorem frm_13 (w : World) (P : Ptrs) (M : Mdl) (x : RuleM) (hm : MdlAt w P M) (hx : RuleMs w x) :
  Calls Tryz.prog 165 #[.agg (mcells P M), .agg (ruleV x)] w (Ret w fun r _ => Tells (Ex x.item M.items.length ∧ Within x.n 0 16) r) := by
 have HM := Lib.hid hm
 have HX := Lib.hid hx
 have B0 := Cells.new w (mcells P M) 29
 have B := Cells.new (w.alloc (.cells (mcells P M) 29)) #[.int .i64 x.kind, .int .i64 x.item, .int .i64 x.other, .int .i64 x.n, .int .i64 x.bye, .bool x.always, .slice x.msP x.ms.length x.msC] 63
 rw [World.size_alloc] at B
 clear hm hx
 have m0 := mc0 B0.2 _ B.1
 have m1 := mc1 B0.2 _ B.1
 have m2 := mc2 B0.2 _ B.1
 have m3 := mc3 B0.2 _ B.1
 have m4 := mc4 B0.2 _ B.1
 have m5 := mc5 B0.2 _ B.1
 have m6 := mc6 B0.2 _ B.1
 have m7 := mc7 B0.2 _ B.1
 have m8 := mc8 B0.2 _ B.1
 have m9 := mc9 B0.2 _ B.1
 have m10 := mc10 B0.2 _ B.1
 have x0 : World.cell? _ ⟨_, 0, none⟩ = some (.int .i64 x.kind) := (B.2).at 0 rfl
 have x1 : World.cell? _ ⟨_, 1, none⟩ = some (.int .i64 x.item) := (B.2).at 1 rfl
 have x2 : World.cell? _ ⟨_, 2, none⟩ = some (.int .i64 x.other) := (B.2).at 2 rfl
 have x3 : World.cell? _ ⟨_, 3, none⟩ = some (.int .i64 x.n) := (B.2).at 3 rfl
 have x4 : World.cell? _ ⟨_, 4, none⟩ = some (.int .i64 x.bye) := (B.2).at 4 rfl
 have x5 : World.cell? _ ⟨_, 5, none⟩ = some (.bool x.always) := (B.2).at 5 rfl
 have x6 : World.cell? _ ⟨_, 6, none⟩ = some (.slice x.msP x.ms.length x.msC) := (B.2).at 6 rfl
 have H0 := Lib.hid (B0.1.trans B.1)
 have H1 := Lib.hid (B0.2.grow B.1)
 have H2 := Lib.hid B.2
 clear B0 B
 unfold ruleV
 unfold mcells at H0 H1 H2 m0 m1 m2 m3 m4 m5 m6 m7 m8 m9 m10 x0 x1 x2 x3 x4 x5 x6 ⊢
 go_enter Tryz.func165, Tryz.ntmps165
 go_wp2_with fail
 clear m0 m1 m2 m3 m4 m5 m6 m7 m8 m9 m10 x0 x1 x2 x3 x4 x5 x6
 generalize w.heap.size + 1 = bx at H2 ⊢
 generalize w.heap.size = bm at H1 ⊢
 generalize (w.alloc _).alloc _ = W at H0 H1 H2 ⊢
 have TM := Lib.hid (show Cells W bm (mcells P M) from H1.out)
 have TX := Lib.hid H2.out
 have G := Lib.hid H0.out
 have HM := Lib.hid (HM.out.grow G.out)
 have HX := Lib.hid (SlL.grow HX.out G.out)
 clear H0 H1 H2
 have m0 := mc0 TM.out _ (Gr.refl _)
 have m1 := mc1 TM.out _ (Gr.refl _)
 have m2 := mc2 TM.out _ (Gr.refl _)
 have m3 := mc3 TM.out _ (Gr.refl _)
 have m4 := mc4 TM.out _ (Gr.refl _)
 have m5 := mc5 TM.out _ (Gr.refl _)
 have m6 := mc6 TM.out _ (Gr.refl _)
 have m7 := mc7 TM.out _ (Gr.refl _)
 have m8 := mc8 TM.out _ (Gr.refl _)
 have m9 := mc9 TM.out _ (Gr.refl _)
 have m10 := mc10 TM.out _ (Gr.refl _)
 have x0 : World.cell? W ⟨_, 0, none⟩ = some (.int .i64 x.kind) := (TX.out).at 0 rfl
 have x1 : World.cell? W ⟨_, 1, none⟩ = some (.int .i64 x.item) := (TX.out).at 1 rfl
 have x2 : World.cell? W ⟨_, 2, none⟩ = some (.int .i64 x.other) := (TX.out).at 2 rfl
 have x3 : World.cell? W ⟨_, 3, none⟩ = some (.int .i64 x.n) := (TX.out).at 3 rfl
 have x4 : World.cell? W ⟨_, 4, none⟩ = some (.int .i64 x.bye) := (TX.out).at 4 rfl
 have x5 : World.cell? W ⟨_, 5, none⟩ = some (.bool x.always) := (TX.out).at 5 rfl
 have x6 : World.cell? W ⟨_, 6, none⟩ = some (.slice x.msP x.ms.length x.msC) := (TX.out).at 6 rfl
 clear m0 m1 m2 m3 m4 m5 m6 m7 m8 m9 m10
 clear x0 x1 x2 x3 x4 x5 x6
 refine (cat_item _ P M _ HM.out).mono ?_
 rintro _ w1 ⟨v1, rfl, g1, z1⟩
 have G := Lib.hid (G.out.trans g1)
 have TM := Lib.hid (TM.out.grow g1)
 have TX := Lib.hid (TX.out.grow g1)
 have HM := Lib.hid (HM.out.grow g1)
 have HX := Lib.hid (HX.out.grow g1)
 clear g1
 have m0 := mc0 TM.out _ (Gr.refl _)
 have m1 := mc1 TM.out _ (Gr.refl _)
 have m2 := mc2 TM.out _ (Gr.refl _)
 have m3 := mc3 TM.out _ (Gr.refl _)
 have m4 := mc4 TM.out _ (Gr.refl _)
 have m5 := mc5 TM.out _ (Gr.refl _)
 have m6 := mc6 TM.out _ (Gr.refl _)
 have m7 := mc7 TM.out _ (Gr.refl _)
 have m8 := mc8 TM.out _ (Gr.refl _)
 have m9 := mc9 TM.out _ (Gr.refl _)
 have m10 := mc10 TM.out _ (Gr.refl _)
 have x0 : World.cell? w1 ⟨_, 0, none⟩ = some (.int .i64 x.kind) := (TX.out).at 0 rfl
 have x1 : World.cell? w1 ⟨_, 1, none⟩ = some (.int .i64 x.item) := (TX.out).at 1 rfl
 have x2 : World.cell? w1 ⟨_, 2, none⟩ = some (.int .i64 x.other) := (TX.out).at 2 rfl
 have x3 : World.cell? w1 ⟨_, 3, none⟩ = some (.int .i64 x.n) := (TX.out).at 3 rfl
 have x4 : World.cell? w1 ⟨_, 4, none⟩ = some (.int .i64 x.bye) := (TX.out).at 4 rfl
 have x5 : World.cell? w1 ⟨_, 5, none⟩ = some (.bool x.always) := (TX.out).at 5 rfl
 have x6 : World.cell? w1 ⟨_, 6, none⟩ = some (.slice x.msP x.ms.length x.msC) := (TX.out).at 6 rfl
 rcases z1.cases with ⟨rfl, k1⟩ | ⟨rfl, k1⟩ <;> have hE := Lib.hid k1 <;> clear k1 z1
 ·go_wp2_with fail
  refine (cat_within _ _ _ _).mono ?_
  rintro _ w1 ⟨⟨v1, rfl, h1⟩, rfl⟩
  rcases h1.cases with ⟨rfl, k1⟩ | ⟨rfl, k1⟩ <;> have hW := Lib.hid k1 <;> clear k1 h1
  ·go_wp2_with fail
   go_ret
   exact ⟨_, rfl, G.out, Tells.yes ⟨hE.out, hW.out⟩⟩
  ·go_wp2_with fail
   go_ret
   exact ⟨_, rfl, G.out, Tells.no fun h => hW.out h.2⟩
 ·go_wp2_with fail
  go_ret
  exact ⟨_, rfl, G.out, Tells.no fun h => hE.out h.1⟩
set_option maxRecDepth 100000 in
theorem frm_11 (w : World) (P : Ptrs) (M : Mdl) (x : RuleM) (hm : MdlAt w P M) (hx : RuleMs w x) :
  Calls Tryz.prog 163 #[.agg (mcells P M), .agg (ruleV x)] w (Ret w fun r _ => Tells (Within x.n 0 200) r) := by
 have HM := Lib.hid hm
 have HX := Lib.hid hx
 have B0 := Cells.new w (mcells P M) 29
 have B := Cells.new (w.alloc (.cells (mcells P M) 29)) #[.int .i64 x.kind, .int .i64 x.item, .int .i64 x.other, .int .i64 x.n, .int .i64 x.bye, .bool x.always, .slice x.msP x.ms.length x.msC] 63
 rw [World.size_alloc] at B
 clear hm hx
 have m0 := mc0 B0.2 _ B.1
 have m1 := mc1 B0.2 _ B.1
 have m2 := mc2 B0.2 _ B.1
 have m3 := mc3 B0.2 _ B.1
 have m4 := mc4 B0.2 _ B.1
 have m5 := mc5 B0.2 _ B.1
 have m6 := mc6 B0.2 _ B.1
 have m7 := mc7 B0.2 _ B.1
 have m8 := mc8 B0.2 _ B.1
 have m9 := mc9 B0.2 _ B.1
 have m10 := mc10 B0.2 _ B.1
 have x0 : World.cell? _ ⟨_, 0, none⟩ = some (.int .i64 x.kind) := (B.2).at 0 rfl
 have x1 : World.cell? _ ⟨_, 1, none⟩ = some (.int .i64 x.item) := (B.2).at 1 rfl
 have x2 : World.cell? _ ⟨_, 2, none⟩ = some (.int .i64 x.other) := (B.2).at 2 rfl
 have x3 : World.cell? _ ⟨_, 3, none⟩ = some (.int .i64 x.n) := (B.2).at 3 rfl
 have x4 : World.cell? _ ⟨_, 4, none⟩ = some (.int .i64 x.bye) := (B.2).at 4 rfl
 have x5 : World.cell? _ ⟨_, 5, none⟩ = some (.bool x.always) := (B.2).at 5 rfl
 have x6 : World.cell? _ ⟨_, 6, none⟩ = some (.slice x.msP x.ms.length x.msC) := (B.2).at 6 rfl
 have H0 := Lib.hid (B0.1.trans B.1)
 have H1 := Lib.hid (B0.2.grow B.1)
 have H2 := Lib.hid B.2
 clear B0 B
 unfold ruleV
 unfold mcells at H0 H1 H2 m0 m1 m2 m3 m4 m5 m6 m7 m8 m9 m10 x0 x1 x2 x3 x4 x5 x6 ⊢
 go_enter Tryz.func163, Tryz.ntmps163
 go_wp2_with fail
 clear m0 m1 m2 m3 m4 m5 m6 m7 m8 m9 m10 x0 x1 x2 x3 x4 x5 x6
 generalize w.heap.size + 1 = bx at H2 ⊢
 generalize w.heap.size = bm at H1 ⊢
 generalize (w.alloc _).alloc _ = W at H0 H1 H2 ⊢
 have TM := Lib.hid (show Cells W bm (mcells P M) from H1.out)
 have TX := Lib.hid H2.out
 have G := Lib.hid H0.out
 have HM := Lib.hid (HM.out.grow G.out)
 have HX := Lib.hid (SlL.grow HX.out G.out)
 clear H0 H1 H2
 have m0 := mc0 TM.out _ (Gr.refl _)
 have m1 := mc1 TM.out _ (Gr.refl _)
 have m2 := mc2 TM.out _ (Gr.refl _)
 have m3 := mc3 TM.out _ (Gr.refl _)
 have m4 := mc4 TM.out _ (Gr.refl _)
 have m5 := mc5 TM.out _ (Gr.refl _)
 have m6 := mc6 TM.out _ (Gr.refl _)
 have m7 := mc7 TM.out _ (Gr.refl _)
 have m8 := mc8 TM.out _ (Gr.refl _)
 have m9 := mc9 TM.out _ (Gr.refl _)
 have m10 := mc10 TM.out _ (Gr.refl _)
 have x0 : World.cell? W ⟨_, 0, none⟩ = some (.int .i64 x.kind) := (TX.out).at 0 rfl
 have x1 : World.cell? W ⟨_, 1, none⟩ = some (.int .i64 x.item) := (TX.out).at 1 rfl
 have x2 : World.cell? W ⟨_, 2, none⟩ = some (.int .i64 x.other) := (TX.out).at 2 rfl
 have x3 : World.cell? W ⟨_, 3, none⟩ = some (.int .i64 x.n) := (TX.out).at 3 rfl
 have x4 : World.cell? W ⟨_, 4, none⟩ = some (.int .i64 x.bye) := (TX.out).at 4 rfl
 have x5 : World.cell? W ⟨_, 5, none⟩ = some (.bool x.always) := (TX.out).at 5 rfl
 have x6 : World.cell? W ⟨_, 6, none⟩ = some (.slice x.msP x.ms.length x.msC) := (TX.out).at 6 rfl
 refine (cat_within _ _ _ _).mono ?_
 rintro _ w1 ⟨⟨v1, rfl, h1⟩, rfl⟩
 rcases h1.cases with ⟨rfl, k1⟩ | ⟨rfl, k1⟩ <;> have hW := Lib.hid k1 <;> clear k1 h1
 ·go_wp2_with fail
  go_ret
  exact ⟨_, rfl, G.out, Tells.yes hW.out⟩
 ·go_wp2_with fail
  go_ret
  exact ⟨_, rfl, G.out, Tells.no fun h => hW.out h⟩
set_option maxRecDepth 100000 in
theorem frm_1 (w : World) (P : Ptrs) (M : Mdl) (x : RuleM) (hm : MdlAt w P M) (hx : RuleMs w x) :
  Calls Tryz.prog 152 #[.agg (mcells P M), .agg (ruleV x)] w (Ret w fun r _ => Tells (Ex x.item M.items.length ∧ (∃ it, M.items[(x.item - 1).toNat]? = some it ∧ it.kind = 0) ∧ True) r) := by
 have HM := Lib.hid hm
 have HX := Lib.hid hx
 have B0 := Cells.new w (mcells P M) 29
 have B := Cells.new (w.alloc (.cells (mcells P M) 29)) #[.int .i64 x.kind, .int .i64 x.item, .int .i64 x.other, .int .i64 x.n, .int .i64 x.bye, .bool x.always, .slice x.msP x.ms.length x.msC] 63
 rw [World.size_alloc] at B
 clear hm hx
 have m0 := mc0 B0.2 _ B.1
 have m1 := mc1 B0.2 _ B.1
 have m2 := mc2 B0.2 _ B.1
 have m3 := mc3 B0.2 _ B.1
 have m4 := mc4 B0.2 _ B.1
 have m5 := mc5 B0.2 _ B.1
 have m6 := mc6 B0.2 _ B.1
 have m7 := mc7 B0.2 _ B.1
 have m8 := mc8 B0.2 _ B.1
 have m9 := mc9 B0.2 _ B.1
 have m10 := mc10 B0.2 _ B.1
 have x0 : World.cell? _ ⟨_, 0, none⟩ = some (.int .i64 x.kind) := (B.2).at 0 rfl
 have x1 : World.cell? _ ⟨_, 1, none⟩ = some (.int .i64 x.item) := (B.2).at 1 rfl
 have x2 : World.cell? _ ⟨_, 2, none⟩ = some (.int .i64 x.other) := (B.2).at 2 rfl
 have x3 : World.cell? _ ⟨_, 3, none⟩ = some (.int .i64 x.n) := (B.2).at 3 rfl
 have x4 : World.cell? _ ⟨_, 4, none⟩ = some (.int .i64 x.bye) := (B.2).at 4 rfl
 have x5 : World.cell? _ ⟨_, 5, none⟩ = some (.bool x.always) := (B.2).at 5 rfl
 have x6 : World.cell? _ ⟨_, 6, none⟩ = some (.slice x.msP x.ms.length x.msC) := (B.2).at 6 rfl
 have H0 := Lib.hid (B0.1.trans B.1)
 have H1 := Lib.hid (B0.2.grow B.1)
 have H2 := Lib.hid B.2
 clear B0 B
 unfold ruleV
 unfold mcells at H0 H1 H2 m0 m1 m2 m3 m4 m5 m6 m7 m8 m9 m10 x0 x1 x2 x3 x4 x5 x6 ⊢
 go_enter Tryz.func152, Tryz.ntmps152
 go_wp2_with fail
 clear m0 m1 m2 m3 m4 m5 m6 m7 m8 m9 m10 x0 x1 x2 x3 x4 x5 x6
 generalize w.heap.size + 1 = bx at H2 ⊢
 generalize w.heap.size = bm at H1 ⊢
 generalize (w.alloc _).alloc _ = W at H0 H1 H2 ⊢
 have TM := Lib.hid (show Cells W bm (mcells P M) from H1.out)
 have TX := Lib.hid H2.out
 have G := Lib.hid H0.out
 have HM := Lib.hid (HM.out.grow G.out)
 have HX := Lib.hid (SlL.grow HX.out G.out)
 clear H0 H1 H2
 have m0 := mc0 TM.out _ (Gr.refl _)
 have m1 := mc1 TM.out _ (Gr.refl _)
 have m2 := mc2 TM.out _ (Gr.refl _)
 have m3 := mc3 TM.out _ (Gr.refl _)
 have m4 := mc4 TM.out _ (Gr.refl _)
 have m5 := mc5 TM.out _ (Gr.refl _)
 have m6 := mc6 TM.out _ (Gr.refl _)
 have m7 := mc7 TM.out _ (Gr.refl _)
 have m8 := mc8 TM.out _ (Gr.refl _)
 have m9 := mc9 TM.out _ (Gr.refl _)
 have m10 := mc10 TM.out _ (Gr.refl _)
 have x0 : World.cell? W ⟨_, 0, none⟩ = some (.int .i64 x.kind) := (TX.out).at 0 rfl
 have x1 : World.cell? W ⟨_, 1, none⟩ = some (.int .i64 x.item) := (TX.out).at 1 rfl
 have x2 : World.cell? W ⟨_, 2, none⟩ = some (.int .i64 x.other) := (TX.out).at 2 rfl
 have x3 : World.cell? W ⟨_, 3, none⟩ = some (.int .i64 x.n) := (TX.out).at 3 rfl
 have x4 : World.cell? W ⟨_, 4, none⟩ = some (.int .i64 x.bye) := (TX.out).at 4 rfl
 have x5 : World.cell? W ⟨_, 5, none⟩ = some (.bool x.always) := (TX.out).at 5 rfl
 have x6 : World.cell? W ⟨_, 6, none⟩ = some (.slice x.msP x.ms.length x.msC) := (TX.out).at 6 rfl
 clear m0 m1 m2 m3 m4 m5 m6 m7 m8 m9 m10
 clear x0 x1 x2 x3 x4 x5 x6
 refine (cat_item _ P M _ HM.out).mono ?_
 rintro _ w1 ⟨v1, rfl, g1, z1⟩
 have G := Lib.hid (G.out.trans g1)
 have TM := Lib.hid (TM.out.grow g1)
 have TX := Lib.hid (TX.out.grow g1)
 have HM := Lib.hid (HM.out.grow g1)
 have HX := Lib.hid (HX.out.grow g1)
 clear g1
 have m0 := mc0 TM.out _ (Gr.refl _)
 have m1 := mc1 TM.out _ (Gr.refl _)
 have m2 := mc2 TM.out _ (Gr.refl _)
 have m3 := mc3 TM.out _ (Gr.refl _)
 have m4 := mc4 TM.out _ (Gr.refl _)
 have m5 := mc5 TM.out _ (Gr.refl _)
 have m6 := mc6 TM.out _ (Gr.refl _)
 have m7 := mc7 TM.out _ (Gr.refl _)
 have m8 := mc8 TM.out _ (Gr.refl _)
 have m9 := mc9 TM.out _ (Gr.refl _)
 have m10 := mc10 TM.out _ (Gr.refl _)
 have x0 : World.cell? w1 ⟨_, 0, none⟩ = some (.int .i64 x.kind) := (TX.out).at 0 rfl
 have x1 : World.cell? w1 ⟨_, 1, none⟩ = some (.int .i64 x.item) := (TX.out).at 1 rfl
 have x2 : World.cell? w1 ⟨_, 2, none⟩ = some (.int .i64 x.other) := (TX.out).at 2 rfl
 have x3 : World.cell? w1 ⟨_, 3, none⟩ = some (.int .i64 x.n) := (TX.out).at 3 rfl
 have x4 : World.cell? w1 ⟨_, 4, none⟩ = some (.int .i64 x.bye) := (TX.out).at 4 rfl
 have x5 : World.cell? w1 ⟨_, 5, none⟩ = some (.bool x.always) := (TX.out).at 5 rfl
 have x6 : World.cell? w1 ⟨_, 6, none⟩ = some (.slice x.msP x.ms.length x.msC) := (TX.out).at 6 rfl
 rcases z1.cases with ⟨rfl, k1⟩ | ⟨rfl, k1⟩ <;> have hE := Lib.hid k1 <;> clear k1 z1
 ·obtain ⟨k, it, bi, oi, e1, ⟨e2, e4⟩, e3, hit, hcell⟩ := item_of HM.out hE.out
  have HIt := Lib.hid hit
  obtain ⟨ci0, ci1, _⟩ := hcell _ (Gr.refl _)
  clear hit hcell
  rw [e1] at x1
  rw [e3] at m5
  have HE1 := Lib.hid e1
  clear e1 e3
  have HC := Lib.hid (kind_of HE1.out HIt.out (Iff.refl (Ex x.item M.items.length ∧ (∃ it, M.items[(x.item - 1).toNat]? = some it ∧ it.kind = 0) ∧ True)))
  by_cases c : it.kind = 0
  ·have eK : (it.kind == 0) = true := by simpa using c
   have hK := Lib.hid c
   clear c
   go_wp2_with fail
   go_ret
   exact ⟨_, rfl, G.out, Tells.yes (HC.out.2 ⟨hE.out, hK.out, trivial⟩)⟩
  ·have eK : (it.kind == 0) = false := by simpa using c
   have hK := Lib.hid c
   clear c
   go_wp2_with fail
   go_ret
   exact ⟨_, rfl, G.out, Tells.no fun h => hK.out (HC.out.1 h).2.1⟩
 ·go_wp2_with fail
  go_ret
  exact ⟨_, rfl, G.out, Tells.no fun h => hE.out h.1⟩
set_option maxRecDepth 100000 in
theorem frm_7 (w : World) (P : Ptrs) (M : Mdl) (x : RuleM) (hm : MdlAt w P M) (hx : RuleMs w x) (hb : x.ms.length ≤ 1000000) :
  Calls Tryz.prog 159 #[.agg (mcells P M), .agg (ruleV x)] w (Ret w fun r _ => Tells (Ex x.item M.items.length ∧ MsOK M x.ms) r) := by
 have HM := Lib.hid hm
 have HX := Lib.hid hx
 have B0 := Cells.new w (mcells P M) 29
 have B := Cells.new (w.alloc (.cells (mcells P M) 29)) #[.int .i64 x.kind, .int .i64 x.item, .int .i64 x.other, .int .i64 x.n, .int .i64 x.bye, .bool x.always, .slice x.msP x.ms.length x.msC] 63
 rw [World.size_alloc] at B
 clear hm hx
 have m0 := mc0 B0.2 _ B.1
 have m1 := mc1 B0.2 _ B.1
 have m2 := mc2 B0.2 _ B.1
 have m3 := mc3 B0.2 _ B.1
 have m4 := mc4 B0.2 _ B.1
 have m5 := mc5 B0.2 _ B.1
 have m6 := mc6 B0.2 _ B.1
 have m7 := mc7 B0.2 _ B.1
 have m8 := mc8 B0.2 _ B.1
 have m9 := mc9 B0.2 _ B.1
 have m10 := mc10 B0.2 _ B.1
 have x0 : World.cell? _ ⟨_, 0, none⟩ = some (.int .i64 x.kind) := (B.2).at 0 rfl
 have x1 : World.cell? _ ⟨_, 1, none⟩ = some (.int .i64 x.item) := (B.2).at 1 rfl
 have x2 : World.cell? _ ⟨_, 2, none⟩ = some (.int .i64 x.other) := (B.2).at 2 rfl
 have x3 : World.cell? _ ⟨_, 3, none⟩ = some (.int .i64 x.n) := (B.2).at 3 rfl
 have x4 : World.cell? _ ⟨_, 4, none⟩ = some (.int .i64 x.bye) := (B.2).at 4 rfl
 have x5 : World.cell? _ ⟨_, 5, none⟩ = some (.bool x.always) := (B.2).at 5 rfl
 have x6 : World.cell? _ ⟨_, 6, none⟩ = some (.slice x.msP x.ms.length x.msC) := (B.2).at 6 rfl
 have H0 := Lib.hid (B0.1.trans B.1)
 have H1 := Lib.hid (B0.2.grow B.1)
 have H2 := Lib.hid B.2
 clear B0 B
 unfold ruleV
 unfold mcells at H0 H1 H2 m0 m1 m2 m3 m4 m5 m6 m7 m8 m9 m10 x0 x1 x2 x3 x4 x5 x6 ⊢
 go_enter Tryz.func159, Tryz.ntmps159
 go_wp2_with fail
 clear m0 m1 m2 m3 m4 m5 m6 m7 m8 m9 m10 x0 x1 x2 x3 x4 x5 x6
 generalize w.heap.size + 1 = bx at H2 ⊢
 generalize w.heap.size = bm at H1 ⊢
 generalize (w.alloc _).alloc _ = W at H0 H1 H2 ⊢
 have TM := Lib.hid (show Cells W bm (mcells P M) from H1.out)
 have TX := Lib.hid H2.out
 have G := Lib.hid H0.out
 have HM := Lib.hid (HM.out.grow G.out)
 have HX := Lib.hid (SlL.grow HX.out G.out)
 clear H0 H1 H2
 have m0 := mc0 TM.out _ (Gr.refl _)
 have m1 := mc1 TM.out _ (Gr.refl _)
 have m2 := mc2 TM.out _ (Gr.refl _)
 have m3 := mc3 TM.out _ (Gr.refl _)
 have m4 := mc4 TM.out _ (Gr.refl _)
 have m5 := mc5 TM.out _ (Gr.refl _)
 have m6 := mc6 TM.out _ (Gr.refl _)
 have m7 := mc7 TM.out _ (Gr.refl _)
 have m8 := mc8 TM.out _ (Gr.refl _)
 have m9 := mc9 TM.out _ (Gr.refl _)
 have m10 := mc10 TM.out _ (Gr.refl _)
 have x0 : World.cell? W ⟨_, 0, none⟩ = some (.int .i64 x.kind) := (TX.out).at 0 rfl
 have x1 : World.cell? W ⟨_, 1, none⟩ = some (.int .i64 x.item) := (TX.out).at 1 rfl
 have x2 : World.cell? W ⟨_, 2, none⟩ = some (.int .i64 x.other) := (TX.out).at 2 rfl
 have x3 : World.cell? W ⟨_, 3, none⟩ = some (.int .i64 x.n) := (TX.out).at 3 rfl
 have x4 : World.cell? W ⟨_, 4, none⟩ = some (.int .i64 x.bye) := (TX.out).at 4 rfl
 have x5 : World.cell? W ⟨_, 5, none⟩ = some (.bool x.always) := (TX.out).at 5 rfl
 have x6 : World.cell? W ⟨_, 6, none⟩ = some (.slice x.msP x.ms.length x.msC) := (TX.out).at 6 rfl
 clear m0 m1 m2 m3 m4 m5 m6 m7 m8 m9 m10
 clear x0 x1 x2 x3 x4 x5 x6
 refine (cat_item _ P M _ HM.out).mono ?_
 rintro _ w1 ⟨v1, rfl, g1, z1⟩
 have G := Lib.hid (G.out.trans g1)
 have TM := Lib.hid (TM.out.grow g1)
 have TX := Lib.hid (TX.out.grow g1)
 have HM := Lib.hid (HM.out.grow g1)
 have HX := Lib.hid (HX.out.grow g1)
 clear g1
 have m0 := mc0 TM.out _ (Gr.refl _)
 have m1 := mc1 TM.out _ (Gr.refl _)
 have m2 := mc2 TM.out _ (Gr.refl _)
 have m3 := mc3 TM.out _ (Gr.refl _)
 have m4 := mc4 TM.out _ (Gr.refl _)
 have m5 := mc5 TM.out _ (Gr.refl _)
 have m6 := mc6 TM.out _ (Gr.refl _)
 have m7 := mc7 TM.out _ (Gr.refl _)
 have m8 := mc8 TM.out _ (Gr.refl _)
 have m9 := mc9 TM.out _ (Gr.refl _)
 have m10 := mc10 TM.out _ (Gr.refl _)
 have x0 : World.cell? w1 ⟨_, 0, none⟩ = some (.int .i64 x.kind) := (TX.out).at 0 rfl
 have x1 : World.cell? w1 ⟨_, 1, none⟩ = some (.int .i64 x.item) := (TX.out).at 1 rfl
 have x2 : World.cell? w1 ⟨_, 2, none⟩ = some (.int .i64 x.other) := (TX.out).at 2 rfl
 have x3 : World.cell? w1 ⟨_, 3, none⟩ = some (.int .i64 x.n) := (TX.out).at 3 rfl
 have x4 : World.cell? w1 ⟨_, 4, none⟩ = some (.int .i64 x.bye) := (TX.out).at 4 rfl
 have x5 : World.cell? w1 ⟨_, 5, none⟩ = some (.bool x.always) := (TX.out).at 5 rfl
 have x6 : World.cell? w1 ⟨_, 6, none⟩ = some (.slice x.msP x.ms.length x.msC) := (TX.out).at 6 rfl
 rcases z1.cases with ⟨rfl, k1⟩ | ⟨rfl, k1⟩ <;> have hE := Lib.hid k1 <;> clear k1 z1
 ·go_wp2_with fail
  clear m0 m1 m2 m3 m4 m5 m6 m7 m8 m9 m10
  clear x0 x1 x2 x3 x4 x5 x6
  refine (cat_machines _ P M x.msP x.msC x.ms HM.out HX.out hb).mono ?_
  rintro _ w2 ⟨v1, rfl, g1, z1⟩
  have G := Lib.hid (G.out.trans g1)
  have TM := Lib.hid (TM.out.grow g1)
  have TX := Lib.hid (TX.out.grow g1)
  have HM := Lib.hid (HM.out.grow g1)
  have HX := Lib.hid (HX.out.grow g1)
  clear g1
  rcases z1.cases with ⟨rfl, k1⟩ | ⟨rfl, k1⟩ <;> have hMS := Lib.hid k1 <;> clear k1 z1
  ·go_wp2_with fail
   go_ret
   exact ⟨_, rfl, G.out, Tells.yes ⟨hE.out, hMS.out⟩⟩
  ·go_wp2_with fail
   go_ret
   exact ⟨_, rfl, G.out, Tells.no fun h => hMS.out h.2⟩
 ·go_wp2_with fail
  go_ret
  exact ⟨_, rfl, G.out, Tells.no fun h => hE.out h.1⟩
set_option maxRecDepth 100000 in
theorem frm_9 (w : World) (P : Ptrs) (M : Mdl) (x : RuleM) (hm : MdlAt w P M) (hx : RuleMs w x) :
  Calls Tryz.prog 161 #[.agg (mcells P M), .agg (ruleV x)] w (Ret w fun r _ => Tells (Ex x.item M.items.length ∧ Ex x.other M.items.length ∧ x.item ≠ x.other) r) := by
 have HM := Lib.hid hm
 have HX := Lib.hid hx
 have B0 := Cells.new w (mcells P M) 29
 have B := Cells.new (w.alloc (.cells (mcells P M) 29)) #[.int .i64 x.kind, .int .i64 x.item, .int .i64 x.other, .int .i64 x.n, .int .i64 x.bye, .bool x.always, .slice x.msP x.ms.length x.msC] 63
 rw [World.size_alloc] at B
 clear hm hx
 have m0 := mc0 B0.2 _ B.1
 have m1 := mc1 B0.2 _ B.1
 have m2 := mc2 B0.2 _ B.1
 have m3 := mc3 B0.2 _ B.1
 have m4 := mc4 B0.2 _ B.1
 have m5 := mc5 B0.2 _ B.1
 have m6 := mc6 B0.2 _ B.1
 have m7 := mc7 B0.2 _ B.1
 have m8 := mc8 B0.2 _ B.1
 have m9 := mc9 B0.2 _ B.1
 have m10 := mc10 B0.2 _ B.1
 have x0 : World.cell? _ ⟨_, 0, none⟩ = some (.int .i64 x.kind) := (B.2).at 0 rfl
 have x1 : World.cell? _ ⟨_, 1, none⟩ = some (.int .i64 x.item) := (B.2).at 1 rfl
 have x2 : World.cell? _ ⟨_, 2, none⟩ = some (.int .i64 x.other) := (B.2).at 2 rfl
 have x3 : World.cell? _ ⟨_, 3, none⟩ = some (.int .i64 x.n) := (B.2).at 3 rfl
 have x4 : World.cell? _ ⟨_, 4, none⟩ = some (.int .i64 x.bye) := (B.2).at 4 rfl
 have x5 : World.cell? _ ⟨_, 5, none⟩ = some (.bool x.always) := (B.2).at 5 rfl
 have x6 : World.cell? _ ⟨_, 6, none⟩ = some (.slice x.msP x.ms.length x.msC) := (B.2).at 6 rfl
 have H0 := Lib.hid (B0.1.trans B.1)
 have H1 := Lib.hid (B0.2.grow B.1)
 have H2 := Lib.hid B.2
 clear B0 B
 unfold ruleV
 unfold mcells at H0 H1 H2 m0 m1 m2 m3 m4 m5 m6 m7 m8 m9 m10 x0 x1 x2 x3 x4 x5 x6 ⊢
 go_enter Tryz.func161, Tryz.ntmps161
 go_wp2_with fail
 clear m0 m1 m2 m3 m4 m5 m6 m7 m8 m9 m10 x0 x1 x2 x3 x4 x5 x6
 generalize w.heap.size + 1 = bx at H2 ⊢
 generalize w.heap.size = bm at H1 ⊢
 generalize (w.alloc _).alloc _ = W at H0 H1 H2 ⊢
 have TM := Lib.hid (show Cells W bm (mcells P M) from H1.out)
 have TX := Lib.hid H2.out
 have G := Lib.hid H0.out
 have HM := Lib.hid (HM.out.grow G.out)
 have HX := Lib.hid (SlL.grow HX.out G.out)
 clear H0 H1 H2
 have m0 := mc0 TM.out _ (Gr.refl _)
 have m1 := mc1 TM.out _ (Gr.refl _)
 have m2 := mc2 TM.out _ (Gr.refl _)
 have m3 := mc3 TM.out _ (Gr.refl _)
 have m4 := mc4 TM.out _ (Gr.refl _)
 have m5 := mc5 TM.out _ (Gr.refl _)
 have m6 := mc6 TM.out _ (Gr.refl _)
 have m7 := mc7 TM.out _ (Gr.refl _)
 have m8 := mc8 TM.out _ (Gr.refl _)
 have m9 := mc9 TM.out _ (Gr.refl _)
 have m10 := mc10 TM.out _ (Gr.refl _)
 have x0 : World.cell? W ⟨_, 0, none⟩ = some (.int .i64 x.kind) := (TX.out).at 0 rfl
 have x1 : World.cell? W ⟨_, 1, none⟩ = some (.int .i64 x.item) := (TX.out).at 1 rfl
 have x2 : World.cell? W ⟨_, 2, none⟩ = some (.int .i64 x.other) := (TX.out).at 2 rfl
 have x3 : World.cell? W ⟨_, 3, none⟩ = some (.int .i64 x.n) := (TX.out).at 3 rfl
 have x4 : World.cell? W ⟨_, 4, none⟩ = some (.int .i64 x.bye) := (TX.out).at 4 rfl
 have x5 : World.cell? W ⟨_, 5, none⟩ = some (.bool x.always) := (TX.out).at 5 rfl
 have x6 : World.cell? W ⟨_, 6, none⟩ = some (.slice x.msP x.ms.length x.msC) := (TX.out).at 6 rfl
 clear m0 m1 m2 m3 m4 m5 m6 m7 m8 m9 m10
 clear x0 x1 x2 x3 x4 x5 x6
 refine (cat_item _ P M _ HM.out).mono ?_
 rintro _ w1 ⟨v1, rfl, g1, z1⟩
 have G := Lib.hid (G.out.trans g1)
 have TM := Lib.hid (TM.out.grow g1)
 have TX := Lib.hid (TX.out.grow g1)
 have HM := Lib.hid (HM.out.grow g1)
 have HX := Lib.hid (HX.out.grow g1)
 clear g1
 have m0 := mc0 TM.out _ (Gr.refl _)
 have m1 := mc1 TM.out _ (Gr.refl _)
 have m2 := mc2 TM.out _ (Gr.refl _)
 have m3 := mc3 TM.out _ (Gr.refl _)
 have m4 := mc4 TM.out _ (Gr.refl _)
 have m5 := mc5 TM.out _ (Gr.refl _)
 have m6 := mc6 TM.out _ (Gr.refl _)
 have m7 := mc7 TM.out _ (Gr.refl _)
 have m8 := mc8 TM.out _ (Gr.refl _)
 have m9 := mc9 TM.out _ (Gr.refl _)
 have m10 := mc10 TM.out _ (Gr.refl _)
 have x0 : World.cell? w1 ⟨_, 0, none⟩ = some (.int .i64 x.kind) := (TX.out).at 0 rfl
 have x1 : World.cell? w1 ⟨_, 1, none⟩ = some (.int .i64 x.item) := (TX.out).at 1 rfl
 have x2 : World.cell? w1 ⟨_, 2, none⟩ = some (.int .i64 x.other) := (TX.out).at 2 rfl
 have x3 : World.cell? w1 ⟨_, 3, none⟩ = some (.int .i64 x.n) := (TX.out).at 3 rfl
 have x4 : World.cell? w1 ⟨_, 4, none⟩ = some (.int .i64 x.bye) := (TX.out).at 4 rfl
 have x5 : World.cell? w1 ⟨_, 5, none⟩ = some (.bool x.always) := (TX.out).at 5 rfl
 have x6 : World.cell? w1 ⟨_, 6, none⟩ = some (.slice x.msP x.ms.length x.msC) := (TX.out).at 6 rfl
 rcases z1.cases with ⟨rfl, k1⟩ | ⟨rfl, k1⟩ <;> have hE := Lib.hid k1 <;> clear k1 z1
 ·go_wp2_with fail
  clear m0 m1 m2 m3 m4 m5 m6 m7 m8 m9 m10
  clear x0 x1 x2 x3 x4 x5 x6
  refine (cat_item _ P M _ HM.out).mono ?_
  rintro _ w2 ⟨v1, rfl, g1, z1⟩
  have G := Lib.hid (G.out.trans g1)
  have TM := Lib.hid (TM.out.grow g1)
  have TX := Lib.hid (TX.out.grow g1)
  have HM := Lib.hid (HM.out.grow g1)
  have HX := Lib.hid (HX.out.grow g1)
  clear g1
  have m0 := mc0 TM.out _ (Gr.refl _)
  have m1 := mc1 TM.out _ (Gr.refl _)
  have m2 := mc2 TM.out _ (Gr.refl _)
  have m3 := mc3 TM.out _ (Gr.refl _)
  have m4 := mc4 TM.out _ (Gr.refl _)
  have m5 := mc5 TM.out _ (Gr.refl _)
  have m6 := mc6 TM.out _ (Gr.refl _)
  have m7 := mc7 TM.out _ (Gr.refl _)
  have m8 := mc8 TM.out _ (Gr.refl _)
  have m9 := mc9 TM.out _ (Gr.refl _)
  have m10 := mc10 TM.out _ (Gr.refl _)
  have x0 : World.cell? w2 ⟨_, 0, none⟩ = some (.int .i64 x.kind) := (TX.out).at 0 rfl
  have x1 : World.cell? w2 ⟨_, 1, none⟩ = some (.int .i64 x.item) := (TX.out).at 1 rfl
  have x2 : World.cell? w2 ⟨_, 2, none⟩ = some (.int .i64 x.other) := (TX.out).at 2 rfl
  have x3 : World.cell? w2 ⟨_, 3, none⟩ = some (.int .i64 x.n) := (TX.out).at 3 rfl
  have x4 : World.cell? w2 ⟨_, 4, none⟩ = some (.int .i64 x.bye) := (TX.out).at 4 rfl
  have x5 : World.cell? w2 ⟨_, 5, none⟩ = some (.bool x.always) := (TX.out).at 5 rfl
  have x6 : World.cell? w2 ⟨_, 6, none⟩ = some (.slice x.msP x.ms.length x.msC) := (TX.out).at 6 rfl
  rcases z1.cases with ⟨rfl, k1⟩ | ⟨rfl, k1⟩ <;> have hO := Lib.hid k1 <;> clear k1 z1
  ·by_cases c : x.item = x.other
   ·have eD : (x.item != x.other) = false := by simpa using c
    have hD := Lib.hid c
    clear c
    go_wp2_with fail
    go_ret
    exact ⟨_, rfl, G.out, Tells.no fun h => h.2.2 hD.out⟩
   ·have eD : (x.item != x.other) = true := by simpa using c
    have hD := Lib.hid c
    clear c
    go_wp2_with fail
    go_ret
    exact ⟨_, rfl, G.out, Tells.yes ⟨hE.out, hO.out, hD.out⟩⟩
  ·go_wp2_with fail
   go_ret
   exact ⟨_, rfl, G.out, Tells.no fun h => hO.out h.2.1⟩
 ·go_wp2_with fail
  go_ret
  exact ⟨_, rfl, G.out, Tells.no fun h => hE.out h.1⟩
theorem in234 (n : Int) : ([2, 3, 4] : List Int).contains n = true ↔ Within n 2 4 := by simp [Within]; omega
set_option maxRecDepth 100000 in
theorem frm_5 (w : World) (P : Ptrs) (M : Mdl) (x : RuleM) (hm : MdlAt w P M) (hx : RuleMs w x) :
  Calls Tryz.prog 157 #[.agg (mcells P M), .agg (ruleV x)] w (Ret w fun r _ => Tells (Ex x.item M.items.length ∧ Within x.n 0 16 ∧ Within x.bye 2 4) r) := by
 have HM := Lib.hid hm
 have HX := Lib.hid hx
 have B0 := Cells.new w (mcells P M) 29
 have B := Cells.new (w.alloc (.cells (mcells P M) 29)) #[.int .i64 x.kind, .int .i64 x.item, .int .i64 x.other, .int .i64 x.n, .int .i64 x.bye, .bool x.always, .slice x.msP x.ms.length x.msC] 63
 rw [World.size_alloc] at B
 clear hm hx
 have m0 := mc0 B0.2 _ B.1
 have m1 := mc1 B0.2 _ B.1
 have m2 := mc2 B0.2 _ B.1
 have m3 := mc3 B0.2 _ B.1
 have m4 := mc4 B0.2 _ B.1
 have m5 := mc5 B0.2 _ B.1
 have m6 := mc6 B0.2 _ B.1
 have m7 := mc7 B0.2 _ B.1
 have m8 := mc8 B0.2 _ B.1
 have m9 := mc9 B0.2 _ B.1
 have m10 := mc10 B0.2 _ B.1
 have x0 : World.cell? _ ⟨_, 0, none⟩ = some (.int .i64 x.kind) := (B.2).at 0 rfl
 have x1 : World.cell? _ ⟨_, 1, none⟩ = some (.int .i64 x.item) := (B.2).at 1 rfl
 have x2 : World.cell? _ ⟨_, 2, none⟩ = some (.int .i64 x.other) := (B.2).at 2 rfl
 have x3 : World.cell? _ ⟨_, 3, none⟩ = some (.int .i64 x.n) := (B.2).at 3 rfl
 have x4 : World.cell? _ ⟨_, 4, none⟩ = some (.int .i64 x.bye) := (B.2).at 4 rfl
 have x5 : World.cell? _ ⟨_, 5, none⟩ = some (.bool x.always) := (B.2).at 5 rfl
 have x6 : World.cell? _ ⟨_, 6, none⟩ = some (.slice x.msP x.ms.length x.msC) := (B.2).at 6 rfl
 have H0 := Lib.hid (B0.1.trans B.1)
 have H1 := Lib.hid (B0.2.grow B.1)
 have H2 := Lib.hid B.2
 clear B0 B
 unfold ruleV
 unfold mcells at H0 H1 H2 m0 m1 m2 m3 m4 m5 m6 m7 m8 m9 m10 x0 x1 x2 x3 x4 x5 x6 ⊢
 go_enter Tryz.func157, Tryz.ntmps157
 go_wp2_with fail
 clear m0 m1 m2 m3 m4 m5 m6 m7 m8 m9 m10 x0 x1 x2 x3 x4 x5 x6
 generalize w.heap.size + 1 = bx at H2 ⊢
 generalize w.heap.size = bm at H1 ⊢
 generalize (w.alloc _).alloc _ = W at H0 H1 H2 ⊢
 have TM := Lib.hid (show Cells W bm (mcells P M) from H1.out)
 have TX := Lib.hid H2.out
 have G := Lib.hid H0.out
 have HM := Lib.hid (HM.out.grow G.out)
 have HX := Lib.hid (SlL.grow HX.out G.out)
 clear H0 H1 H2
 have m0 := mc0 TM.out _ (Gr.refl _)
 have m1 := mc1 TM.out _ (Gr.refl _)
 have m2 := mc2 TM.out _ (Gr.refl _)
 have m3 := mc3 TM.out _ (Gr.refl _)
 have m4 := mc4 TM.out _ (Gr.refl _)
 have m5 := mc5 TM.out _ (Gr.refl _)
 have m6 := mc6 TM.out _ (Gr.refl _)
 have m7 := mc7 TM.out _ (Gr.refl _)
 have m8 := mc8 TM.out _ (Gr.refl _)
 have m9 := mc9 TM.out _ (Gr.refl _)
 have m10 := mc10 TM.out _ (Gr.refl _)
 have x0 : World.cell? W ⟨_, 0, none⟩ = some (.int .i64 x.kind) := (TX.out).at 0 rfl
 have x1 : World.cell? W ⟨_, 1, none⟩ = some (.int .i64 x.item) := (TX.out).at 1 rfl
 have x2 : World.cell? W ⟨_, 2, none⟩ = some (.int .i64 x.other) := (TX.out).at 2 rfl
 have x3 : World.cell? W ⟨_, 3, none⟩ = some (.int .i64 x.n) := (TX.out).at 3 rfl
 have x4 : World.cell? W ⟨_, 4, none⟩ = some (.int .i64 x.bye) := (TX.out).at 4 rfl
 have x5 : World.cell? W ⟨_, 5, none⟩ = some (.bool x.always) := (TX.out).at 5 rfl
 have x6 : World.cell? W ⟨_, 6, none⟩ = some (.slice x.msP x.ms.length x.msC) := (TX.out).at 6 rfl
 clear m0 m1 m2 m3 m4 m5 m6 m7 m8 m9 m10
 clear x0 x1 x2 x3 x4 x5 x6
 refine (cat_item _ P M _ HM.out).mono ?_
 rintro _ w1 ⟨v1, rfl, g1, z1⟩
 have G := Lib.hid (G.out.trans g1)
 have TM := Lib.hid (TM.out.grow g1)
 have TX := Lib.hid (TX.out.grow g1)
 have HM := Lib.hid (HM.out.grow g1)
 have HX := Lib.hid (HX.out.grow g1)
 clear g1
 have m0 := mc0 TM.out _ (Gr.refl _)
 have m1 := mc1 TM.out _ (Gr.refl _)
 have m2 := mc2 TM.out _ (Gr.refl _)
 have m3 := mc3 TM.out _ (Gr.refl _)
 have m4 := mc4 TM.out _ (Gr.refl _)
 have m5 := mc5 TM.out _ (Gr.refl _)
 have m6 := mc6 TM.out _ (Gr.refl _)
 have m7 := mc7 TM.out _ (Gr.refl _)
 have m8 := mc8 TM.out _ (Gr.refl _)
 have m9 := mc9 TM.out _ (Gr.refl _)
 have m10 := mc10 TM.out _ (Gr.refl _)
 have x0 : World.cell? w1 ⟨_, 0, none⟩ = some (.int .i64 x.kind) := (TX.out).at 0 rfl
 have x1 : World.cell? w1 ⟨_, 1, none⟩ = some (.int .i64 x.item) := (TX.out).at 1 rfl
 have x2 : World.cell? w1 ⟨_, 2, none⟩ = some (.int .i64 x.other) := (TX.out).at 2 rfl
 have x3 : World.cell? w1 ⟨_, 3, none⟩ = some (.int .i64 x.n) := (TX.out).at 3 rfl
 have x4 : World.cell? w1 ⟨_, 4, none⟩ = some (.int .i64 x.bye) := (TX.out).at 4 rfl
 have x5 : World.cell? w1 ⟨_, 5, none⟩ = some (.bool x.always) := (TX.out).at 5 rfl
 have x6 : World.cell? w1 ⟨_, 6, none⟩ = some (.slice x.msP x.ms.length x.msC) := (TX.out).at 6 rfl
 rcases z1.cases with ⟨rfl, k1⟩ | ⟨rfl, k1⟩ <;> have hE := Lib.hid k1 <;> clear k1 z1
 ·go_wp2_with fail
  refine (cat_within _ _ _ _).mono ?_
  rintro _ w1 ⟨⟨v1, rfl, h1⟩, rfl⟩
  rcases h1.cases with ⟨rfl, k1⟩ | ⟨rfl, k1⟩ <;> have hW := Lib.hid k1 <;> clear k1 h1
  ·clear x0 x1 x2 x3 x4 x5 x6
   clear m0 m1 m2 m3 m4 m5 m6 m7 m8 m9 m10
   have B := Cells.new w1 #[.int .i64 2, .int .i64 3, .int .i64 4] 3
   have x0 : World.cell? _ ⟨_, 0, none⟩ = some (.int .i64 x.kind) := (TX.out.grow B.1).at 0 rfl
   have x1 : World.cell? _ ⟨_, 1, none⟩ = some (.int .i64 x.item) := (TX.out.grow B.1).at 1 rfl
   have x2 : World.cell? _ ⟨_, 2, none⟩ = some (.int .i64 x.other) := (TX.out.grow B.1).at 2 rfl
   have x3 : World.cell? _ ⟨_, 3, none⟩ = some (.int .i64 x.n) := (TX.out.grow B.1).at 3 rfl
   have x4 : World.cell? _ ⟨_, 4, none⟩ = some (.int .i64 x.bye) := (TX.out.grow B.1).at 4 rfl
   have x5 : World.cell? _ ⟨_, 5, none⟩ = some (.bool x.always) := (TX.out.grow B.1).at 5 rfl
   have x6 : World.cell? _ ⟨_, 6, none⟩ = some (.slice x.msP x.ms.length x.msC) := (TX.out.grow B.1).at 6 rfl
   go_wp2_with fail
   clear x0 x1 x2 x3 x4 x5 x6
   generalize w1.heap.size = b at B ⊢
   generalize w1.alloc _ = W1 at B ⊢
   obtain ⟨g0, t0⟩ := B
   have G := Lib.hid (G.out.trans g0)
   clear g0
   refine (Tryz.slices_Contains_int b 0 3 3 [2, 3, 4] x.bye W1 (by decide) (by decide) (fun j hj => ?_)).mono ?_
   ·rcases j with _ | _ | _ | j
    ·exact t0.at 0 rfl
    ·exact t0.at 1 rfl
    ·exact t0.at 2 rfl
    ·simp at hj; omega
   rintro _ w3 ⟨rfl, rfl⟩
   clear t0
   have hc := in234 x.bye
   rw [show List.take 3 ([2, 3, 4] : List Int) = [2, 3, 4] from rfl]
   generalize ([2, 3, 4] : List Int).contains x.bye = t at hc ⊢
   have HC := Lib.hid hc
   clear hc
   cases t
   ·go_wp2_with fail
    go_ret
    exact ⟨_, rfl, G.out, Tells.no fun h => by have := HC.out.2 h.2.2; cases this⟩
   ·go_wp2_with fail
    go_ret
    exact ⟨_, rfl, G.out, Tells.yes ⟨hE.out, hW.out, HC.out.1 (by first | rfl | trivial)⟩⟩
  ·go_wp2_with fail
   go_ret
   exact ⟨_, rfl, G.out, Tells.no fun h => hW.out h.2.1⟩
 ·go_wp2_with fail
  go_ret
  exact ⟨_, rfl, G.out, Tells.no fun h => hE.out h.1⟩
end Go.Proofs.YtnlocdijdfclcaaGreatDoor
namespace Go.Proofs.YtnlocdijdfclcaaGreatDoor
open Go.RowKit Go.Lib Lex
set_option linter.unusedVariables false
set_option linter.unusedSimpArgs false

theorem int_cells {w : World} {b o c n : Nat} {l : List Int} (h : IntL w (.slice (some ⟨b, o, none⟩) n c) l) (hn : l.length = n) : ∀ j, j < l.length → w.cell? ⟨b, o + j, none⟩ = some (.int .i64 (l.getD j 0)) := fun j hj => by
 obtain ⟨b', o', x, hp, hx, hc⟩ := int_at h hn (k := j) (by omega)
 cases hp
 have : l.getD j 0 = x := by simp [List.getD, hx]
 rw [this]
 exact hc _ (Gr.refl _)
theorem int_some {w : World} {p : Option Addr} {c n : Nat} {l : List Int} (h : IntL w (.slice p n c) l) (hn : l.length = n) (h0 : 0 < n) : ∃ b o, p = some ⟨b, o, none⟩ := by
 obtain ⟨b, o, x, hp, _, _⟩ := int_at h hn (k := 0) h0
 exact ⟨b, o, hp⟩
theorem equal_int (w : World) (p q : Option Addr) (c d : Nat) (l m : List Int) (hl : IntL w (.slice p l.length c) l) (hm : IntL w (.slice q m.length d) m) (hb : l.length ≤ 1000000) (hb2 : m.length ≤ 1000000) :
  Calls Tryz.prog 167 #[.slice p l.length c, .slice q m.length d] w (Ret w fun r _ => Tells (l = m) r) := by
 by_cases e : l.length = m.length
 ·by_cases e0 : l.length = 0
  ·have l0 : l = [] := List.length_eq_zero_iff.1 e0
   have m0 : m = [] := List.length_eq_zero_iff.1 (e ▸ e0)
   subst l0 m0
   refine (Tryz.slices_Equal_int_empty p q c 0 d w (by decide)).mono ?_
   rintro _ w' ⟨rfl, rfl⟩
   exact ⟨_, rfl, Gr.refl _, Tells.yes rfl⟩
  ·obtain ⟨b, o, rfl⟩ := int_some hl rfl (by omega)
   obtain ⟨b', o', rfl⟩ := int_some hm rfl (by omega)
   refine (Tryz.slices_Equal_int b o l.length c b' o' m.length d l m w (Nat.le_refl _) (Nat.le_refl _) (by omega) (by omega) (int_cells hl rfl) (int_cells hm rfl)).mono ?_
   rintro _ w' ⟨rfl, q, rfl⟩
   refine ⟨_, rfl, (Gr.refl _).drewN q, _, rfl, ?_⟩
   rw [List.take_length, List.take_length]
   simp
 ·refine (Tryz.slices_Equal_int_lens p q l.length c m.length d w e).mono ?_
  rintro _ w' ⟨rfl, rfl⟩
  exact ⟨_, rfl, Gr.refl _, Tells.no fun h => e (by rw [h])⟩
def Alike (x y : RuleM) : Prop := x.item = y.item ∧ x.other = y.other ∧ x.n = y.n ∧ x.bye = y.bye ∧ x.always = y.always ∧ x.ms = y.ms
set_option maxRecDepth 100000 in
set_option maxHeartbeats 800000 in
theorem cat_same (w : World) (x y : RuleM) (hx : RuleMs w x) (hy : RuleMs w y) (hb : x.ms.length ≤ 1000000) (hb2 : y.ms.length ≤ 1000000) :
  Calls Tryz.prog 124 #[.agg (ruleV x), .agg (ruleV y)] w (Ret w fun r _ => Tells (Alike x y) r) := by
 have B0 := Cells.new w (ruleV x) 63
 have B := Cells.new (w.alloc (.cells (ruleV x) 63)) (ruleV y) 63
 rw [World.size_alloc] at B
 have x0 : World.cell? _ ⟨_, 0, none⟩ = some (.int .i64 x.kind) := ((B0.2.grow B.1)).at 0 rfl
 have x1 : World.cell? _ ⟨_, 1, none⟩ = some (.int .i64 x.item) := ((B0.2.grow B.1)).at 1 rfl
 have x2 : World.cell? _ ⟨_, 2, none⟩ = some (.int .i64 x.other) := ((B0.2.grow B.1)).at 2 rfl
 have x3 : World.cell? _ ⟨_, 3, none⟩ = some (.int .i64 x.n) := ((B0.2.grow B.1)).at 3 rfl
 have x4 : World.cell? _ ⟨_, 4, none⟩ = some (.int .i64 x.bye) := ((B0.2.grow B.1)).at 4 rfl
 have x5 : World.cell? _ ⟨_, 5, none⟩ = some (.bool x.always) := ((B0.2.grow B.1)).at 5 rfl
 have x6 : World.cell? _ ⟨_, 6, none⟩ = some (.slice x.msP x.ms.length x.msC) := ((B0.2.grow B.1)).at 6 rfl
 have y1 : World.cell? _ ⟨_, 1, none⟩ = some (.int .i64 y.item) := B.2.at 1 rfl
 have y2 : World.cell? _ ⟨_, 2, none⟩ = some (.int .i64 y.other) := B.2.at 2 rfl
 have y3 : World.cell? _ ⟨_, 3, none⟩ = some (.int .i64 y.n) := B.2.at 3 rfl
 have y4 : World.cell? _ ⟨_, 4, none⟩ = some (.int .i64 y.bye) := B.2.at 4 rfl
 have y5 : World.cell? _ ⟨_, 5, none⟩ = some (.bool y.always) := B.2.at 5 rfl
 have y6 : World.cell? _ ⟨_, 6, none⟩ = some (.slice y.msP y.ms.length y.msC) := B.2.at 6 rfl
 have G := Lib.hid (B0.1.trans B.1)
 have HX := Lib.hid (hx.grow G.out)
 have HY := Lib.hid (hy.grow G.out)
 clear hx hy B0 B
 unfold ruleV at *
 go_enter Tryz.func124, Tryz.ntmps124
 by_cases c : x.item = y.item
 ·have eitem : (x.item == y.item) = true := by simpa using c
  have hitem := Lib.hid c
  clear c
  by_cases c : x.other = y.other
  ·have eother : (x.other == y.other) = true := by simpa using c
   have hother := Lib.hid c
   clear c
   by_cases c : x.n = y.n
   ·have en : (x.n == y.n) = true := by simpa using c
    have hn := Lib.hid c
    clear c
    by_cases c : x.bye = y.bye
    ·have ebye : (x.bye == y.bye) = true := by simpa using c
     have hbye := Lib.hid c
     clear c
     by_cases c : x.always = y.always
     ·have ealways : (x.always == y.always) = true := by simpa using c
      have halways := Lib.hid c
      clear c
      go_wp2_with fail
      clear x0 x1 x2 x3 x4 x5 x6 y1 y2 y3 y4 y5 y6
      refine (equal_int _ x.msP y.msP x.msC y.msC x.ms y.ms HX.out HY.out hb hb2).mono ?_
      rintro _ w1 ⟨v1, rfl, g1, h1⟩
      have G := Lib.hid (G.out.trans g1)
      clear g1
      rcases h1.cases with ⟨rfl, k1⟩ | ⟨rfl, k1⟩ <;> have hms := Lib.hid k1 <;> clear k1 h1
      ·go_wp2_with fail
       go_ret
       exact ⟨_, rfl, G.out, Tells.yes ⟨hitem.out, hother.out, hn.out, hbye.out, halways.out, hms.out⟩⟩
      ·go_wp2_with fail
       go_ret
       exact ⟨_, rfl, G.out, Tells.no fun h => hms.out h.2.2.2.2.2⟩
     ·have ealways : (x.always == y.always) = false := by simpa using c
      have halways := Lib.hid c
      clear c
      go_wp2_with fail
      go_ret
      exact ⟨_, rfl, G.out, Tells.no fun h => halways.out h.2.2.2.2.1⟩
    ·have ebye : (x.bye == y.bye) = false := by simpa using c
     have hbye := Lib.hid c
     clear c
     go_wp2_with fail
     go_ret
     exact ⟨_, rfl, G.out, Tells.no fun h => hbye.out h.2.2.2.1⟩
   ·have en : (x.n == y.n) = false := by simpa using c
    have hn := Lib.hid c
    clear c
    go_wp2_with fail
    go_ret
    exact ⟨_, rfl, G.out, Tells.no fun h => hn.out h.2.2.1⟩
  ·have eother : (x.other == y.other) = false := by simpa using c
   have hother := Lib.hid c
   clear c
   go_wp2_with fail
   go_ret
   exact ⟨_, rfl, G.out, Tells.no fun h => hother.out h.2.1⟩
 ·have eitem : (x.item == y.item) = false := by simpa using c
  have hitem := Lib.hid c
  clear c
  go_wp2_with fail
  go_ret
  exact ⟨_, rfl, G.out, Tells.no fun h => hitem.out h.1⟩
end Go.Proofs.YtnlocdijdfclcaaGreatDoor

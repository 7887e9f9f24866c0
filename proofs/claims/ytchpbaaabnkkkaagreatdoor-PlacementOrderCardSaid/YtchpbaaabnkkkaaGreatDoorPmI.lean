/-
 The laws PlacementInitial, PlacementValid, PlacementChanges, PlacementCounts.
-/
import Derived.Test.YtchpbaaabnkkkaaGreatDoorPmH
import Derived.Test.YtchpbaaabnkkkaaGreatDoorFind
import Derived.Test.YtchpbaaabnkkkaaGreatDoorOpen
namespace Go.Proofs.YtchpbaaabnkkkaaGreatDoor
open Go.RowKit Go.Lib Lex
set_option linter.unusedVariables false
set_option linter.unusedSimpArgs false

set_option maxRecDepth 100000 in
set_option maxHeartbeats 800000 in
theorem law20_large (w : World) (P : Ptrs) (M : Mdl) (p : Option Addr) (c : Nat) (L : List RowU) (hm : MdlAt w P M) (hp : PlcAt w p c L) :
  Calls Tryz.prog 20 #[.agg (mcells P M), plcV p c L] w (Ret w fun r _ => Tells (¬ (Few M ∧ FewP (usOf L))) r) := by
 have HM0 := Lib.hid hm
 have HP0 := Lib.hid hp
 have B0 := Cells.new w (mcells P M) 29
 have B1 := Cells.new (w.alloc (.cells (mcells P M) 29)) #[.slice p L.length c] 34
 simp only [World.size_alloc] at B1
 have m0 := mc0 B0.2 _ B1.1
 have m1 := mc1 B0.2 _ B1.1
 have m2 := mc2 B0.2 _ B1.1
 have m3 := mc3 B0.2 _ B1.1
 have m4 := mc4 B0.2 _ B1.1
 have m5 := mc5 B0.2 _ B1.1
 have m6 := mc6 B0.2 _ B1.1
 have m7 := mc7 B0.2 _ B1.1
 have m8 := mc8 B0.2 _ B1.1
 have m9 := mc9 B0.2 _ B1.1
 have m10 := mc10 B0.2 _ B1.1
 have p0 := B1.2.at 0 rfl
 have H := Lib.hid (show _ ∧ _ ∧ _ from ⟨B0.1.trans B1.1, B0.2.grow B1.1, B1.2⟩)
 clear B0 B1 hm hp
 unfold mcells at H m0 m1 m2 m3 m4 m5 m6 m7 m8 m9 m10 ⊢
 unfold plcV
 go_enter Tryz.func20, Tryz.ntmps20
 go_wp2_with fail
 clear m0 m1 m2 m3 m4 m5 m6 m7 m8 m9 m10 p0
 generalize w.heap.size + 1 = bp at H ⊢
 generalize w.heap.size = bm at H ⊢
 generalize (w.alloc _).alloc _ = W at H ⊢
 have G := Lib.hid (show Gr w W from H.out.1)
 have TM := Lib.hid (show Cells W bm (mcells P M) from H.out.2.1)
 have TP := Lib.hid (show Cells W bp #[.slice p L.length c] from H.out.2.2)
 have HM := Lib.hid (HM0.out.grow G.out)
 have HP := Lib.hid (HP0.out.grow G.out)
 clear H
 refine (ref_Few W P M HM.out).mono ?_
 rintro _ w1 ⟨r1, rfl, g1, h1⟩
 have G := Lib.hid (G.out.trans g1)
 have TP := Lib.hid (TP.out.grow g1)
 have HP := Lib.hid (HP.out.grow g1)
 clear g1
 rcases h1.cases with ⟨rfl, k1⟩ | ⟨rfl, k1⟩ <;> have K1 := Lib.hid k1 <;> clear h1 k1
 ·have s0 := TP.out.at 0 rfl
  go_wp2_with fail
  clear s0
  refine (ref_Few20 w1 p c L HP.out).mono ?_
  rintro _ w2 ⟨r2, rfl, g2, h2⟩
  have G := Lib.hid (G.out.trans g2)
  rcases h2.cases with ⟨rfl, k2⟩ | ⟨rfl, k2⟩ <;> have K2 := Lib.hid k2 <;> clear h2 k2 g2
  ·go_wp2_with fail
   go_ret
   exact ⟨_, rfl, G.out, Tells.no fun h => h ⟨K1.out, K2.out⟩⟩
  ·go_wp2_with fail
   go_ret
   exact ⟨_, rfl, G.out, Tells.yes fun h => K2.out h.2⟩
 ·go_wp2_with fail
  go_ret
  exact ⟨_, rfl, G.out, Tells.yes fun h => K1.out h.1⟩
set_option maxRecDepth 100000 in
set_option maxHeartbeats 3200000 in
theorem law_PlacementInitial (w : World) (ht : Tab w) (P : Ptrs) (M : Mdl) (hm : MdlAt w P M) (hr : MdlR M) :
  Calls Tryz.prog 3 #[.agg (mcells P M)] w (Ret w fun r _ => r = .bool true) := by
 have HT := Lib.hid ht
 clear ht
 have HM := Lib.hid hm
 have B := Cells.new w (mcells P M) 29
 clear hm
 have m0 := mc0 B.2 _ (Gr.refl _)
 have m1 := mc1 B.2 _ (Gr.refl _)
 have m2 := mc2 B.2 _ (Gr.refl _)
 have m3 := mc3 B.2 _ (Gr.refl _)
 have m4 := mc4 B.2 _ (Gr.refl _)
 have m5 := mc5 B.2 _ (Gr.refl _)
 have m6 := mc6 B.2 _ (Gr.refl _)
 have m7 := mc7 B.2 _ (Gr.refl _)
 have m8 := mc8 B.2 _ (Gr.refl _)
 have m9 := mc9 B.2 _ (Gr.refl _)
 have m10 := mc10 B.2 _ (Gr.refl _)
 unfold mcells at B m0 m1 m2 m3 m4 m5 m6 m7 m8 m9 m10 ⊢
 go_enter Tryz.func3, Tryz.ntmps3
 go_wp2_with fail
 clear m0 m1 m2 m3 m4 m5 m6 m7 m8 m9 m10
 generalize w.heap.size = bm at B ⊢
 generalize w.alloc _ = W at B ⊢
 obtain ⟨g0, tm⟩ := B
 have TM := Lib.hid (show Cells W bm (mcells P M) from tm)
 have G := Lib.hid g0
 have HM := Lib.hid (HM.out.grow g0)
 clear g0 tm
 have m0 := mc0 TM.out _ (Gr.refl _)
 have m1 := mc1 TM.out _ (Gr.refl _)
 have m2 := mc2 TM.out _ (Gr.refl _)
 have m3 := mc3 TM.out _ (Gr.refl _)
 have m4 := mc4 TM.out _ (Gr.refl _)
 have m5 := mc5 TM.out _ (Gr.refl _)
 have m6 := mc6 TM.out _ (Gr.refl _)
 have m7 := mc7 TM.out _ (Gr.refl _)
 have m8 := mc8 TM.out _ (Gr.refl _)
 have m9 := mc9 TM.out _ (Gr.refl _)
 have m10 := mc10 TM.out _ (Gr.refl _)
 have HT := Lib.hid (HT.out.grow G.out)
 clear m0 m1 m2 m3 m4 m5 m6 m7 m8 m9 m10
 refine (law20_awake W HT.out).mono ?_
 rintro _ w1 ⟨_, rfl, g1, rfl⟩
 have G := Lib.hid (G.out.trans g1)
 have TM := Lib.hid (TM.out.grow g1)
 have HM := Lib.hid (HM.out.grow g1)
 have HT := Lib.hid (HT.out.grow g1)
 clear g1
 have m0 := mc0 TM.out _ (Gr.refl _)
 have m1 := mc1 TM.out _ (Gr.refl _)
 have m2 := mc2 TM.out _ (Gr.refl _)
 have m3 := mc3 TM.out _ (Gr.refl _)
 have m4 := mc4 TM.out _ (Gr.refl _)
 have m5 := mc5 TM.out _ (Gr.refl _)
 have m6 := mc6 TM.out _ (Gr.refl _)
 have m7 := mc7 TM.out _ (Gr.refl _)
 have m8 := mc8 TM.out _ (Gr.refl _)
 have m9 := mc9 TM.out _ (Gr.refl _)
 have m10 := mc10 TM.out _ (Gr.refl _)
 go_wp2_with fail
 clear m0 m1 m2 m3 m4 m5 m6 m7 m8 m9 m10
 refine (ref_Few w1 P M HM.out).mono ?_
 rintro _ w2 ⟨r2, rfl, g1, h⟩
 have G := Lib.hid (G.out.trans g1)
 have TM := Lib.hid (TM.out.grow g1)
 have HM := Lib.hid (HM.out.grow g1)
 have HT := Lib.hid (HT.out.grow g1)
 clear g1
 rcases h.cases with ⟨rfl, k1⟩ | ⟨rfl, k1⟩
 ·have HF := Lib.hid k1
  clear h k1
  have HFK := Lib.hid (initP_few HF.out).1
  have m0 := mc0 TM.out _ (Gr.refl _)
  have m1 := mc1 TM.out _ (Gr.refl _)
  have m2 := mc2 TM.out _ (Gr.refl _)
  have m3 := mc3 TM.out _ (Gr.refl _)
  have m4 := mc4 TM.out _ (Gr.refl _)
  have m5 := mc5 TM.out _ (Gr.refl _)
  have m6 := mc6 TM.out _ (Gr.refl _)
  have m7 := mc7 TM.out _ (Gr.refl _)
  have m8 := mc8 TM.out _ (Gr.refl _)
  have m9 := mc9 TM.out _ (Gr.refl _)
  have m10 := mc10 TM.out _ (Gr.refl _)
  go_wp2_with fail
  clear m0 m1 m2 m3 m4 m5 m6 m7 m8 m9 m10
  refine (plc_Initial w2 P M HM.out HF.out).mono ?_
  rintro _ w3 ⟨_, rfl, g1, pp, cp, Lp, rfl, hp, hup⟩
  have UP := Lib.hid hup
  have HP := Lib.hid hp
  have G := Lib.hid (G.out.trans g1)
  have TM := Lib.hid (TM.out.grow g1)
  have HM := Lib.hid (HM.out.grow g1)
  have HT := Lib.hid (HT.out.grow g1)
  clear g1
  have B := Cells.new w3 #[.slice pp Lp.length cp] 34
  have TP := Lib.hid B.2
  have g1 := B.1
  have G := Lib.hid (G.out.trans g1)
  have TM := Lib.hid (TM.out.grow g1)
  have HM := Lib.hid (HM.out.grow g1)
  have HT := Lib.hid (HT.out.grow g1)
  have HP := Lib.hid (HP.out.grow g1)
  clear g1
  clear hp hup B
  unfold plcV
  go_wp2_with fail
  generalize w3.heap.size = bp at TP ⊢
  generalize w3.alloc _ = W3 at TP HP HM HT TM G ⊢
  have g0 : Gr W3 W3.drew := (Gr.refl _).drew
  have m0 := mc0 TM.out
  have m1 := mc1 TM.out
  have m2 := mc2 TM.out
  have m3 := mc3 TM.out
  have m4 := mc4 TM.out
  have m5 := mc5 TM.out
  have m6 := mc6 TM.out
  have m7 := mc7 TM.out
  have m8 := mc8 TM.out
  have m9 := mc9 TM.out
  have m10 := mc10 TM.out
  try dsimp only at m0 m1 m2 m3 m4 m5 m6 m7 m8 m9 m10
  have s0 := TP.out.c 0 rfl
  refine wp_region_fast [(0, true), (1, true), (2, false), (3, false), (4, true), (5, true), (6, true), (8, true), (7, false), (9, false), (10, true), (11, true), (12, true), (13, true), (14, false), (15, true), (16, true)] (by kernel_rfl) (by kernel_rfl) rfl (by kernel_rfl) (fun _ _ d _ _ h => by cases d <;> exact h) ?_
  repeat (refine wpE_readB (v := ?_) g0 rfl rfl (fun w' hg => ?_) (fun K hK => ?_); rotate_left; (go_simp; rfl); go_simp; refine hK _ _ ?_; clear hK K)
  refine wpE_fn (args := ?_) rfl rfl rfl rfl rfl rfl (by kernel_rfl) (by kernel_rfl) ?_ (fun K hK => ?_)
  rotate_left
  ·go_simp; rfl
  refine (ref_Initial20 _ P M (HM.out.grow g0) HF.out).mono ?_
  rintro _ w4 ⟨_, rfl, g4, pq, cq, Lq, rfl, hq, huq⟩
  have UQ := Lib.hid huq
  have HQ := Lib.hid hq
  clear huq hq
  unfold plcV
  refine ⟨_, rfl, g4, ?_⟩
  go_simp
  refine hK _ _ ?_
  clear hK K
  replace g0 := g0.trans g4
  refine wpE_fn (args := ?_) rfl rfl rfl rfl rfl rfl (by kernel_rfl) (by kernel_rfl) ?_ (fun K hK => ?_)
  rotate_left
  ·go_simp; rfl
  refine (ref_Same20 w4 pp pq cp cq Lp Lq (HP.out.grow g0) HQ.out).mono ?_
  rintro _ w5 ⟨r5, rfl, g5, h5⟩
  rcases h5.cases with ⟨rfl, _⟩ | ⟨_, k1⟩
  rotate_left
  ·exact absurd (by rw [UP.out, UQ.out]) k1
  clear h5
  refine ⟨_, rfl, g5, ?_⟩
  go_simp
  refine hK _ _ ?_
  clear hK K
  replace g0 := g0.trans g5
  repeat (first | (refine wpE_skip rfl rfl ?_; go_simp) | (refine wpE_readB (v := ?_) g0 rfl rfl (fun w' hg => ?_) (fun K hK => ?_); rotate_left; (go_simp; rfl); go_simp; refine hK _ _ ?_; clear hK K))
  refine wpE_fn (args := ?_) rfl rfl rfl rfl rfl rfl (by kernel_rfl) (by kernel_rfl) ?_ (fun K hK => ?_)
  rotate_left
  ·go_simp; rfl
  refine (plc_Valid w5 P M pp cp Lp (HM.out.grow g0) HF.out (HT.out.grow g0) (HP.out.grow g0) (by rw [UP.out]; exact HFK.out)).mono ?_
  rintro _ w6 ⟨_, rfl, g6, t6, rfl, k6⟩
  have K6 := Lib.hid k6
  clear k6
  refine ⟨_, rfl, g6, ?_⟩
  go_simp
  refine hK _ _ ?_
  clear hK K
  replace g0 := g0.trans g6
  refine wpE_fn (args := ?_) rfl rfl rfl rfl rfl rfl (by kernel_rfl) (by kernel_rfl) ?_ (fun K hK => ?_)
  rotate_left
  ·go_simp; rfl
  refine (ref_Valid15 w6 P M (HM.out.grow g0) HF.out).mono ?_
  rintro _ w7 ⟨_, rfl, g7, t7, rfl, k7⟩
  obtain rfl : t6 = t7 := Bool.eq_iff_iff.2 (K6.out.trans ((show PlcOK M (usOf Lp) ↔ MdlOK M from by rw [UP.out]; exact ⟨fun h => h.1, initP_ok⟩).trans k7.symm))
  clear k7
  refine ⟨_, rfl, g7, ?_⟩
  go_simp
  refine hK _ _ ?_
  clear hK K
  replace g0 := g0.trans g7
  have hb : (t6 == t6) = true := by simp
  repeat (first | (refine wpE_skip rfl rfl ?_; go_simp) | (refine wpE_readB (v := ?_) g0 rfl rfl (fun w' hg => ?_) (fun K hK => ?_); rotate_left; (go_simp; rfl); go_simp; refine hK _ _ ?_; clear hK K))
  refine wpE_fn (args := ?_) rfl rfl rfl rfl rfl rfl (by kernel_rfl) (by kernel_rfl) ?_ (fun K hK => ?_)
  rotate_left
  ·go_simp; rfl
  refine (plc_Calm w7 pp cp Lp (HP.out.grow g0) (by rw [UP.out]; exact HFK.out)).mono ?_
  rintro _ w8 ⟨r8, rfl, g8, h8⟩
  rcases h8.cases with ⟨rfl, _⟩ | ⟨_, k1⟩
  rotate_left
  ·exact absurd (by rw [UP.out]; exact initP_calm M) k1
  clear h8
  refine ⟨_, rfl, g8, ?_⟩
  go_simp
  refine hK _ _ ?_
  clear hK K
  replace g0 := g0.trans g8
  repeat (first | (refine wpE_skip rfl rfl ?_; go_simp) | (refine wpE_readB (v := ?_) g0 rfl rfl (fun w' hg => ?_) (fun K hK => ?_); rotate_left; (go_simp; rfl); go_simp; refine hK _ _ ?_; clear hK K))
  refine wpE_nil ?_
  have G := Lib.hid (G.out.trans g0)
  clear m0 m1 m2 m3 m4 m5 m6 m7 m8 m9 m10
  clear s0 g0
  go_wp2_with fail
  go_ret
  exact ⟨_, rfl, G.out, rfl⟩
 ·clear h k1
  go_wp2_with fail
  try rw [Exit.noGoto_ret]
  go_ret
  exact ⟨_, rfl, G.out, rfl⟩
theorem form_two {M : Mdl} {X : Plc} {r s : Value} {w v : World} (h : FormR M X r w) (k : FormR M X s v) : ∃ ls : List (List UInt8), ls.length ≤ M.items.length ∧ StrL w r ls ∧ StrL v s ls := by
 rcases h with ⟨h1, h2⟩ | ⟨h1, h2⟩
 ·rcases k with ⟨k1, k2⟩ | ⟨k1, k2⟩
  ·exact ⟨_, by rw [linesT_len M X _ (Nat.le_refl _)]; exact Nat.le_refl _, h2, k2⟩
  ·exact absurd h1 k1
 ·rcases k with ⟨k1, k2⟩ | ⟨k1, k2⟩
  ·exact absurd k1 h1
  ·exact ⟨[], by simp, h2, k2⟩
set_option maxRecDepth 100000 in
set_option maxHeartbeats 6400000 in
theorem law_PlacementValid (w : World) (ht : Tab w) (P : Ptrs) (M : Mdl) (hm : MdlAt w P M) (hr : MdlR M) (p : Option Addr) (c : Nat) (L : List RowU) (hp : PlcAt w p c L) (q : Option Addr) (d : Nat) (N : List RowU) (hq : PlcAt w q d N) :
  Calls Tryz.prog 4 #[.agg (mcells P M), plcV p c L, plcV q d N] w (Ret w fun r _ => r = .bool true) := by
 have HT := Lib.hid ht
 have HM0 := Lib.hid hm
 have HP0 := Lib.hid hp
 have HQ0 := Lib.hid hq
 have B0 := Cells.new w (mcells P M) 29
 have B1 := Cells.new (w.alloc (.cells (mcells P M) 29)) #[.slice p L.length c] 34
 have B2 := Cells.new ((w.alloc (.cells (mcells P M) 29)).alloc (.cells #[.slice p L.length c] 34)) #[.slice q N.length d] 34
 simp only [World.size_alloc] at B1 B2
 have H := Lib.hid (show _ ∧ _ ∧ _ ∧ _ from ⟨B0.1.trans (B1.1.trans B2.1), B0.2.grow (B1.1.trans B2.1), B1.2.grow B2.1, B2.2⟩)
 clear B0 B1 B2 hm hp hq ht
 unfold mcells at H ⊢
 unfold plcV
 go_enter Tryz.func4, Tryz.ntmps4
 go_wp2_with fail
 generalize w.heap.size + 1 + 1 = bq at H ⊢
 generalize w.heap.size + 1 = bp at H ⊢
 generalize w.heap.size = bm at H ⊢
 generalize ((w.alloc _).alloc _).alloc _ = W at H ⊢
 have G := Lib.hid (show Gr w W from H.out.1)
 have TM := Lib.hid (show Cells W bm (mcells P M) from H.out.2.1)
 have TP := Lib.hid (show Cells W bp #[.slice p L.length c] from H.out.2.2.1)
 have TQ := Lib.hid (show Cells W bq #[.slice q N.length d] from H.out.2.2.2)
 have HM := Lib.hid (HM0.out.grow G.out)
 have HP := Lib.hid (HP0.out.grow G.out)
 have HQ := Lib.hid (HQ0.out.grow G.out)
 have HT := Lib.hid (HT.out.grow G.out)
 clear H
 refine (law20_awake W HT.out).mono ?_
 rintro _ w1 ⟨_, rfl, g1, rfl⟩
 have G := Lib.hid (G.out.trans g1)
 have TM := Lib.hid (TM.out.grow g1)
 have TP := Lib.hid (TP.out.grow g1)
 have TQ := Lib.hid (TQ.out.grow g1)
 have HM := Lib.hid (HM.out.grow g1)
 have HP := Lib.hid (HP.out.grow g1)
 have HQ := Lib.hid (HQ.out.grow g1)
 have HT := Lib.hid (HT.out.grow g1)
 clear g1
 have m0 := mc0 TM.out _ (Gr.refl _)
 have m1 := mc1 TM.out _ (Gr.refl _)
 have m2 := mc2 TM.out _ (Gr.refl _)
 have m3 := mc3 TM.out _ (Gr.refl _)
 have m4 := mc4 TM.out _ (Gr.refl _)
 have m5 := mc5 TM.out _ (Gr.refl _)
 have m6 := mc6 TM.out _ (Gr.refl _)
 have m7 := mc7 TM.out _ (Gr.refl _)
 have m8 := mc8 TM.out _ (Gr.refl _)
 have m9 := mc9 TM.out _ (Gr.refl _)
 have m10 := mc10 TM.out _ (Gr.refl _)
 have s0 := TP.out.at 0 rfl
 go_wp2_with fail
 clear m0 m1 m2 m3 m4 m5 m6 m7 m8 m9 m10
 clear s0
 refine (law20_large w1 P M p c L HM.out HP.out).mono ?_
 rintro _ w2 ⟨r2, rfl, g1, h⟩
 have G := Lib.hid (G.out.trans g1)
 have TM := Lib.hid (TM.out.grow g1)
 have TP := Lib.hid (TP.out.grow g1)
 have TQ := Lib.hid (TQ.out.grow g1)
 have HM := Lib.hid (HM.out.grow g1)
 have HP := Lib.hid (HP.out.grow g1)
 have HQ := Lib.hid (HQ.out.grow g1)
 have HT := Lib.hid (HT.out.grow g1)
 clear g1
 rcases h.cases with ⟨rfl, k1⟩ | ⟨rfl, k1⟩
 ·clear h k1
  go_wp2_with fail
  try rw [Exit.noGoto_ret]
  go_ret
  exact ⟨_, rfl, G.out, rfl⟩
 have HFF := Lib.hid (Classical.not_not.1 k1)
 clear h k1
 have s1 := TQ.out.at 0 rfl
 go_wp2_with fail
 clear s1
 refine (ref_Few20 w2 q d N HQ.out).mono ?_
 rintro _ w3 ⟨r3, rfl, g1, h⟩
 have G := Lib.hid (G.out.trans g1)
 have TM := Lib.hid (TM.out.grow g1)
 have TP := Lib.hid (TP.out.grow g1)
 have TQ := Lib.hid (TQ.out.grow g1)
 have HM := Lib.hid (HM.out.grow g1)
 have HP := Lib.hid (HP.out.grow g1)
 have HQ := Lib.hid (HQ.out.grow g1)
 have HT := Lib.hid (HT.out.grow g1)
 clear g1
 rcases h.cases with ⟨rfl, k1⟩ | ⟨rfl, k1⟩
 rotate_left
 ·clear h k1
  go_wp2_with fail
  try rw [Exit.noGoto_ret]
  go_ret
  exact ⟨_, rfl, G.out, rfl⟩
 have HF := Lib.hid HFF.out.1
 have FP := Lib.hid HFF.out.2.k
 have FQ := Lib.hid k1.k
 clear h k1
 go_wp2_with fail
 have g0 : Gr w3 w3.drew := (Gr.refl _).drew
 have m0 := mc0 TM.out
 have m1 := mc1 TM.out
 have m2 := mc2 TM.out
 have m3 := mc3 TM.out
 have m4 := mc4 TM.out
 have m5 := mc5 TM.out
 have m6 := mc6 TM.out
 have m7 := mc7 TM.out
 have m8 := mc8 TM.out
 have m9 := mc9 TM.out
 have m10 := mc10 TM.out
 try dsimp only at m0 m1 m2 m3 m4 m5 m6 m7 m8 m9 m10
 have s0 := TP.out.c 0 rfl
 have s1 := TQ.out.c 0 rfl
 refine wp_region_fast [(0, true), (1, true), (3, true), (4, true), (2, false), (5, false), (6, true), (7, true), (8, true), (10, true), (9, false), (11, false), (12, true), (13, true), (14, true), (15, true), (16, true), (18, true), (19, true), (17, false), (20, false), (21, true), (22, true), (23, true), (24, true), (25, true), (26, false), (27, true), (28, true), (29, true), (30, true), (32, true), (33, true), (31, false), (34, false), (35, false), (36, true), (37, true)] (by kernel_rfl) (by kernel_rfl) rfl (by kernel_rfl) (fun _ _ d _ _ h => by cases d <;> exact h) ?_
 repeat (refine wpE_readB (v := ?_) g0 rfl rfl (fun w' hg => ?_) (fun K hK => ?_); rotate_left; (go_simp; rfl); go_simp; refine hK _ _ ?_; clear hK K)
 refine wpE_fn (args := ?_) rfl rfl rfl rfl rfl rfl (by kernel_rfl) (by kernel_rfl) ?_ (fun K hK => ?_)
 rotate_left
 ·go_simp; rfl
 refine (plc_Valid _ P M p c L (HM.out.grow g0) HF.out (HT.out.grow g0) (HP.out.grow g0) FP.out).mono ?_
 rintro _ w6 ⟨_, rfl, g6, t6, rfl, k6⟩
 have K6 := Lib.hid k6
 clear k6
 refine ⟨_, rfl, g6, ?_⟩
 go_simp
 refine hK _ _ ?_
 clear hK K
 replace g0 := g0.trans g6
 clear g6
 refine wpE_fn (args := ?_) rfl rfl rfl rfl rfl rfl (by kernel_rfl) (by kernel_rfl) ?_ (fun K hK => ?_)
 rotate_left
 ·go_simp; rfl
 refine (ref_Valid20 _ P M p c L (HM.out.grow g0) HF.out (HP.out.grow g0) FP.out).mono ?_
 rintro _ w7 ⟨_, rfl, g7, t7, rfl, k7⟩
 obtain rfl : t6 = t7 := Bool.eq_iff_iff.2 (K6.out.trans k7.symm)
 clear k7 K6
 refine ⟨_, rfl, g7, ?_⟩
 go_simp
 refine hK _ _ ?_
 clear hK K
 replace g0 := g0.trans g7
 clear g7
 have hb : (t6 == t6) = true := by simp
 repeat (first | (refine wpE_skip rfl rfl ?_; go_simp) | (refine wpE_readB (v := ?_) g0 rfl rfl (fun w' hg => ?_) (fun K hK => ?_); rotate_left; (go_simp; rfl); go_simp; refine hK _ _ ?_; clear hK K))
 clear hb
 refine wpE_fn (args := ?_) rfl rfl rfl rfl rfl rfl (by kernel_rfl) (by kernel_rfl) ?_ (fun K hK => ?_)
 rotate_left
 ·go_simp; rfl
 refine (plc_Calm _ p c L (HP.out.grow g0) FP.out).mono ?_
 rintro _ w6 ⟨_, rfl, g6, t6, rfl, k6⟩
 have K6 := Lib.hid k6
 clear k6
 refine ⟨_, rfl, g6, ?_⟩
 go_simp
 refine hK _ _ ?_
 clear hK K
 replace g0 := g0.trans g6
 clear g6
 refine wpE_fn (args := ?_) rfl rfl rfl rfl rfl rfl (by kernel_rfl) (by kernel_rfl) ?_ (fun K hK => ?_)
 rotate_left
 ·go_simp; rfl
 refine (ref_Calm20 _ p c L (HP.out.grow g0)).mono ?_
 rintro _ w7 ⟨_, rfl, g7, t7, rfl, k7⟩
 obtain rfl : t6 = t7 := Bool.eq_iff_iff.2 (K6.out.trans k7.symm)
 clear k7 K6
 refine ⟨_, rfl, g7, ?_⟩
 go_simp
 refine hK _ _ ?_
 clear hK K
 replace g0 := g0.trans g7
 clear g7
 have hb : (t6 == t6) = true := by simp
 repeat (first | (refine wpE_skip rfl rfl ?_; go_simp) | (refine wpE_readB (v := ?_) g0 rfl rfl (fun w' hg => ?_) (fun K hK => ?_); rotate_left; (go_simp; rfl); go_simp; refine hK _ _ ?_; clear hK K))
 clear hb
 refine wpE_fn (args := ?_) rfl rfl rfl rfl rfl rfl (by kernel_rfl) (by kernel_rfl) ?_ (fun K hK => ?_)
 rotate_left
 ·go_simp; rfl
 refine (plc_Same _ p q c d L N (HP.out.grow g0) (HQ.out.grow g0) FP.out FQ.out).mono ?_
 rintro _ w6 ⟨_, rfl, g6, t6, rfl, k6⟩
 have K6 := Lib.hid k6
 clear k6
 refine ⟨_, rfl, g6, ?_⟩
 go_simp
 refine hK _ _ ?_
 clear hK K
 replace g0 := g0.trans g6
 clear g6
 refine wpE_fn (args := ?_) rfl rfl rfl rfl rfl rfl (by kernel_rfl) (by kernel_rfl) ?_ (fun K hK => ?_)
 rotate_left
 ·go_simp; rfl
 refine (ref_Same20 _ p q c d L N (HP.out.grow g0) (HQ.out.grow g0)).mono ?_
 rintro _ w7 ⟨_, rfl, g7, t7, rfl, k7⟩
 obtain rfl : t6 = t7 := Bool.eq_iff_iff.2 (K6.out.trans k7.symm)
 clear k7 K6
 refine ⟨_, rfl, g7, ?_⟩
 go_simp
 refine hK _ _ ?_
 clear hK K
 replace g0 := g0.trans g7
 clear g7
 have hb : (t6 == t6) = true := by simp
 repeat (first | (refine wpE_skip rfl rfl ?_; go_simp) | (refine wpE_readB (v := ?_) g0 rfl rfl (fun w' hg => ?_) (fun K hK => ?_); rotate_left; (go_simp; rfl); go_simp; refine hK _ _ ?_; clear hK K))
 clear hb
 refine wpE_fn (args := ?_) rfl rfl rfl rfl rfl rfl (by kernel_rfl) (by kernel_rfl) ?_ (fun K hK => ?_)
 rotate_left
 ·go_simp; rfl
 refine (plc_Same _ p p c c L L (HP.out.grow g0) (HP.out.grow g0) FP.out FP.out).mono ?_
 rintro _ w5 ⟨r5, rfl, g5, h5⟩
 rcases h5.cases with ⟨rfl, _⟩ | ⟨_, k1⟩
 rotate_left
 ·exact absurd (rfl) k1
 clear h5
 refine ⟨_, rfl, g5, ?_⟩
 go_simp
 refine hK _ _ ?_
 clear hK K
 replace g0 := g0.trans g5
 repeat (first | (refine wpE_skip rfl rfl ?_; go_simp) | (refine wpE_readB (v := ?_) g0 rfl rfl (fun w' hg => ?_) (fun K hK => ?_); rotate_left; (go_simp; rfl); go_simp; refine hK _ _ ?_; clear hK K))
 refine wpE_fn (args := ?_) rfl rfl rfl rfl rfl rfl (by kernel_rfl) (by kernel_rfl) ?_ (fun K hK => ?_)
 rotate_left
 ·go_simp; rfl
 refine (plc_Format _ P M p c L (HM.out.grow g0) HF.out (HT.out.grow g0) (HP.out.grow g0) FP.out).mono ?_
 rintro _ w6 ⟨r6, rfl, g6, h6⟩
 have H6 := Lib.hid h6
 clear h6
 refine ⟨_, rfl, g6, ?_⟩
 go_simp
 refine hK _ _ ?_
 clear hK K
 replace g0 := g0.trans g6
 refine wpE_fn (args := ?_) rfl rfl rfl rfl rfl rfl (by kernel_rfl) (by kernel_rfl) ?_ (fun K hK => ?_)
 rotate_left
 ·go_simp; rfl
 refine (ref_Format20 w6 P M p c L (HM.out.grow g0) HF.out (HP.out.grow g0) FP.out).mono ?_
 rintro _ w7 ⟨r7, rfl, g7, h7⟩
 have H7 := Lib.hid h7
 clear h7
 refine ⟨_, rfl, g7, ?_⟩
 go_simp
 refine hK _ _ ?_
 clear hK K
 have G7 := Lib.hid g7
 replace g0 := g0.trans g7
 clear g7
 obtain ⟨ls, hls, l1, l2⟩ := form_two H6.out H7.out
 have hfew := HF.out.1
 obtain ⟨p6, c6, rfl, _, _⟩ := l1.parts
 obtain ⟨p7, c7, rfl, _, _⟩ := l2.parts
 refine wpE_fn (args := ?_) rfl rfl rfl rfl rfl rfl (by kernel_rfl) (by kernel_rfl) ?_ (fun K hK => ?_)
 rotate_left
 ·go_simp; rfl
 refine (ref_Texts w7 p6 p7 c6 c7 ls ls (SlL.grow l1 G7.out) l2 (by omega) (by omega)).mono ?_
 rintro _ w8 ⟨r8, rfl, g8, h8⟩
 rcases h8.cases with ⟨rfl, _⟩ | ⟨_, k1⟩
 rotate_left
 ·exact absurd (rfl) k1
 clear h8
 refine ⟨_, rfl, g8, ?_⟩
 go_simp
 refine hK _ _ ?_
 clear hK K
 replace g0 := g0.trans g8
 repeat (first | (refine wpE_skip rfl rfl ?_; go_simp) | (refine wpE_readB (v := ?_) g0 rfl rfl (fun w' hg => ?_) (fun K hK => ?_); rotate_left; (go_simp; rfl); go_simp; refine hK _ _ ?_; clear hK K))
 refine wpE_nil ?_
 have G := Lib.hid (G.out.trans g0)
 clear m0 m1 m2 m3 m4 m5 m6 m7 m8 m9 m10
 clear s0 s1 g0
 go_wp2_with fail
 go_ret
 exact ⟨_, rfl, G.out, rfl⟩
end Go.Proofs.YtchpbaaabnkkkaaGreatDoor

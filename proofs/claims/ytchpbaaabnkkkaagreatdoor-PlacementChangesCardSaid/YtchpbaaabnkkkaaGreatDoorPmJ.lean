/-
 The laws PlacementChanges, PlacementCounts.
-/
import Derived.Test.YtchpbaaabnkkkaaGreatDoorPmI
namespace Go.Proofs.YtchpbaaabnkkkaaGreatDoor
open Go.RowKit Go.Lib Lex
set_option linter.unusedVariables false
set_option linter.unusedSimpArgs false

theorem fewP_900 {X : Plc} (h : FewP X) : ∀ l ∈ X, l.length ≤ 900 := fun l hl => by have := h.2 l hl; omega
set_option maxRecDepth 100000 in
set_option maxHeartbeats 6400000 in
theorem law_PlacementChanges (w : World) (ht : Tab w) (p : Option Addr) (c : Nat) (L : List RowU) (hp : PlcAt w p c L) (item m s : Int) (hi : -9223372036854775808 ≤ item ∧ item ≤ 9223372036854775807) :
  Calls Tryz.prog 6 #[plcV p c L, .int .i64 item, .int .i64 m, .int .i64 s] w (Ret w fun r _ => r = .bool true) := by
 have HT := Lib.hid ht
 have HP := Lib.hid hp
 have HII := Lib.hid hi
 clear ht hp hi
 have B := Cells.new w #[.slice p L.length c] 34
 have p0 := B.2.at 0 rfl
 have HB := Lib.hid B
 clear B
 unfold plcV
 go_enter Tryz.func6, Tryz.ntmps6
 go_wp2_with fail
 clear p0
 generalize w.heap.size = bp at HB ⊢
 generalize w.alloc _ = W at HB ⊢
 have G := Lib.hid HB.out.1
 have TP := Lib.hid HB.out.2
 have HP := Lib.hid (HP.out.grow G.out)
 clear HB
 have HT := Lib.hid (HT.out.grow G.out)
 refine (law20_awake W HT.out).mono ?_
 rintro _ w1 ⟨_, rfl, g1, rfl⟩
 have G := Lib.hid (G.out.trans g1)
 have TP := Lib.hid (TP.out.grow g1)
 have HP := Lib.hid (HP.out.grow g1)
 have HT := Lib.hid (HT.out.grow g1)
 clear g1
 have s0 := TP.out.at 0 rfl
 go_wp2_with fail
 clear s0
 refine (ref_Few20 w1 p c L HP.out).mono ?_
 rintro _ w2 ⟨r2, rfl, g1, h⟩
 have G := Lib.hid (G.out.trans g1)
 have TP := Lib.hid (TP.out.grow g1)
 have HP := Lib.hid (HP.out.grow g1)
 have HT := Lib.hid (HT.out.grow g1)
 clear g1
 rcases h.cases with ⟨rfl, k1⟩ | ⟨rfl, k1⟩
 rotate_left
 ·clear h k1
  go_wp2_with fail
  try rw [Exit.noGoto_ret]
  go_ret
  exact ⟨_, rfl, G.out, rfl⟩
 have FK := Lib.hid k1.k
 have F9 := Lib.hid (fewP_900 k1)
 clear h k1
 have s0 := TP.out.at 0 rfl
 go_wp2_with fail
 clear s0
 refine (plc_State w2 p c L item m HP.out FK.out).mono ?_
 rintro _ w3 ⟨_, rfl, g1, rfl⟩
 have G := Lib.hid (G.out.trans g1)
 have TP := Lib.hid (TP.out.grow g1)
 have HP := Lib.hid (HP.out.grow g1)
 have HT := Lib.hid (HT.out.grow g1)
 clear g1
 obtain ⟨st, hst⟩ : ∃ s, stateP (usOf L) item m = s := ⟨_, rfl⟩
 rw [hst]
 have HST := Lib.hid hst
 clear hst
 obtain ⟨a, b⟩ := st
 unfold stateV
 have s0 := TP.out.at 0 rfl
 go_wp2_with fail
 clear s0
 refine (ref_State w3 p c L item m HP.out FK.out).mono ?_
 rintro _ w4 ⟨_, rfl, g1, rfl⟩
 have G := Lib.hid (G.out.trans g1)
 have TP := Lib.hid (TP.out.grow g1)
 have HP := Lib.hid (HP.out.grow g1)
 have HT := Lib.hid (HT.out.grow g1)
 clear g1
 rw [HST.out]
 unfold stateV
 go_wp2_with fail
 have g0 : Gr w4 w4.drew := (Gr.refl _).drew
 have s0 := TP.out.c 0 rfl
 have ha : (a == a) = true := by simp
 have hb : (b == b) = true := by simp
 refine wp_region_fast [(0, true), (1, true), (2, true), (3, true), (4, true), (5, true), (6, true), (7, true), (8, true), (9, true), (10, true), (11, true), (12, true), (14, true), (15, true), (16, true), (17, true), (13, false), (18, false), (19, false), (20, true), (21, true), (22, true), (23, true), (24, true), (26, true), (27, true), (28, true), (25, false), (29, false), (30, false), (31, true), (32, true)] (by kernel_rfl) (by kernel_rfl) rfl (by kernel_rfl) (fun _ _ d _ _ h => by cases d <;> exact h) ?_
 repeat (refine wpE_readB (v := ?_) g0 rfl rfl (fun w' hg => ?_) (fun K hK => ?_); rotate_left; (go_simp; rfl); go_simp; refine hK _ _ ?_; clear hK K)
 clear ha hb
 refine wpE_fn (args := ?_) rfl rfl rfl rfl rfl rfl (by kernel_rfl) (by kernel_rfl) ?_ (fun K hK => ?_)
 rotate_left
 ·go_simp; rfl
 refine (plc_Put _ p c L item m s (HP.out.grow g0) FK.out F9.out).mono ?_
 rintro _ w6 ⟨_, rfl, g6, pa, ca, La, rfl, ha, hua⟩
 have HA := Lib.hid ha.at'
 have UA := Lib.hid hua
 clear ha hua
 unfold plcV
 refine ⟨_, rfl, g6, ?_⟩
 go_simp
 refine hK _ _ ?_
 clear hK K
 replace g0 := g0.trans g6
 clear g6
 refine wpE_fn (args := ?_) rfl rfl rfl rfl rfl rfl (by kernel_rfl) (by kernel_rfl) ?_ (fun K hK => ?_)
 rotate_left
 ·go_simp; rfl
 refine (ref_Put _ p c L item m s (HP.out.grow g0) FK.out F9.out HII.out).mono ?_
 rintro _ w7 ⟨_, rfl, g7, pb, cb, Lb, rfl, hb, hub⟩
 have HB := Lib.hid hb
 have UB := Lib.hid hub
 have HA := Lib.hid (HA.out.grow g7)
 clear hb hub
 unfold plcV
 refine ⟨_, rfl, g7, ?_⟩
 go_simp
 refine hK _ _ ?_
 clear hK K
 replace g0 := g0.trans g7
 clear g7
 refine wpE_fn (args := ?_) rfl rfl rfl rfl rfl rfl (by kernel_rfl) (by kernel_rfl) ?_ (fun K hK => ?_)
 rotate_left
 ·go_simp; rfl
 refine (ref_Same20 w7 pa pb ca cb La Lb HA.out HB.out).mono ?_
 rintro _ w8 ⟨r8, rfl, g8, h8⟩
 rcases h8.cases with ⟨rfl, _⟩ | ⟨_, k1⟩
 rotate_left
 ·exact absurd (by rw [UA.out, UB.out]) k1
 clear h8
 refine ⟨_, rfl, g8, ?_⟩
 go_simp
 refine hK _ _ ?_
 clear hK K
 replace g0 := g0.trans g8
 clear g8 HA HB UA UB
 repeat (first | (refine wpE_skip rfl rfl ?_; go_simp) | (refine wpE_readB (v := ?_) g0 rfl rfl (fun w' hg => ?_) (fun K hK => ?_); rotate_left; (go_simp; rfl); go_simp; refine hK _ _ ?_; clear hK K))
 refine wpE_fn (args := ?_) rfl rfl rfl rfl rfl rfl (by kernel_rfl) (by kernel_rfl) ?_ (fun K hK => ?_)
 rotate_left
 ·go_simp; rfl
 refine (plc_Drop _ p c L item m (HP.out.grow g0) FK.out).mono ?_
 rintro _ w6 ⟨_, rfl, g6, pa, ca, La, rfl, ha, hua⟩
 have HA := Lib.hid ha.at'
 have UA := Lib.hid hua
 clear ha hua
 unfold plcV
 refine ⟨_, rfl, g6, ?_⟩
 go_simp
 refine hK _ _ ?_
 clear hK K
 replace g0 := g0.trans g6
 clear g6
 refine wpE_fn (args := ?_) rfl rfl rfl rfl rfl rfl (by kernel_rfl) (by kernel_rfl) ?_ (fun K hK => ?_)
 rotate_left
 ·go_simp; rfl
 refine (ref_Drop _ p c L item m (HP.out.grow g0) FK.out HII.out).mono ?_
 rintro _ w7 ⟨_, rfl, g7, pb, cb, Lb, rfl, hb, hub⟩
 have HB := Lib.hid hb
 have UB := Lib.hid hub
 have HA := Lib.hid (HA.out.grow g7)
 clear hb hub
 unfold plcV
 refine ⟨_, rfl, g7, ?_⟩
 go_simp
 refine hK _ _ ?_
 clear hK K
 replace g0 := g0.trans g7
 clear g7
 refine wpE_fn (args := ?_) rfl rfl rfl rfl rfl rfl (by kernel_rfl) (by kernel_rfl) ?_ (fun K hK => ?_)
 rotate_left
 ·go_simp; rfl
 refine (ref_Same20 w7 pa pb ca cb La Lb HA.out HB.out).mono ?_
 rintro _ w8 ⟨r8, rfl, g8, h8⟩
 rcases h8.cases with ⟨rfl, _⟩ | ⟨_, k1⟩
 rotate_left
 ·exact absurd (by rw [UA.out, UB.out]) k1
 clear h8
 refine ⟨_, rfl, g8, ?_⟩
 go_simp
 refine hK _ _ ?_
 clear hK K
 replace g0 := g0.trans g8
 clear g8 HA HB UA UB
 repeat (first | (refine wpE_skip rfl rfl ?_; go_simp) | (refine wpE_readB (v := ?_) g0 rfl rfl (fun w' hg => ?_) (fun K hK => ?_); rotate_left; (go_simp; rfl); go_simp; refine hK _ _ ?_; clear hK K))
 refine wpE_nil ?_
 have G := Lib.hid (G.out.trans g0)
 clear s0 g0
 go_wp2_with fail
 go_ret
 exact ⟨_, rfl, G.out, rfl⟩
set_option maxRecDepth 100000 in
set_option maxHeartbeats 6400000 in
theorem law_PlacementCounts (w : World) (ht : Tab w) (P : Ptrs) (M : Mdl) (hm : MdlAt w P M) (hr : MdlR M) (p : Option Addr) (c : Nat) (L : List RowU) (hp : PlcAt w p c L) (item n : Int) :
  Calls Tryz.prog 8 #[.agg (mcells P M), plcV p c L, .int .i64 item, .int .i64 n] w (Ret w fun r _ => r = .bool true) := by
 have HT := Lib.hid ht
 clear ht
 have HM0 := Lib.hid hm
 have HP0 := Lib.hid hp
 have B0 := Cells.new w (mcells P M) 29
 have B1 := Cells.new (w.alloc (.cells (mcells P M) 29)) #[.slice p L.length c] 34
 simp only [World.size_alloc] at B1
 have m0 := mc0 B0.2 _ B1.1
 have m1 := mc1 B0.2 _ B1.1
 have m2 := mc2 B0.2 _ B1.1
 have m3 := mc3 B0.2 _ B1.1
 have m4 := mc4 B0.2 _ B1.1
 have m5 := mc5 B0.2 _ B1.1
 have m6 := mc6 B0.2 _ B1.1
 have m7 := mc7 B0.2 _ B1.1
 have m8 := mc8 B0.2 _ B1.1
 have m9 := mc9 B0.2 _ B1.1
 have m10 := mc10 B0.2 _ B1.1
 have p0 := B1.2.at 0 rfl
 have H := Lib.hid (show _ ∧ _ ∧ _ from ⟨B0.1.trans B1.1, B0.2.grow B1.1, B1.2⟩)
 clear B0 B1 hm hp
 unfold mcells at H m0 m1 m2 m3 m4 m5 m6 m7 m8 m9 m10 ⊢
 unfold plcV
 go_enter Tryz.func8, Tryz.ntmps8
 go_wp2_with fail
 clear m0 m1 m2 m3 m4 m5 m6 m7 m8 m9 m10 p0
 generalize w.heap.size + 1 = bp at H ⊢
 generalize w.heap.size = bm at H ⊢
 generalize (w.alloc _).alloc _ = W at H ⊢
 have G := Lib.hid (show Gr w W from H.out.1)
 have TM := Lib.hid (show Cells W bm (mcells P M) from H.out.2.1)
 have TP := Lib.hid (show Cells W bp #[.slice p L.length c] from H.out.2.2)
 have HM := Lib.hid (HM0.out.grow G.out)
 have HP := Lib.hid (HP0.out.grow G.out)
 clear H
 have HT := Lib.hid (HT.out.grow G.out)
 refine (law20_awake W HT.out).mono ?_
 rintro _ w1 ⟨_, rfl, g1, rfl⟩
 have G := Lib.hid (G.out.trans g1)
 have TM := Lib.hid (TM.out.grow g1)
 have TP := Lib.hid (TP.out.grow g1)
 have HM := Lib.hid (HM.out.grow g1)
 have HP := Lib.hid (HP.out.grow g1)
 have HT := Lib.hid (HT.out.grow g1)
 clear g1
 have m0 := mc0 TM.out _ (Gr.refl _)
 have m1 := mc1 TM.out _ (Gr.refl _)
 have m2 := mc2 TM.out _ (Gr.refl _)
 have m3 := mc3 TM.out _ (Gr.refl _)
 have m4 := mc4 TM.out _ (Gr.refl _)
 have m5 := mc5 TM.out _ (Gr.refl _)
 have m6 := mc6 TM.out _ (Gr.refl _)
 have m7 := mc7 TM.out _ (Gr.refl _)
 have m8 := mc8 TM.out _ (Gr.refl _)
 have m9 := mc9 TM.out _ (Gr.refl _)
 have m10 := mc10 TM.out _ (Gr.refl _)
 have s0 := TP.out.at 0 rfl
 go_wp2_with fail
 clear m0 m1 m2 m3 m4 m5 m6 m7 m8 m9 m10
 clear s0
 refine (law20_large w1 P M p c L HM.out HP.out).mono ?_
 rintro _ w2 ⟨r2, rfl, g1, h⟩
 have G := Lib.hid (G.out.trans g1)
 have TM := Lib.hid (TM.out.grow g1)
 have TP := Lib.hid (TP.out.grow g1)
 have HM := Lib.hid (HM.out.grow g1)
 have HP := Lib.hid (HP.out.grow g1)
 have HT := Lib.hid (HT.out.grow g1)
 clear g1
 rcases h.cases with ⟨rfl, k1⟩ | ⟨rfl, k1⟩
 ·clear h k1
  go_wp2_with fail
  try rw [Exit.noGoto_ret]
  go_ret
  exact ⟨_, rfl, G.out, rfl⟩
 have HFF := Lib.hid (Classical.not_not.1 k1)
 clear h k1
 have HF := Lib.hid HFF.out.1
 have FK := Lib.hid HFF.out.2.k
 have hdl := doms_le HF.out n
 have HSB := Lib.hid (show (spreadL M n (machinesP (usOf L) item 0)).length ≤ 1000000 from by rw [spreadL_len]; omega)
 have HMB := Lib.hid (show (machinesP (usOf L) item n).length ≤ 1000000 from Nat.le_trans (machinesP_few FK.out item n) (by decide))
 clear hdl
 go_wp2_with fail
 have g0 : Gr w2 w2.drew := (Gr.refl _).drew
 have m0 := mc0 TM.out
 have m1 := mc1 TM.out
 have m2 := mc2 TM.out
 have m3 := mc3 TM.out
 have m4 := mc4 TM.out
 have m5 := mc5 TM.out
 have m6 := mc6 TM.out
 have m7 := mc7 TM.out
 have m8 := mc8 TM.out
 have m9 := mc9 TM.out
 have m10 := mc10 TM.out
 try dsimp only at m0 m1 m2 m3 m4 m5 m6 m7 m8 m9 m10
 have s0 := TP.out.c 0 rfl
 refine wp_region_fast [(0, true), (1, true), (2, true), (4, true), (5, true), (6, true), (3, false), (7, false), (8, false), (9, true), (10, true), (11, true), (12, true), (14, true), (15, true), (16, true), (13, false), (17, false), (18, true), (19, true), (20, true), (21, true), (22, true), (23, true), (25, true), (26, true), (27, true), (24, false), (28, false), (29, true), (30, true), (31, true), (32, true), (33, true), (34, true), (35, true), (37, true), (38, true), (39, true), (40, true), (36, false), (41, false), (42, false), (43, true), (44, true)] (by kernel_rfl) (by kernel_rfl) rfl (by kernel_rfl) (fun _ _ d _ _ h => by cases d <;> exact h) ?_
 repeat (refine wpE_readB (v := ?_) g0 rfl rfl (fun w' hg => ?_) (fun K hK => ?_); rotate_left; (go_simp; rfl); go_simp; refine hK _ _ ?_; clear hK K)
 refine wpE_fn (args := ?_) rfl rfl rfl rfl rfl rfl (by kernel_rfl) (by kernel_rfl) ?_ (fun K hK => ?_)
 rotate_left
 ·go_simp; rfl
 refine (plc_Machines _ p c L item n (HP.out.grow g0) FK.out).mono ?_
 rintro _ w6 ⟨r6, rfl, g6, h6⟩
 have H6 := Lib.hid (h6.read : IntL w6 r6 (machinesP (usOf L) item n))
 clear h6
 refine ⟨_, rfl, g6, ?_⟩
 go_simp
 refine hK _ _ ?_
 clear hK K
 replace g0 := g0.trans g6
 clear g6
 refine wpE_fn (args := ?_) rfl rfl rfl rfl rfl rfl (by kernel_rfl) (by kernel_rfl) ?_ (fun K hK => ?_)
 rotate_left
 ·go_simp; rfl
 refine (ref_Machines20 _ p c L item n (HP.out.grow g0) FK.out).mono ?_
 rintro _ w7 ⟨r7, rfl, g7, h7⟩
 have H7 := Lib.hid (h7.read : IntL w7 r7 (machinesP (usOf L) item n))
 have H6 := Lib.hid (SlL.grow H6.out g7)
 clear h7
 refine ⟨_, rfl, g7, ?_⟩
 go_simp
 refine hK _ _ ?_
 clear hK K
 replace g0 := g0.trans g7
 clear g7
 obtain ⟨p6, c6, rfl, _, _⟩ := H6.out.parts
 obtain ⟨p7, c7, rfl, _, _⟩ := H7.out.parts
 refine wpE_fn (args := ?_) rfl rfl rfl rfl rfl rfl (by kernel_rfl) (by kernel_rfl) ?_ (fun K hK => ?_)
 rotate_left
 ·go_simp; rfl
 refine (ref_Ints w7 p6 p7 _ c6 _ c7 (machinesP (usOf L) item n) (machinesP (usOf L) item n) H6.out H7.out rfl rfl (HMB.out) (HMB.out)).mono ?_
 rintro _ w8 ⟨r8, rfl, g8, h8⟩
 rcases h8.cases with ⟨rfl, _⟩ | ⟨_, k1⟩
 rotate_left
 ·exact absurd (rfl) k1
 clear h8
 refine ⟨_, rfl, g8, ?_⟩
 go_simp
 refine hK _ _ ?_
 clear hK K
 replace g0 := g0.trans g8
 clear g8 H6 H7
 repeat (first | (refine wpE_skip rfl rfl ?_; go_simp) | (refine wpE_readB (v := ?_) g0 rfl rfl (fun w' hg => ?_) (fun K hK => ?_); rotate_left; (go_simp; rfl); go_simp; refine hK _ _ ?_; clear hK K))
 refine wpE_fn (args := ?_) rfl rfl rfl rfl rfl rfl (by kernel_rfl) (by kernel_rfl) ?_ (fun K hK => ?_)
 rotate_left
 ·go_simp; rfl
 refine (plc_Load _ P M p c L n (HM.out.grow g0) HF.out (HP.out.grow g0) FK.out).mono ?_
 rintro _ w6 ⟨_, rfl, g6, rfl⟩
 refine ⟨_, rfl, g6, ?_⟩
 go_simp
 refine hK _ _ ?_
 clear hK K
 replace g0 := g0.trans g6
 clear g6
 refine wpE_fn (args := ?_) rfl rfl rfl rfl rfl rfl (by kernel_rfl) (by kernel_rfl) ?_ (fun K hK => ?_)
 rotate_left
 ·go_simp; rfl
 refine (ref_Load20 _ P M p c L n (HM.out.grow g0) HF.out (HP.out.grow g0) FK.out).mono ?_
 rintro _ w7 ⟨_, rfl, g7, rfl⟩
 obtain ⟨z, hz⟩ : ∃ z, (loadP M (usOf L) n M.items.length : Int) = z := ⟨_, rfl⟩
 rw [hz]
 clear hz
 refine ⟨_, rfl, g7, ?_⟩
 go_simp
 refine hK _ _ ?_
 clear hK K
 replace g0 := g0.trans g7
 clear g7
 have hb : (z == z) = true := by simp
 repeat (first | (refine wpE_skip rfl rfl ?_; go_simp) | (refine wpE_readB (v := ?_) g0 rfl rfl (fun w' hg => ?_) (fun K hK => ?_); rotate_left; (go_simp; rfl); go_simp; refine hK _ _ ?_; clear hK K))
 clear hb
 refine wpE_fn (args := ?_) rfl rfl rfl rfl rfl rfl (by kernel_rfl) (by kernel_rfl) ?_ (fun K hK => ?_)
 rotate_left
 ·go_simp; rfl
 refine (plc_Dark _ P M p c L item (HM.out.grow g0) HF.out (HP.out.grow g0) FK.out).mono ?_
 rintro _ w6 ⟨_, rfl, g6, rfl⟩
 refine ⟨_, rfl, g6, ?_⟩
 go_simp
 refine hK _ _ ?_
 clear hK K
 replace g0 := g0.trans g6
 clear g6
 refine wpE_fn (args := ?_) rfl rfl rfl rfl rfl rfl (by kernel_rfl) (by kernel_rfl) ?_ (fun K hK => ?_)
 rotate_left
 ·go_simp; rfl
 refine (ref_Dark20 _ P M p c L item (HM.out.grow g0) HF.out (HP.out.grow g0) FK.out).mono ?_
 rintro _ w7 ⟨_, rfl, g7, rfl⟩
 obtain ⟨z, hz⟩ : ∃ z, ((darkP M (usOf L) item : Int) : Int) = z := ⟨_, rfl⟩
 rw [hz]
 clear hz
 refine ⟨_, rfl, g7, ?_⟩
 go_simp
 refine hK _ _ ?_
 clear hK K
 replace g0 := g0.trans g7
 clear g7
 have hb : (z == z) = true := by simp
 repeat (first | (refine wpE_skip rfl rfl ?_; go_simp) | (refine wpE_readB (v := ?_) g0 rfl rfl (fun w' hg => ?_) (fun K hK => ?_); rotate_left; (go_simp; rfl); go_simp; refine hK _ _ ?_; clear hK K))
 clear hb
 refine wpE_fn (args := ?_) rfl rfl rfl rfl rfl rfl (by kernel_rfl) (by kernel_rfl) ?_ (fun K hK => ?_)
 rotate_left
 ·go_simp; rfl
 refine (plc_Spread _ P M p c L item n (HM.out.grow g0) HF.out (HP.out.grow g0) FK.out).mono ?_
 rintro _ w6 ⟨r6, rfl, g6, h6⟩
 have H6 := Lib.hid (h6 : IntL w6 r6 (spreadL M n (machinesP (usOf L) item 0)))
 clear h6
 refine ⟨_, rfl, g6, ?_⟩
 go_simp
 refine hK _ _ ?_
 clear hK K
 replace g0 := g0.trans g6
 clear g6
 refine wpE_fn (args := ?_) rfl rfl rfl rfl rfl rfl (by kernel_rfl) (by kernel_rfl) ?_ (fun K hK => ?_)
 rotate_left
 ·go_simp; rfl
 refine (ref_Spread20 _ P M p c L item n (HM.out.grow g0) HF.out (HP.out.grow g0) FK.out).mono ?_
 rintro _ w7 ⟨r7, rfl, g7, h7⟩
 have H7 := Lib.hid (h7 : IntL w7 r7 (spreadL M n (machinesP (usOf L) item 0)))
 have H6 := Lib.hid (SlL.grow H6.out g7)
 clear h7
 refine ⟨_, rfl, g7, ?_⟩
 go_simp
 refine hK _ _ ?_
 clear hK K
 replace g0 := g0.trans g7
 clear g7
 obtain ⟨p6, c6, rfl, _, _⟩ := H6.out.parts
 obtain ⟨p7, c7, rfl, _, _⟩ := H7.out.parts
 refine wpE_fn (args := ?_) rfl rfl rfl rfl rfl rfl (by kernel_rfl) (by kernel_rfl) ?_ (fun K hK => ?_)
 rotate_left
 ·go_simp; rfl
 refine (ref_Ints w7 p6 p7 _ c6 _ c7 (spreadL M n (machinesP (usOf L) item 0)) (spreadL M n (machinesP (usOf L) item 0)) H6.out H7.out rfl rfl (HSB.out) (HSB.out)).mono ?_
 rintro _ w8 ⟨r8, rfl, g8, h8⟩
 rcases h8.cases with ⟨rfl, _⟩ | ⟨_, k1⟩
 rotate_left
 ·exact absurd (rfl) k1
 clear h8
 refine ⟨_, rfl, g8, ?_⟩
 go_simp
 refine hK _ _ ?_
 clear hK K
 replace g0 := g0.trans g8
 clear g8 H6 H7
 repeat (first | (refine wpE_skip rfl rfl ?_; go_simp) | (refine wpE_readB (v := ?_) g0 rfl rfl (fun w' hg => ?_) (fun K hK => ?_); rotate_left; (go_simp; rfl); go_simp; refine hK _ _ ?_; clear hK K))
 refine wpE_nil ?_
 have G := Lib.hid (G.out.trans g0)
 clear m0 m1 m2 m3 m4 m5 m6 m7 m8 m9 m10
 clear s0 g0
 go_wp2_with fail
 go_ret
 exact ⟨_, rfl, G.out, rfl⟩
end Go.Proofs.YtchpbaaabnkkkaaGreatDoor

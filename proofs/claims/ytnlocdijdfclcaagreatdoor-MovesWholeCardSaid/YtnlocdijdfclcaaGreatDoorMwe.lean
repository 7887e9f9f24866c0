/-
 The laws MovesEffects, MovesWhole.
-/
import Derived.Test.YtnlocdijdfclcaaGreatDoorMwc
import Derived.Test.YtnlocdijdfclcaaGreatDoorMvm
import Derived.Test.YtnlocdijdfclcaaGreatDoorPlE
import Derived.Test.YtnlocdijdfclcaaGreatDoorOpen
namespace Go.Proofs.YtnlocdijdfclcaaGreatDoor
open Go.RowKit Go.Lib Lex
set_option linter.unusedVariables false
set_option linter.unusedSimpArgs false

set_option maxRecDepth 100000 in
set_option maxHeartbeats 3200000 in
theorem law_MovesEffects (w : World) (ht : Tab w) (P : Ptrs) (M : Mdl) (hm : MdlAt w P M) (hr : MdlR M) (p : Option Addr) (c : Nat) (L : List RowU) (hp : PlcAt w p c L) (x : MvM) (hxr : I64 x.item ∧ I64 x.frm ∧ I64 x.to) :
  Calls Tryz.prog 3 #[.agg (mcells P M), plcV p c L, .agg (moveV x)] w (Ret w fun r _ => r = .bool true) := by
 have HT0 := Lib.hid ht
 have HM0 := Lib.hid hm
 have HP0 := Lib.hid hp
 have B0 := Cells.new w (mcells P M) 29
 have B1 := Cells.new (w.alloc (.cells (mcells P M) 29)) #[.slice p L.length c] 32
 have B2 := Cells.new ((w.alloc (.cells (mcells P M) 29)).alloc (.cells #[.slice p L.length c] 32)) (moveV x) 34
 simp only [World.size_alloc] at B1 B2
 have H := Lib.hid (show _ ∧ _ ∧ _ ∧ _ from ⟨B0.1.trans (B1.1.trans B2.1), B0.2.grow (B1.1.trans B2.1), B1.2.grow B2.1, B2.2⟩)
 clear B0 B1 B2 hm hp ht
 unfold mcells moveV at H
 unfold mcells moveV plcV
 go_enter Tryz.func3, Tryz.ntmps3
 go_wp2_with fail
 generalize w.heap.size + 1 + 1 = bx at H ⊢
 generalize w.heap.size + 1 = bp at H ⊢
 generalize w.heap.size = bm at H ⊢
 generalize ((w.alloc _).alloc _).alloc _ = W at H ⊢
 have G := Lib.hid (show Gr w W from H.out.1)
 have TM := Lib.hid (show Cells W bm (mcells P M) from H.out.2.1)
 have TP := Lib.hid (show Cells W bp #[.slice p L.length c] from H.out.2.2.1)
 have TX := Lib.hid (show Cells W bx (moveV x) from H.out.2.2.2)
 clear H
 refine (law23_awake W (HT0.out.grow G.out)).mono ?_
 rintro _ w1 ⟨_, rfl, g1, rfl⟩
 have G := Lib.hid (G.out.trans g1)
 have TM := Lib.hid (TM.out.grow g1)
 have TP := Lib.hid (TP.out.grow g1)
 have TX := Lib.hid (TX.out.grow g1)
 clear g1
 have m0 := mc0 TM.out _ (Gr.refl _)
 have m1 := mc1 TM.out _ (Gr.refl _)
 have m2 := mc2 TM.out _ (Gr.refl _)
 have m3 := mc3 TM.out _ (Gr.refl _)
 have m4 := mc4 TM.out _ (Gr.refl _)
 have m5 := mc5 TM.out _ (Gr.refl _)
 have m6 := mc6 TM.out _ (Gr.refl _)
 have m7 := mc7 TM.out _ (Gr.refl _)
 have m8 := mc8 TM.out _ (Gr.refl _)
 have m9 := mc9 TM.out _ (Gr.refl _)
 have m10 := mc10 TM.out _ (Gr.refl _)
 go_wp2_with fail
 clear m0 m1 m2 m3 m4 m5 m6 m7 m8 m9 m10
 refine (ref_Few w1 P M (HM0.out.grow G.out)).mono ?_
 rintro _ w2 ⟨r2, rfl, g1, h⟩
 have G := Lib.hid (G.out.trans g1)
 have TM := Lib.hid (TM.out.grow g1)
 have TP := Lib.hid (TP.out.grow g1)
 have TX := Lib.hid (TX.out.grow g1)
 clear g1
 rcases h.cases with ⟨rfl, k1⟩ | ⟨rfl, k1⟩
 rotate_left
 ·clear h k1
  go_wp2_with fail
  try rw [Exit.noGoto_ret]
  go_ret
  exact ⟨_, rfl, G.out, rfl⟩
 have HF := Lib.hid k1
 clear h k1
 have s0 := TP.out.at 0 rfl
 go_wp2_with fail
 clear s0
 refine (ref_Few20 w2 p c L (HP0.out.grow G.out)).mono ?_
 rintro _ w3 ⟨r3, rfl, g1, h⟩
 have G := Lib.hid (G.out.trans g1)
 have TM := Lib.hid (TM.out.grow g1)
 have TP := Lib.hid (TP.out.grow g1)
 have TX := Lib.hid (TX.out.grow g1)
 clear g1
 rcases h.cases with ⟨rfl, k1⟩ | ⟨rfl, k1⟩
 rotate_left
 ·clear h k1
  go_wp2_with fail
  try rw [Exit.noGoto_ret]
  go_ret
  exact ⟨_, rfl, G.out, rfl⟩
 have HK := Lib.hid k1
 clear h k1
 have m0 := mc0 TM.out _ (Gr.refl _)
 have m1 := mc1 TM.out _ (Gr.refl _)
 have m2 := mc2 TM.out _ (Gr.refl _)
 have m3 := mc3 TM.out _ (Gr.refl _)
 have m4 := mc4 TM.out _ (Gr.refl _)
 have m5 := mc5 TM.out _ (Gr.refl _)
 have m6 := mc6 TM.out _ (Gr.refl _)
 have m7 := mc7 TM.out _ (Gr.refl _)
 have m8 := mc8 TM.out _ (Gr.refl _)
 have m9 := mc9 TM.out _ (Gr.refl _)
 have m10 := mc10 TM.out _ (Gr.refl _)
 have s0 := TP.out.at 0 rfl
 have x0 : World.cell? _ ⟨_, 0, none⟩ = some (.int .i64 x.item) := (TX.out).at 0 rfl
 have x1 : World.cell? _ ⟨_, 1, none⟩ = some (.int .i64 x.frm) := (TX.out).at 1 rfl
 have x2 : World.cell? _ ⟨_, 2, none⟩ = some (.int .i64 x.to) := (TX.out).at 2 rfl
 go_wp2_with fail
 clear m0 m1 m2 m3 m4 m5 m6 m7 m8 m9 m10
 clear s0 x0 x1 x2
 refine (mv_Begin w3 (HT0.out.grow G.out) P M p c L x (HM0.out.grow G.out) HF.out (HP0.out.grow G.out) HK.out).mono ?_
 rintro _ w4 ⟨_, rfl, g1, e1, p1, c1, L1, rfl, hp1, hs1⟩
 have HP1 := Lib.hid hp1
 have HS1 := Lib.hid hs1
 clear hp1 hs1
 have G := Lib.hid (G.out.trans g1)
 have TM := Lib.hid (TM.out.grow g1)
 have TP := Lib.hid (TP.out.grow g1)
 have TX := Lib.hid (TX.out.grow g1)
 clear g1
 unfold plcV
 have A0 := Cells.new w4 #[.slice none 0 0] 32
 have A1 := A0.2.set 0 (.slice p1 (L1).length c1)
 have A2 := A0.1.set (Nat.lt_irrefl _) (i := 0) (.slice p1 (L1).length c1)
 have q0 := A0.2.at 0 rfl
 have q1 := Cells.f A0.2 0
 obtain ⟨b7, hB⟩ : ∃ b, (w4).heap.size = b := ⟨_, rfl⟩
 rw [hB] at A1 A2 q0 q1
 obtain ⟨w5, hV⟩ : ∃ W', World.setCell (World.alloc w4 (.cells #[.slice none 0 0] 32)) ⟨b7, 0, none⟩ (.slice p1 (L1).length c1) = W' := ⟨_, rfl⟩
 rw [hV] at A1 A2
 have T7 := Lib.hid (show Cells w5 b7 #[.slice p1 (L1).length c1] from by simpa using A1)
 have g1 := A2
 clear A0 A1 A2
 have HP1 := Lib.hid (HP1.out.grow g1)
 have G := Lib.hid (G.out.trans g1)
 have TM := Lib.hid (TM.out.grow g1)
 have TP := Lib.hid (TP.out.grow g1)
 have TX := Lib.hid (TX.out.grow g1)
 clear g1
 have m0 := mc0 TM.out _ (Gr.refl _)
 have m1 := mc1 TM.out _ (Gr.refl _)
 have m2 := mc2 TM.out _ (Gr.refl _)
 have m3 := mc3 TM.out _ (Gr.refl _)
 have m4 := mc4 TM.out _ (Gr.refl _)
 have m5 := mc5 TM.out _ (Gr.refl _)
 have m6 := mc6 TM.out _ (Gr.refl _)
 have m7 := mc7 TM.out _ (Gr.refl _)
 have m8 := mc8 TM.out _ (Gr.refl _)
 have m9 := mc9 TM.out _ (Gr.refl _)
 have m10 := mc10 TM.out _ (Gr.refl _)
 have s0 := TP.out.at 0 rfl
 have x0 : World.cell? _ ⟨_, 0, none⟩ = some (.int .i64 x.item) := (TX.out).at 0 rfl
 have x1 : World.cell? _ ⟨_, 1, none⟩ = some (.int .i64 x.frm) := (TX.out).at 1 rfl
 have x2 : World.cell? _ ⟨_, 2, none⟩ = some (.int .i64 x.to) := (TX.out).at 2 rfl
 go_wp2_with fail
 clear m0 m1 m2 m3 m4 m5 m6 m7 m8 m9 m10
 clear s0 x0 x1 x2 q0 q1 hB hV
 refine (ref_Begin w5 (HT0.out.grow G.out) P M p c L x (HM0.out.grow G.out) HF.out (HP0.out.grow G.out) HK.out).mono ?_
 rintro _ w6 ⟨_, rfl, g1, e2, p2, c2, L2, rfl, hpq, hsq⟩
 have HP2 := Lib.hid hpq
 have HS2 := Lib.hid hsq
 clear hpq hsq
 have G := Lib.hid (G.out.trans g1)
 have TM := Lib.hid (TM.out.grow g1)
 have TP := Lib.hid (TP.out.grow g1)
 have TX := Lib.hid (TX.out.grow g1)
 have T7 := Lib.hid (T7.out.grow g1)
 have HP1 := Lib.hid (HP1.out.grow g1)
 clear g1
 unfold plcV
 have A0 := Cells.new w6 #[.slice none 0 0] 32
 have A1 := A0.2.set 0 (.slice p2 (L2).length c2)
 have A2 := A0.1.set (Nat.lt_irrefl _) (i := 0) (.slice p2 (L2).length c2)
 have q0 := A0.2.at 0 rfl
 have q1 := Cells.f A0.2 0
 obtain ⟨b9, hB⟩ : ∃ b, (w6).heap.size = b := ⟨_, rfl⟩
 rw [hB] at A1 A2 q0 q1
 obtain ⟨w7, hV⟩ : ∃ W', World.setCell (World.alloc w6 (.cells #[.slice none 0 0] 32)) ⟨b9, 0, none⟩ (.slice p2 (L2).length c2) = W' := ⟨_, rfl⟩
 rw [hV] at A1 A2
 have T9 := Lib.hid (show Cells w7 b9 #[.slice p2 (L2).length c2] from by simpa using A1)
 have g1 := A2
 clear A0 A1 A2
 have HP2 := Lib.hid ((HP2).out.grow g1)
 have G := Lib.hid (G.out.trans g1)
 have TM := Lib.hid (TM.out.grow g1)
 have TP := Lib.hid (TP.out.grow g1)
 have TX := Lib.hid (TX.out.grow g1)
 have T7 := Lib.hid (T7.out.grow g1)
 have HP1 := Lib.hid (HP1.out.grow g1)
 clear g1
 have m0 := mc0 TM.out _ (Gr.refl _)
 have m1 := mc1 TM.out _ (Gr.refl _)
 have m2 := mc2 TM.out _ (Gr.refl _)
 have m3 := mc3 TM.out _ (Gr.refl _)
 have m4 := mc4 TM.out _ (Gr.refl _)
 have m5 := mc5 TM.out _ (Gr.refl _)
 have m6 := mc6 TM.out _ (Gr.refl _)
 have m7 := mc7 TM.out _ (Gr.refl _)
 have m8 := mc8 TM.out _ (Gr.refl _)
 have m9 := mc9 TM.out _ (Gr.refl _)
 have m10 := mc10 TM.out _ (Gr.refl _)
 have s0 := TP.out.at 0 rfl
 have x0 : World.cell? _ ⟨_, 0, none⟩ = some (.int .i64 x.item) := (TX.out).at 0 rfl
 have x1 : World.cell? _ ⟨_, 1, none⟩ = some (.int .i64 x.frm) := (TX.out).at 1 rfl
 have x2 : World.cell? _ ⟨_, 2, none⟩ = some (.int .i64 x.to) := (TX.out).at 2 rfl
 go_wp2_with fail
 clear m0 m1 m2 m3 m4 m5 m6 m7 m8 m9 m10
 clear s0 x0 x1 x2 q0 q1 hB hV
 refine (mv_Finish w7 (HT0.out.grow G.out) P M p c L x (HM0.out.grow G.out) HF.out (HP0.out.grow G.out) HK.out).mono ?_
 rintro _ w8 ⟨_, rfl, g1, e3, p3, c3, L3, rfl, hpq, hsq⟩
 have HP3 := Lib.hid hpq
 have HS3 := Lib.hid hsq
 clear hpq hsq
 have G := Lib.hid (G.out.trans g1)
 have TM := Lib.hid (TM.out.grow g1)
 have TP := Lib.hid (TP.out.grow g1)
 have TX := Lib.hid (TX.out.grow g1)
 have T7 := Lib.hid (T7.out.grow g1)
 have HP1 := Lib.hid (HP1.out.grow g1)
 have T9 := Lib.hid (T9.out.grow g1)
 have HP2 := Lib.hid (HP2.out.grow g1)
 clear g1
 unfold plcV
 have A0 := Cells.new w8 #[.slice none 0 0] 32
 have A1 := A0.2.set 0 (.slice p3 (L3).length c3)
 have A2 := A0.1.set (Nat.lt_irrefl _) (i := 0) (.slice p3 (L3).length c3)
 have q0 := A0.2.at 0 rfl
 have q1 := Cells.f A0.2 0
 obtain ⟨b11, hB⟩ : ∃ b, (w8).heap.size = b := ⟨_, rfl⟩
 rw [hB] at A1 A2 q0 q1
 obtain ⟨w9, hV⟩ : ∃ W', World.setCell (World.alloc w8 (.cells #[.slice none 0 0] 32)) ⟨b11, 0, none⟩ (.slice p3 (L3).length c3) = W' := ⟨_, rfl⟩
 rw [hV] at A1 A2
 have T11 := Lib.hid (show Cells w9 b11 #[.slice p3 (L3).length c3] from by simpa using A1)
 have g1 := A2
 clear A0 A1 A2
 have HP3 := Lib.hid ((HP3).out.grow g1)
 have G := Lib.hid (G.out.trans g1)
 have TM := Lib.hid (TM.out.grow g1)
 have TP := Lib.hid (TP.out.grow g1)
 have TX := Lib.hid (TX.out.grow g1)
 have T7 := Lib.hid (T7.out.grow g1)
 have HP1 := Lib.hid (HP1.out.grow g1)
 have T9 := Lib.hid (T9.out.grow g1)
 have HP2 := Lib.hid (HP2.out.grow g1)
 clear g1
 have m0 := mc0 TM.out _ (Gr.refl _)
 have m1 := mc1 TM.out _ (Gr.refl _)
 have m2 := mc2 TM.out _ (Gr.refl _)
 have m3 := mc3 TM.out _ (Gr.refl _)
 have m4 := mc4 TM.out _ (Gr.refl _)
 have m5 := mc5 TM.out _ (Gr.refl _)
 have m6 := mc6 TM.out _ (Gr.refl _)
 have m7 := mc7 TM.out _ (Gr.refl _)
 have m8 := mc8 TM.out _ (Gr.refl _)
 have m9 := mc9 TM.out _ (Gr.refl _)
 have m10 := mc10 TM.out _ (Gr.refl _)
 have s0 := TP.out.at 0 rfl
 have x0 : World.cell? _ ⟨_, 0, none⟩ = some (.int .i64 x.item) := (TX.out).at 0 rfl
 have x1 : World.cell? _ ⟨_, 1, none⟩ = some (.int .i64 x.frm) := (TX.out).at 1 rfl
 have x2 : World.cell? _ ⟨_, 2, none⟩ = some (.int .i64 x.to) := (TX.out).at 2 rfl
 go_wp2_with fail
 clear m0 m1 m2 m3 m4 m5 m6 m7 m8 m9 m10
 clear s0 x0 x1 x2 q0 q1 hB hV
 refine (ref_Finish w9 (HT0.out.grow G.out) P M p c L x (HM0.out.grow G.out) HF.out (HP0.out.grow G.out) HK.out).mono ?_
 rintro _ w10 ⟨_, rfl, g1, e4, p4, c4, L4, rfl, hpq, hsq⟩
 have HP4 := Lib.hid hpq
 have HS4 := Lib.hid hsq
 clear hpq hsq
 have G := Lib.hid (G.out.trans g1)
 have TM := Lib.hid (TM.out.grow g1)
 have TP := Lib.hid (TP.out.grow g1)
 have TX := Lib.hid (TX.out.grow g1)
 have T7 := Lib.hid (T7.out.grow g1)
 have HP1 := Lib.hid (HP1.out.grow g1)
 have T9 := Lib.hid (T9.out.grow g1)
 have HP2 := Lib.hid (HP2.out.grow g1)
 have T11 := Lib.hid (T11.out.grow g1)
 have HP3 := Lib.hid (HP3.out.grow g1)
 clear g1
 unfold plcV
 have A0 := Cells.new w10 #[.slice none 0 0] 32
 have A1 := A0.2.set 0 (.slice p4 (L4).length c4)
 have A2 := A0.1.set (Nat.lt_irrefl _) (i := 0) (.slice p4 (L4).length c4)
 have q0 := A0.2.at 0 rfl
 have q1 := Cells.f A0.2 0
 obtain ⟨b13, hB⟩ : ∃ b, (w10).heap.size = b := ⟨_, rfl⟩
 rw [hB] at A1 A2 q0 q1
 obtain ⟨w11, hV⟩ : ∃ W', World.setCell (World.alloc w10 (.cells #[.slice none 0 0] 32)) ⟨b13, 0, none⟩ (.slice p4 (L4).length c4) = W' := ⟨_, rfl⟩
 rw [hV] at A1 A2
 have T13 := Lib.hid (show Cells w11 b13 #[.slice p4 (L4).length c4] from by simpa using A1)
 have g1 := A2
 clear A0 A1 A2
 have HP4 := Lib.hid ((HP4).out.grow g1)
 have G := Lib.hid (G.out.trans g1)
 have TM := Lib.hid (TM.out.grow g1)
 have TP := Lib.hid (TP.out.grow g1)
 have TX := Lib.hid (TX.out.grow g1)
 have T7 := Lib.hid (T7.out.grow g1)
 have HP1 := Lib.hid (HP1.out.grow g1)
 have T9 := Lib.hid (T9.out.grow g1)
 have HP2 := Lib.hid (HP2.out.grow g1)
 have T11 := Lib.hid (T11.out.grow g1)
 have HP3 := Lib.hid (HP3.out.grow g1)
 clear g1
 have m0 := mc0 TM.out _ (Gr.refl _)
 have m1 := mc1 TM.out _ (Gr.refl _)
 have m2 := mc2 TM.out _ (Gr.refl _)
 have m3 := mc3 TM.out _ (Gr.refl _)
 have m4 := mc4 TM.out _ (Gr.refl _)
 have m5 := mc5 TM.out _ (Gr.refl _)
 have m6 := mc6 TM.out _ (Gr.refl _)
 have m7 := mc7 TM.out _ (Gr.refl _)
 have m8 := mc8 TM.out _ (Gr.refl _)
 have m9 := mc9 TM.out _ (Gr.refl _)
 have m10 := mc10 TM.out _ (Gr.refl _)
 have s0 := TP.out.at 0 rfl
 have x0 : World.cell? _ ⟨_, 0, none⟩ = some (.int .i64 x.item) := (TX.out).at 0 rfl
 have x1 : World.cell? _ ⟨_, 1, none⟩ = some (.int .i64 x.frm) := (TX.out).at 1 rfl
 have x2 : World.cell? _ ⟨_, 2, none⟩ = some (.int .i64 x.to) := (TX.out).at 2 rfl
 obtain ⟨rfl, hu12⟩ := begS_one HS1.out HS2.out
 obtain ⟨rfl, hu34⟩ := finS_one HS3.out HS4.out
 have HU12 := Lib.hid hu12
 have HU34 := Lib.hid hu34
 have he1 : (e1 == e1) = true := by simp
 have he3 : (e3 == e3) = true := by simp
 clear hu12 hu34
 have s7 := T7.out.at 0 rfl
 have s9 := T9.out.at 0 rfl
 go_wp2_with fail
 clear m0 m1 m2 m3 m4 m5 m6 m7 m8 m9 m10
 clear s0 x0 x1 x2 q0 q1 hB hV s7 s9
 refine (ref_Same20 w11 p1 p2 c1 c2 L1 L2 HP1.out HP2.out).mono ?_
 rintro _ w12 ⟨r12, rfl, g1, h12⟩
 have G := Lib.hid (G.out.trans g1)
 have TM := Lib.hid (TM.out.grow g1)
 have TP := Lib.hid (TP.out.grow g1)
 have TX := Lib.hid (TX.out.grow g1)
 have T7 := Lib.hid (T7.out.grow g1)
 have HP1 := Lib.hid (HP1.out.grow g1)
 have T9 := Lib.hid (T9.out.grow g1)
 have HP2 := Lib.hid (HP2.out.grow g1)
 have T11 := Lib.hid (T11.out.grow g1)
 have HP3 := Lib.hid (HP3.out.grow g1)
 have T13 := Lib.hid (T13.out.grow g1)
 have HP4 := Lib.hid (HP4.out.grow g1)
 clear g1
 rcases h12.cases with ⟨rfl, _⟩ | ⟨_, k1⟩
 rotate_left
 ·exact absurd HU12.out k1
 clear h12
 have s7 := T11.out.at 0 rfl
 have s9 := T13.out.at 0 rfl
 go_wp2_with fail
 clear s7 s9
 refine (ref_Same20 w12 p3 p4 c3 c4 L3 L4 HP3.out HP4.out).mono ?_
 rintro _ w13 ⟨r13, rfl, g1, h13⟩
 have G := Lib.hid (G.out.trans g1)
 rcases h13.cases with ⟨rfl, _⟩ | ⟨_, k1⟩
 rotate_left
 ·exact absurd HU34.out k1
 clear h13
 go_wp2_with fail
 go_ret
 exact ⟨_, rfl, G.out, rfl⟩
end Go.Proofs.YtnlocdijdfclcaaGreatDoor

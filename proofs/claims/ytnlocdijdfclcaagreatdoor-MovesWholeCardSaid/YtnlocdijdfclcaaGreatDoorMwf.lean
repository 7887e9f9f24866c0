/-
 The law MovesWhole.
-/
import Derived.Test.YtnlocdijdfclcaaGreatDoorMwe
namespace Go.Proofs.YtnlocdijdfclcaaGreatDoor
open Go.RowKit Go.Lib Lex
set_option linter.unusedVariables false
set_option linter.unusedSimpArgs false

set_option maxRecDepth 100000 in
set_option maxHeartbeats 6400000 in
theorem law_MovesWhole (w : World) (ht : Tab w) (P : Ptrs) (M : Mdl) (hm : MdlAt w P M) (hr : MdlR M) (p : Option Addr) (c : Nat) (L : List RowU) (hp : PlcAt w p c L) (x : MvM) (hxr : I64 x.item ∧ I64 x.frm ∧ I64 x.to) :
  Calls Tryz.prog 4 #[.agg (mcells P M), plcV p c L, .agg (moveV x)] w (Ret w fun r _ => r = .bool true) := by
 have HT0 := Lib.hid ht
 have HM0 := Lib.hid hm
 have HP0 := Lib.hid hp
 have B0 := Cells.new w (mcells P M) 29
 have B1 := Cells.new (w.alloc (.cells (mcells P M) 29)) #[.slice p L.length c] 32
 have B2 := Cells.new ((w.alloc (.cells (mcells P M) 29)).alloc (.cells #[.slice p L.length c] 32)) (moveV x) 34
 simp only [World.size_alloc] at B1 B2
 have H := Lib.hid (show _ ∧ _ ∧ _ ∧ _ from ⟨B0.1.trans (B1.1.trans B2.1), B0.2.grow (B1.1.trans B2.1), B1.2.grow B2.1, B2.2⟩)
 clear B0 B1 B2 hm hp ht
 unfold mcells moveV at H
 unfold mcells moveV plcV
 go_enter Tryz.func4, Tryz.ntmps4
 go_wp2_with fail
 generalize w.heap.size + 1 + 1 = bx at H ⊢
 generalize w.heap.size + 1 = bp at H ⊢
 generalize w.heap.size = bm at H ⊢
 generalize ((w.alloc _).alloc _).alloc _ = W at H ⊢
 have G := Lib.hid (show Gr w W from H.out.1)
 have TM := Lib.hid (show Cells W bm (mcells P M) from H.out.2.1)
 have TP := Lib.hid (show Cells W bp #[.slice p L.length c] from H.out.2.2.1)
 have TX := Lib.hid (show Cells W bx (moveV x) from H.out.2.2.2)
 clear H
 refine (law23_awake W (HT0.out.grow G.out)).mono ?_
 rintro _ w1 ⟨_, rfl, g1, rfl⟩
 have G := Lib.hid (G.out.trans g1)
 have TM := Lib.hid (TM.out.grow g1)
 have TP := Lib.hid (TP.out.grow g1)
 have TX := Lib.hid (TX.out.grow g1)
 clear g1
 have m0 := mc0 TM.out _ (Gr.refl _)
 have m1 := mc1 TM.out _ (Gr.refl _)
 have m2 := mc2 TM.out _ (Gr.refl _)
 have m3 := mc3 TM.out _ (Gr.refl _)
 have m4 := mc4 TM.out _ (Gr.refl _)
 have m5 := mc5 TM.out _ (Gr.refl _)
 have m6 := mc6 TM.out _ (Gr.refl _)
 have m7 := mc7 TM.out _ (Gr.refl _)
 have m8 := mc8 TM.out _ (Gr.refl _)
 have m9 := mc9 TM.out _ (Gr.refl _)
 have m10 := mc10 TM.out _ (Gr.refl _)
 go_wp2_with fail
 clear m0 m1 m2 m3 m4 m5 m6 m7 m8 m9 m10
 refine (ref_Few w1 P M (HM0.out.grow G.out)).mono ?_
 rintro _ w2 ⟨r2, rfl, g1, h⟩
 have G := Lib.hid (G.out.trans g1)
 have TM := Lib.hid (TM.out.grow g1)
 have TP := Lib.hid (TP.out.grow g1)
 have TX := Lib.hid (TX.out.grow g1)
 clear g1
 rcases h.cases with ⟨rfl, k1⟩ | ⟨rfl, k1⟩
 rotate_left
 ·clear h k1
  go_wp2_with fail
  try rw [Exit.noGoto_ret]
  go_ret
  exact ⟨_, rfl, G.out, rfl⟩
 have HF := Lib.hid k1
 clear h k1
 have m0 := mc0 TM.out _ (Gr.refl _)
 have m1 := mc1 TM.out _ (Gr.refl _)
 have m2 := mc2 TM.out _ (Gr.refl _)
 have m3 := mc3 TM.out _ (Gr.refl _)
 have m4 := mc4 TM.out _ (Gr.refl _)
 have m5 := mc5 TM.out _ (Gr.refl _)
 have m6 := mc6 TM.out _ (Gr.refl _)
 have m7 := mc7 TM.out _ (Gr.refl _)
 have m8 := mc8 TM.out _ (Gr.refl _)
 have m9 := mc9 TM.out _ (Gr.refl _)
 have m10 := mc10 TM.out _ (Gr.refl _)
 have s0 := TP.out.at 0 rfl
 go_wp2_with fail
 clear m0 m1 m2 m3 m4 m5 m6 m7 m8 m9 m10
 clear s0
 refine (ref_Valid20w w2 P M p c L (HM0.out.grow G.out) HF.out (HP0.out.grow G.out)).mono ?_
 rintro _ w3 ⟨r3, rfl, g1, h⟩
 have G := Lib.hid (G.out.trans g1)
 have TM := Lib.hid (TM.out.grow g1)
 have TP := Lib.hid (TP.out.grow g1)
 have TX := Lib.hid (TX.out.grow g1)
 clear g1
 rcases h.cases with ⟨rfl, k1⟩ | ⟨rfl, k1⟩
 rotate_left
 ·clear h k1
  go_wp2_with fail
  try rw [Exit.noGoto_ret]
  go_ret
  exact ⟨_, rfl, G.out, rfl⟩
 have HPK := Lib.hid k1
 have HK := Lib.hid k1.fewP
 clear h k1
 have m0 := mc0 TM.out _ (Gr.refl _)
 have m1 := mc1 TM.out _ (Gr.refl _)
 have m2 := mc2 TM.out _ (Gr.refl _)
 have m3 := mc3 TM.out _ (Gr.refl _)
 have m4 := mc4 TM.out _ (Gr.refl _)
 have m5 := mc5 TM.out _ (Gr.refl _)
 have m6 := mc6 TM.out _ (Gr.refl _)
 have m7 := mc7 TM.out _ (Gr.refl _)
 have m8 := mc8 TM.out _ (Gr.refl _)
 have m9 := mc9 TM.out _ (Gr.refl _)
 have m10 := mc10 TM.out _ (Gr.refl _)
 have s0 := TP.out.at 0 rfl
 have x0 : World.cell? _ ⟨_, 0, none⟩ = some (.int .i64 x.item) := (TX.out).at 0 rfl
 have x1 : World.cell? _ ⟨_, 1, none⟩ = some (.int .i64 x.frm) := (TX.out).at 1 rfl
 have x2 : World.cell? _ ⟨_, 2, none⟩ = some (.int .i64 x.to) := (TX.out).at 2 rfl
 go_wp2_with fail
 clear m0 m1 m2 m3 m4 m5 m6 m7 m8 m9 m10
 clear s0 x0 x1 x2
 refine (mv_Begin w3 (HT0.out.grow G.out) P M p c L x (HM0.out.grow G.out) HF.out (HP0.out.grow G.out) HK.out).mono ?_
 rintro _ w4 ⟨_, rfl, g1, e1, p1, c1, L1, rfl, hp1, hs1⟩
 have HP1 := Lib.hid hp1
 have HS1 := Lib.hid hs1
 clear hp1 hs1
 have G := Lib.hid (G.out.trans g1)
 have TM := Lib.hid (TM.out.grow g1)
 have TP := Lib.hid (TP.out.grow g1)
 have TX := Lib.hid (TX.out.grow g1)
 clear g1
 unfold plcV
 have A0 := Cells.new w4 #[.slice none 0 0] 32
 have A1 := A0.2.set 0 (.slice p1 (L1).length c1)
 have A2 := A0.1.set (Nat.lt_irrefl _) (i := 0) (.slice p1 (L1).length c1)
 have q0 := A0.2.at 0 rfl
 have q1 := Cells.f A0.2 0
 obtain ⟨b7, hB⟩ : ∃ b, (w4).heap.size = b := ⟨_, rfl⟩
 rw [hB] at A1 A2 q0 q1
 obtain ⟨w5, hV⟩ : ∃ W', World.setCell (World.alloc w4 (.cells #[.slice none 0 0] 32)) ⟨b7, 0, none⟩ (.slice p1 (L1).length c1) = W' := ⟨_, rfl⟩
 rw [hV] at A1 A2
 have T7 := Lib.hid (show Cells w5 b7 #[.slice p1 (L1).length c1] from by simpa using A1)
 have g1 := A2
 clear A0 A1 A2
 have HP1 := Lib.hid (HP1.out.grow g1)
 have G := Lib.hid (G.out.trans g1)
 have TM := Lib.hid (TM.out.grow g1)
 have TP := Lib.hid (TP.out.grow g1)
 have TX := Lib.hid (TX.out.grow g1)
 clear g1
 have s7 := T7.out.at 0 rfl
 by_cases he : e1 = 0
 rotate_left
 ·have he0 : (e1 != 0) = true := by simp [he]
  have hl : L1.length = 0 := by
   have h0 : usOf L1 = [] := by
    rcases HS1.out with ⟨_, _, h⟩ | ⟨_, _, _, h⟩ | ⟨_, _, h, _⟩
    ·exact h
    ·exact h
    ·exact absurd h he
   have := congrArg List.length h0
   simpa [usOf] using this
  have hl0 : ((L1.length : Int) == 0) = true := by simp [hl]
  clear he hl
  go_wp2_with fail
  try rw [Exit.noGoto_ret]
  go_ret
  exact ⟨_, rfl, G.out, rfl⟩
 have he0 : (e1 != 0) = false := by simp [he]
 have HX : RowKit.Hid (MoveOK M x ∧ stuckB (usOf L) x = false ∧ usOf L1 = beginX M (usOf L) x) := Lib.hid (by
  rcases HS1.out with ⟨_, h, _⟩ | ⟨_, _, h, _⟩ | ⟨h1, h2, _, h3⟩
  ·omega
  ·omega
  ·exact ⟨h1.1, h2, h3⟩)
 have HMO := Lib.hid HX.out.1
 have HO1 := Lib.hid (show PlcOK M (usOf L1) from by rw [HX.out.2.2]; exact begin_ok HMO.out HPK.out)
 have HK1 := Lib.hid HO1.out.fewP
 clear he
 have m0 := mc0 TM.out _ (Gr.refl _)
 have m1 := mc1 TM.out _ (Gr.refl _)
 have m2 := mc2 TM.out _ (Gr.refl _)
 have m3 := mc3 TM.out _ (Gr.refl _)
 have m4 := mc4 TM.out _ (Gr.refl _)
 have m5 := mc5 TM.out _ (Gr.refl _)
 have m6 := mc6 TM.out _ (Gr.refl _)
 have m7 := mc7 TM.out _ (Gr.refl _)
 have m8 := mc8 TM.out _ (Gr.refl _)
 have m9 := mc9 TM.out _ (Gr.refl _)
 have m10 := mc10 TM.out _ (Gr.refl _)
 have x0 : World.cell? _ ⟨_, 0, none⟩ = some (.int .i64 x.item) := (TX.out).at 0 rfl
 have x1 : World.cell? _ ⟨_, 1, none⟩ = some (.int .i64 x.frm) := (TX.out).at 1 rfl
 have x2 : World.cell? _ ⟨_, 2, none⟩ = some (.int .i64 x.to) := (TX.out).at 2 rfl
 go_wp2_with fail
 clear m0 m1 m2 m3 m4 m5 m6 m7 m8 m9 m10
 clear x0 x1 x2 q0 q1 hB hV s7 he0
 refine (mv_Finish w5 (HT0.out.grow G.out) P M p1 c1 L1 x (HM0.out.grow G.out) HF.out HP1.out HK1.out).mono ?_
 rintro _ w6 ⟨_, rfl, g1, e2, p2, c2, L2, rfl, hp2, hs2⟩
 have HP2 := Lib.hid hp2
 have HY : RowKit.Hid (e2 = 0 ∧ usOf L2 = finishX (beginX M (usOf L) x) x) := Lib.hid (by
  rw [← HX.out.2.2]
  rcases hs2 with ⟨h, _⟩ | ⟨_, h, _⟩ | ⟨_, _, h1, h2⟩
  ·exact absurd ⟨HMO.out, HO1.out⟩ h
  ·rw [HX.out.2.2, begin_finish HMO.out HPK.out HX.out.2.1] at h; cases h
  ·exact ⟨h1, h2⟩)
 obtain ⟨rfl, -⟩ := HY.out
 have HUR := Lib.hid HY.out.2
 have HO2 := Lib.hid (show PlcOK M (usOf L2) from by rw [HUR.out]; exact finish_ok HMO.out (begin_ok HMO.out HPK.out))
 have HK2 := Lib.hid HO2.out.fewP
 clear hp2 hs2 HY
 have G := Lib.hid (G.out.trans g1)
 have TM := Lib.hid (TM.out.grow g1)
 have TP := Lib.hid (TP.out.grow g1)
 have TX := Lib.hid (TX.out.grow g1)
 have T7 := Lib.hid (T7.out.grow g1)
 have HP1 := Lib.hid (HP1.out.grow g1)
 clear g1
 unfold plcV
 have A0 := Cells.new w6 #[.slice none 0 0] 32
 have A1 := A0.2.set 0 (.slice p2 (L2).length c2)
 have A2 := A0.1.set (Nat.lt_irrefl _) (i := 0) (.slice p2 (L2).length c2)
 have q0 := A0.2.at 0 rfl
 have q1 := Cells.f A0.2 0
 obtain ⟨b9, hB⟩ : ∃ b, (w6).heap.size = b := ⟨_, rfl⟩
 rw [hB] at A1 A2 q0 q1
 obtain ⟨w7, hV⟩ : ∃ W', World.setCell (World.alloc w6 (.cells #[.slice none 0 0] 32)) ⟨b9, 0, none⟩ (.slice p2 (L2).length c2) = W' := ⟨_, rfl⟩
 rw [hV] at A1 A2
 have T9 := Lib.hid (show Cells w7 b9 #[.slice p2 (L2).length c2] from by simpa using A1)
 have g1 := A2
 clear A0 A1 A2
 have HP2 := Lib.hid (HP2.out.grow g1)
 have G := Lib.hid (G.out.trans g1)
 have TM := Lib.hid (TM.out.grow g1)
 have TP := Lib.hid (TP.out.grow g1)
 have TX := Lib.hid (TX.out.grow g1)
 have T7 := Lib.hid (T7.out.grow g1)
 have HP1 := Lib.hid (HP1.out.grow g1)
 clear g1
 have m0 := mc0 TM.out _ (Gr.refl _)
 have m1 := mc1 TM.out _ (Gr.refl _)
 have m2 := mc2 TM.out _ (Gr.refl _)
 have m3 := mc3 TM.out _ (Gr.refl _)
 have m4 := mc4 TM.out _ (Gr.refl _)
 have m5 := mc5 TM.out _ (Gr.refl _)
 have m6 := mc6 TM.out _ (Gr.refl _)
 have m7 := mc7 TM.out _ (Gr.refl _)
 have m8 := mc8 TM.out _ (Gr.refl _)
 have m9 := mc9 TM.out _ (Gr.refl _)
 have m10 := mc10 TM.out _ (Gr.refl _)
 have s7 := T7.out.at 0 rfl
 go_wp2_with fail
 clear m0 m1 m2 m3 m4 m5 m6 m7 m8 m9 m10
 clear s7 q0 q1 hB hV
 refine (plc_Valid w7 P M p1 c1 L1 (HM0.out.grow G.out) HF.out (HT0.out.grow G.out) HP1.out HK1.out.k).mono ?_
 rintro _ w8 ⟨r8, rfl, g1, h8⟩
 rcases h8.cases with ⟨rfl, _⟩ | ⟨_, k1⟩
 rotate_left
 ·exact absurd (HO1.out) k1
 clear h8
 have G := Lib.hid (G.out.trans g1)
 have TM := Lib.hid (TM.out.grow g1)
 have TP := Lib.hid (TP.out.grow g1)
 have TX := Lib.hid (TX.out.grow g1)
 have T7 := Lib.hid (T7.out.grow g1)
 have HP1 := Lib.hid (HP1.out.grow g1)
 have T9 := Lib.hid (T9.out.grow g1)
 have HP2 := Lib.hid (HP2.out.grow g1)
 clear g1
 have m0 := mc0 TM.out _ (Gr.refl _)
 have m1 := mc1 TM.out _ (Gr.refl _)
 have m2 := mc2 TM.out _ (Gr.refl _)
 have m3 := mc3 TM.out _ (Gr.refl _)
 have m4 := mc4 TM.out _ (Gr.refl _)
 have m5 := mc5 TM.out _ (Gr.refl _)
 have m6 := mc6 TM.out _ (Gr.refl _)
 have m7 := mc7 TM.out _ (Gr.refl _)
 have m8 := mc8 TM.out _ (Gr.refl _)
 have m9 := mc9 TM.out _ (Gr.refl _)
 have m10 := mc10 TM.out _ (Gr.refl _)
 have s7 := T9.out.at 0 rfl
 go_wp2_with fail
 clear m0 m1 m2 m3 m4 m5 m6 m7 m8 m9 m10
 clear s7
 refine (plc_Valid w8 P M p2 c2 L2 (HM0.out.grow G.out) HF.out (HT0.out.grow G.out) HP2.out HK2.out.k).mono ?_
 rintro _ w9 ⟨r9, rfl, g1, h9⟩
 rcases h9.cases with ⟨rfl, _⟩ | ⟨_, k1⟩
 rotate_left
 ·exact absurd (HO2.out) k1
 clear h9
 have G := Lib.hid (G.out.trans g1)
 have TM := Lib.hid (TM.out.grow g1)
 have TP := Lib.hid (TP.out.grow g1)
 have TX := Lib.hid (TX.out.grow g1)
 have T7 := Lib.hid (T7.out.grow g1)
 have HP1 := Lib.hid (HP1.out.grow g1)
 have T9 := Lib.hid (T9.out.grow g1)
 have HP2 := Lib.hid (HP2.out.grow g1)
 clear g1
 have HP := Lib.hid (HP0.out.grow G.out)
 go_wp2_with fail
 go_loopw [11] (fun i w' => ∃ k : Nat, i = .int .i64 ((k : Int) + 1) ∧ k ≤ M.items.length ∧ Gr w9 w') (fun i _ => M.items.length + 1 - (RowKit.intOf i).toNat)
 case atStart => exact ⟨0, rfl, Nat.zero_le _, Gr.refl _⟩
 case round =>
  obtain ⟨k, rfl, hk, hg⟩ := hrel
  have GL := Lib.hid hg
  clear hg
  have m5 := mc5 (TM.out.grow GL.out) _ (Gr.refl _)
  by_cases hlt : k < M.items.length
  ·have hlt' : (k : Int) + 1 ≤ (M.items.length : Int) := by omega
   go_wp2_with fail
   clear m5
   go_loopw [12] (fun i w' => ∃ y : Nat, i = .int .i64 ((y : Int) + 1) ∧ y ≤ M.machs.length ∧ Gr w9 w') (fun i _ => M.machs.length + 1 - (RowKit.intOf i).toNat)
   case atStart => exact ⟨0, rfl, Nat.zero_le _, GL.out⟩
   case round =>
    obtain ⟨y, rfl, hy, hg⟩ := hrel
    have GN := Lib.hid hg
    clear hg
    have m3 := mc3 (TM.out.grow GN.out) _ (Gr.refl _)
    by_cases hly : y < M.machs.length
    ·have hly' : (y : Int) + 1 ≤ (M.machs.length : Int) := by omega
     have s0 := (TP.out.grow GN.out).at 0 rfl
     go_wp2_with fail
     clear m3 s0
     refine (plc_State wr p c L _ _ (HP.out.grow GN.out) HK.out.k).mono ?_
     rintro _ w10 ⟨_, rfl, g10, rfl⟩
     have GN := Lib.hid (GN.out.trans g10)
     obtain ⟨st, hst⟩ : ∃ s, stateP (usOf L) ((k : Int) + 1) ((y : Int) + 1) = s := ⟨_, rfl⟩
     rw [hst]
     have HST := Lib.hid hst
     obtain ⟨a, b⟩ := st
     unfold stateV
     have s0 := (T9.out.grow GN.out).at 0 rfl
     clear hst g10
     go_wp2_with fail
     clear s0
     refine (plc_State w10 p2 c2 L2 _ _ (HP2.out.grow GN.out) HK2.out.k).mono ?_
     rintro _ w11 ⟨_, rfl, g11, rfl⟩
     have GN := Lib.hid (GN.out.trans g11)
     clear g11
     have x0 : World.cell? _ ⟨_, 0, none⟩ = some (.int .i64 x.item) := ((TX.out.grow GN.out)).at 0 rfl
     have x1 : World.cell? _ ⟨_, 1, none⟩ = some (.int .i64 x.frm) := ((TX.out.grow GN.out)).at 1 rfl
     have x2 : World.cell? _ ⟨_, 2, none⟩ = some (.int .i64 x.to) := ((TX.out.grow GN.out)).at 2 rfl
     have hx1 : IntKind.i64.wrap ((k : Int) + 1 + 1) = (k : Int) + 1 + 1 := by rw [IntKind.wrap_i64]; have := HF.out.1; omega
     have hy1 : IntKind.i64.wrap ((y : Int) + 1 + 1) = (y : Int) + 1 + 1 := by rw [IntKind.wrap_i64]; have := HF.out.1; omega
     by_cases hke : (k : Int) + 1 = x.item
     ·have hkb : ((k : Int) + 1 == x.item) = true := by simpa using hke
      by_cases hyf : (y : Int) + 1 = x.frm
      ·have hfb : ((y : Int) + 1 == x.frm) = true := by simpa using hyf
       have h2 : (stateP (usOf L2) ((k : Int) + 1) ((y : Int) + 1)).2 = false := by rw [HUR.out, hke]; exact whole_from HMO.out HPK.out (by omega) hyf
       obtain ⟨st2, hst2⟩ : ∃ s, stateP (usOf L2) ((k : Int) + 1) ((y : Int) + 1) = s := ⟨_, rfl⟩
       rw [hst2] at h2 ⊢
       obtain ⟨a2, b2⟩ := st2
       obtain rfl : b2 = false := h2
       clear hst2 hyf
       unfold stateV
       clear hke
       go_wp2_with fail
       exact ⟨⟨y + 1, by go_num, by omega, GN.out⟩, by simp [RowKit.intOf]; omega⟩
      ·have hfb : ((y : Int) + 1 == x.frm) = false := by simpa using hyf
       by_cases hyt : (y : Int) + 1 = x.to
       ·have htb : ((y : Int) + 1 == x.to) = true := by simpa using hyt
        rw [show stateP (usOf L2) ((k : Int) + 1) ((y : Int) + 1) = (0, true) from by rw [HUR.out, hke]; exact whole_to HMO.out HPK.out (by omega) hyt]
        clear hyt hyf
        unfold stateV
        clear hke
        go_wp2_with fail
        exact ⟨⟨y + 1, by go_num, by omega, GN.out⟩, by simp [RowKit.intOf]; omega⟩
       ·have htb : ((y : Int) + 1 == x.to) = false := by simpa using hyt
        have HYF := Lib.hid hyf
        have HYT := Lib.hid hyt
        clear hyf hyt
        rw [show stateP (usOf L2) ((k : Int) + 1) ((y : Int) + 1) = (a, b) from by rw [HUR.out, whole_else HMO.out HPK.out (fun q => HYF.out q.2) (fun q => HYT.out q.2)]; exact HST.out]
        have hae : (a != a) = false := by simp
        have hbe : (b != b) = false := by simp
        unfold stateV
        clear hke
        go_wp2_with fail
        exact ⟨⟨y + 1, by go_num, by omega, GN.out⟩, by simp [RowKit.intOf]; omega⟩
     ·have hkb : ((k : Int) + 1 == x.item) = false := by simpa using hke
      have HKE := Lib.hid hke
      rw [show stateP (usOf L2) ((k : Int) + 1) ((y : Int) + 1) = (a, b) from by rw [HUR.out, whole_else HMO.out HPK.out (fun q => HKE.out q.1) (fun q => HKE.out q.1)]; exact HST.out]
      have hae : (a != a) = false := by simp
      have hbe : (b != b) = false := by simp
      unfold stateV
      clear hke
      go_wp2_with fail
      exact ⟨⟨y + 1, by go_num, by omega, GN.out⟩, by simp [RowKit.intOf]; omega⟩
    ·obtain rfl : y = M.machs.length := by omega
     have hlz : (M.machs.length : Int) < (M.machs.length : Int) + 1 := by omega
     have hx1 : IntKind.i64.wrap ((k : Int) + 1 + 1) = (k : Int) + 1 + 1 := by rw [IntKind.wrap_i64]; have := HF.out.1; omega
     go_wp2_with fail
     exact ⟨⟨k + 1, by go_num, by omega, GN.out⟩, by simp [RowKit.intOf]; omega⟩
  ·obtain rfl : k = M.items.length := by omega
   have hlz : (M.items.length : Int) < (M.items.length : Int) + 1 := by omega
   go_wp2_with fail
   go_ret
   exact ⟨_, rfl, G.out.trans GL.out, rfl⟩
end Go.Proofs.YtnlocdijdfclcaaGreatDoor

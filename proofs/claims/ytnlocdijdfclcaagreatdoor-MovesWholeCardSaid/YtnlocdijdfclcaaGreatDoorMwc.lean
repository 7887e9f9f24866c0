/-
  Effects of moves: Finish of the document and of the reference.
  Effects of moves: Finish of the reference.
-/
import Derived.Test.YtnlocdijdfclcaaGreatDoorMwa
namespace Go.Proofs.YtnlocdijdfclcaaGreatDoor
open Go.RowKit Go.Lib Lex
set_option linter.unusedVariables false
set_option linter.unusedSimpArgs false

theorem finish1_drop {M : Mdl} {X : Plc} {x : MvM} (h : PlcOK M X) : dropP X x.item x.frm = finish1 X x := by
 unfold finish1
 split
 ·rfl
 ·next h0 =>
  have h1 : x.frm = 0 := Classical.not_not.1 h0
  rw [h1, drop_zero h]
set_option maxRecDepth 100000 in
set_option maxHeartbeats 3200000 in
theorem mv_Finish (w : World) (ht : Tab w) (P : Ptrs) (M : Mdl) (p : Option Addr) (c : Nat) (L : List RowU) (x : MvM) (hm : MdlAt w P M) (hf : Few M) (hp : PlcAt w p c L) (hk : FewP (usOf L)) :
  Calls Tryz.prog 10 #[.agg (mcells P M), plcV p c L, .agg (moveV x)] w (Ret w fun r w' => EffR (FinS M (usOf L) x) r w') := by
 have HM0 := Lib.hid hm
 have HP0 := Lib.hid hp
 have HF := Lib.hid hf
 have HT0 := Lib.hid ht
 have FK := Lib.hid hk.k
 have F9 := Lib.hid (show ∀ l ∈ usOf L, l.length ≤ 900 from fun l hl => by have := hk.2 l hl; omega)
 have FN := Lib.hid (show (usOf L).length ≤ 24 ∧ ∀ l ∈ usOf L, l.length ≤ 24 from hk)
 have B0 := Cells.new w (mcells P M) 29
 have B1 := Cells.new (w.alloc (.cells (mcells P M) 29)) #[.slice p L.length c] 32
 have B2 := Cells.new ((w.alloc (.cells (mcells P M) 29)).alloc (.cells #[.slice p L.length c] 32)) (moveV x) 34
 have B3 := Cells.new (((w.alloc (.cells (mcells P M) 29)).alloc (.cells #[.slice p L.length c] 32)).alloc (.cells (moveV x) 34)) #[.slice none 0 0] 32
 simp only [World.size_alloc] at B1 B2 B3
 have m0 := mc0 B0.2 _ (B1.1.trans (B2.1.trans B3.1))
 have m1 := mc1 B0.2 _ (B1.1.trans (B2.1.trans B3.1))
 have m2 := mc2 B0.2 _ (B1.1.trans (B2.1.trans B3.1))
 have m3 := mc3 B0.2 _ (B1.1.trans (B2.1.trans B3.1))
 have m4 := mc4 B0.2 _ (B1.1.trans (B2.1.trans B3.1))
 have m5 := mc5 B0.2 _ (B1.1.trans (B2.1.trans B3.1))
 have m6 := mc6 B0.2 _ (B1.1.trans (B2.1.trans B3.1))
 have m7 := mc7 B0.2 _ (B1.1.trans (B2.1.trans B3.1))
 have m8 := mc8 B0.2 _ (B1.1.trans (B2.1.trans B3.1))
 have m9 := mc9 B0.2 _ (B1.1.trans (B2.1.trans B3.1))
 have m10 := mc10 B0.2 _ (B1.1.trans (B2.1.trans B3.1))
 have x0 : World.cell? _ ⟨_, 0, none⟩ = some (.int .i64 x.item) := ((B2.2.grow B3.1)).at 0 rfl
 have x1 : World.cell? _ ⟨_, 1, none⟩ = some (.int .i64 x.frm) := ((B2.2.grow B3.1)).at 1 rfl
 have x2 : World.cell? _ ⟨_, 2, none⟩ = some (.int .i64 x.to) := ((B2.2.grow B3.1)).at 2 rfl
 have H := Lib.hid (show _ ∧ _ ∧ _ ∧ _ ∧ _ from ⟨B0.1.trans (B1.1.trans (B2.1.trans B3.1)), B0.2.grow (B1.1.trans (B2.1.trans B3.1)), B1.2.grow (B2.1.trans B3.1), B2.2.grow B3.1, B3.2⟩)
 clear B0 B1 B2 B3 hm hp hf ht hk
 unfold mcells moveV at H m0 m1 m2 m3 m4 m5 m6 m7 m8 m9 m10 x0 x1 x2
 unfold mcells moveV plcV
 go_enter Tryz.func10, Tryz.ntmps10
 go_wp2_with fail
 clear m0 m1 m2 m3 m4 m5 m6 m7 m8 m9 m10 x0 x1 x2
 generalize hbr : w.heap.size + 1 + 1 + 1 = br at H ⊢
 generalize hbx : w.heap.size + 1 + 1 = bx at H ⊢
 generalize hbp : w.heap.size + 1 = bp at H ⊢
 generalize hbm : w.heap.size = bm at H ⊢
 have HNE := Lib.hid (show bm ≠ bp ∧ bx ≠ bp ∧ br ≠ bp by omega)
 have HBR := Lib.hid (show ¬ br < w.heap.size by omega)
 have HBP := Lib.hid (show ¬ bp < w.heap.size by omega)
 clear hbr hbx hbp hbm
 generalize (((w.alloc _).alloc _).alloc _).alloc _ = W at H ⊢
 have G := Lib.hid (show Gr w W from H.out.1)
 have TM := Lib.hid (show Cells W bm (mcells P M) from H.out.2.1)
 have TP := Lib.hid (show Cells W bp #[.slice p L.length c] from H.out.2.2.1)
 have TX := Lib.hid (show Cells W bx (moveV x) from H.out.2.2.2.1)
 have T6 := Lib.hid (show Cells W br #[.slice none 0 0] from H.out.2.2.2.2)
 clear H
 refine (mv_Valid W P M x (HM0.out.grow G.out) HF.out (HT0.out.grow G.out)).mono ?_
 rintro _ w1 ⟨r1, rfl, g1, h⟩
 have G := Lib.hid (G.out.trans g1)
 have TM := Lib.hid (TM.out.grow g1)
 have TP := Lib.hid (TP.out.grow g1)
 have TX := Lib.hid (TX.out.grow g1)
 have T6 := Lib.hid (T6.out.grow g1)
 clear g1
 rcases h.cases with ⟨rfl, k1⟩ | ⟨rfl, k1⟩
 rotate_left
 ·have HV := Lib.hid k1
  clear h k1
  have q0 := T6.out.at 0 rfl
  have q1 := Cells.f T6.out 0
  go_wp2_with fail
  have hT := T6.out.set 0 (.slice none 0 0)
  have hG := G.out.set HBR.out (i := 0) (.slice none 0 0)
  clear q0 q1
  generalize World.setCell _ _ _ = W4 at hT hG ⊢
  have y0 := hT.at 0 rfl
  try rw [Exit.noGoto_ret]
  refine bodyPost_ret (by simp [results, Tryz.results10, go_sem, y0]; rfl) rfl ?_
  exact ⟨_, rfl, hG, 1, none, 0, [], rfl, plc_none _, .inl ⟨fun h => HV.out h.1, rfl, rfl⟩⟩
 have HV := Lib.hid k1
 clear h k1
 have m0 := mc0 TM.out _ (Gr.refl _)
 have m1 := mc1 TM.out _ (Gr.refl _)
 have m2 := mc2 TM.out _ (Gr.refl _)
 have m3 := mc3 TM.out _ (Gr.refl _)
 have m4 := mc4 TM.out _ (Gr.refl _)
 have m5 := mc5 TM.out _ (Gr.refl _)
 have m6 := mc6 TM.out _ (Gr.refl _)
 have m7 := mc7 TM.out _ (Gr.refl _)
 have m8 := mc8 TM.out _ (Gr.refl _)
 have m9 := mc9 TM.out _ (Gr.refl _)
 have m10 := mc10 TM.out _ (Gr.refl _)
 have s0 := TP.out.at 0 rfl
 go_wp2_with fail
 clear m0 m1 m2 m3 m4 m5 m6 m7 m8 m9 m10
 clear s0
 refine (plc_Valid w1 P M p c L (HM0.out.grow G.out) HF.out (HT0.out.grow G.out) (HP0.out.grow G.out) FK.out).mono ?_
 rintro _ w2 ⟨r2, rfl, g1, h⟩
 have G := Lib.hid (G.out.trans g1)
 have TM := Lib.hid (TM.out.grow g1)
 have TP := Lib.hid (TP.out.grow g1)
 have TX := Lib.hid (TX.out.grow g1)
 have T6 := Lib.hid (T6.out.grow g1)
 clear g1
 rcases h.cases with ⟨rfl, k1⟩ | ⟨rfl, k1⟩
 rotate_left
 ·have HPK := Lib.hid k1
  clear h k1
  have q0 := T6.out.at 0 rfl
  have q1 := Cells.f T6.out 0
  go_wp2_with fail
  have hT := T6.out.set 0 (.slice none 0 0)
  have hG := G.out.set HBR.out (i := 0) (.slice none 0 0)
  clear q0 q1
  generalize World.setCell _ _ _ = W4 at hT hG ⊢
  have y0 := hT.at 0 rfl
  try rw [Exit.noGoto_ret]
  refine bodyPost_ret (by simp [results, Tryz.results10, go_sem, y0]; rfl) rfl ?_
  exact ⟨_, rfl, hG, 1, none, 0, [], rfl, plc_none _, .inl ⟨fun h => HPK.out h.2, rfl, rfl⟩⟩
 have HPK := Lib.hid k1
 clear h k1
 have s0 := TP.out.at 0 rfl
 have x0 : World.cell? _ ⟨_, 0, none⟩ = some (.int .i64 x.item) := (TX.out).at 0 rfl
 have x1 : World.cell? _ ⟨_, 1, none⟩ = some (.int .i64 x.frm) := (TX.out).at 1 rfl
 have x2 : World.cell? _ ⟨_, 2, none⟩ = some (.int .i64 x.to) := (TX.out).at 2 rfl
 clear s0 x0 x1 x2
 have m5 := mc5 TM.out _ (Gr.refl _)
 have s0 := TP.out.at 0 rfl
 have x0 : World.cell? _ ⟨_, 0, none⟩ = some (.int .i64 x.item) := (TX.out).at 0 rfl
 have x1 : World.cell? _ ⟨_, 1, none⟩ = some (.int .i64 x.frm) := (TX.out).at 1 rfl
 have x2 : World.cell? _ ⟨_, 2, none⟩ = some (.int .i64 x.to) := (TX.out).at 2 rfl
 obtain ⟨k, it, hxk, hit, hkd, _, _, _, hjob⟩ := move_facts HV.out
 have hkl := (List.getElem?_eq_some_iff.1 hit).1
 obtain ⟨bi, oi, it', hpi, hit', hci⟩ := item_at (HM0.out.grow G.out).items rfl hkl
 obtain rfl : it = it' := Option.some.inj (hit.symm.trans hit')
 rw [hpi] at m5
 have y1 := (hci _ (Gr.refl _)).2.1
 have hil : (k : Int) < (M.items.length : Int) := by omega
 have hwj : IntKind.i64.wrap (x.item - 1) = (k : Int) := by rw [IntKind.wrap_i64]; have := HM0.out.big.2.2.2.2.2.1; omega
 have HKD := Lib.hid hkd
 have HJB := Lib.hid hjob
 obtain ⟨tk, htk⟩ : ∃ t, (it.kind == 2) = t := ⟨_, rfl⟩
 have HTK := Lib.hid htk
 clear hit hit' hci hpi hkd hjob hxk
 cases tk
 ·have HWT := Lib.hid (show wantM M x = 0 from by unfold wantM; rw [HKD.out]; rw [if_neg (by simpa using HTK.out)])
  go_wp2_with fail
  clear m5 s0 x0 x1 x2 y1 hil hwj
  refine (mv_has w2 p c L x.item x.to 1 (HP0.out.grow G.out) FK.out).mono ?_
  rintro _ w3 ⟨_, rfl, g1, rfl⟩
  have G := Lib.hid (G.out.trans g1)
  have TM := Lib.hid (TM.out.grow g1)
  have TP := Lib.hid (TP.out.grow g1)
  have TX := Lib.hid (TX.out.grow g1)
  have T6 := Lib.hid (T6.out.grow g1)
  clear g1
  obtain ⟨hb, hh⟩ : ∃ b, hasP (usOf L) x.item x.to 1 = b := ⟨_, rfl⟩
  rw [hh]
  have HH := Lib.hid hh
  clear hh
  have s0 := TP.out.at 0 rfl
  have x0 : World.cell? _ ⟨_, 0, none⟩ = some (.int .i64 x.item) := (TX.out).at 0 rfl
  have x1 : World.cell? _ ⟨_, 1, none⟩ = some (.int .i64 x.frm) := (TX.out).at 1 rfl
  have x2 : World.cell? _ ⟨_, 2, none⟩ = some (.int .i64 x.to) := (TX.out).at 2 rfl
  cases hb
  ·have q0 := T6.out.at 0 rfl
   have q1 := Cells.f T6.out 0
   go_wp2_with fail
   have hT := T6.out.set 0 (.slice none 0 0)
   have hG := G.out.set HBR.out (i := 0) (.slice none 0 0)
   clear q0 q1
   generalize World.setCell _ _ _ = W4 at hT hG ⊢
   have y0 := hT.at 0 rfl
   try rw [Exit.noGoto_ret]
   refine bodyPost_ret (by simp [results, Tryz.results10, go_sem, y0]; rfl) rfl ?_
   exact ⟨_, rfl, hG, 9, none, 0, [], rfl, plc_none _, .inr (.inl ⟨⟨HV.out, HPK.out⟩, by unfold stuckF; rw [HH.out]; rfl, rfl, rfl⟩)⟩
  go_wp2_with fail
  clear s0 x0 x1 x2
  refine (mv_has w3 p c L x.item x.frm 0 (HP0.out.grow G.out) FK.out).mono ?_
  rintro _ w4 ⟨_, rfl, g1, rfl⟩
  have G := Lib.hid (G.out.trans g1)
  have TM := Lib.hid (TM.out.grow g1)
  have TP := Lib.hid (TP.out.grow g1)
  have TX := Lib.hid (TX.out.grow g1)
  have T6 := Lib.hid (T6.out.grow g1)
  clear g1
  obtain ⟨hc, hh⟩ : ∃ b, hasP (usOf L) x.item x.frm 0 = b := ⟨_, rfl⟩
  rw [hh]
  have HH2 := Lib.hid (show hasP (usOf L) x.item x.frm (wantM M x) = hc from by rw [HWT.out, hh])
  clear hh
  cases hc
  ·have q0 := T6.out.at 0 rfl
   have q1 := Cells.f T6.out 0
   go_wp2_with fail
   have hT := T6.out.set 0 (.slice none 0 0)
   have hG := G.out.set HBR.out (i := 0) (.slice none 0 0)
   clear q0 q1
   generalize World.setCell _ _ _ = W4 at hT hG ⊢
   have y0 := hT.at 0 rfl
   try rw [Exit.noGoto_ret]
   refine bodyPost_ret (by simp [results, Tryz.results10, go_sem, y0]; rfl) rfl ?_
   exact ⟨_, rfl, hG, 9, none, 0, [], rfl, plc_none _, .inr (.inl ⟨⟨HV.out, HPK.out⟩, by unfold stuckF; rw [HH2.out]; simp, rfl, rfl⟩)⟩
  have HS := Lib.hid (show stuckF M (usOf L) x = false from by unfold stuckF; rw [HH.out, HH2.out]; rfl)
  have s0 := TP.out.at 0 rfl
  have x0 : World.cell? _ ⟨_, 0, none⟩ = some (.int .i64 x.item) := (TX.out).at 0 rfl
  have x1 : World.cell? _ ⟨_, 1, none⟩ = some (.int .i64 x.frm) := (TX.out).at 1 rfl
  have x2 : World.cell? _ ⟨_, 2, none⟩ = some (.int .i64 x.to) := (TX.out).at 2 rfl
  go_wp2_with fail
  clear s0 x0 x1 x2
  refine (plc_DropN _ p c L x.item x.frm (HP0.out.grow G.out) FK.out).mono ?_
  rintro _ w6 ⟨_, rfl, g1, p1, c1, L1, rfl, hpl, hu, hnew⟩
  have HPL := Lib.hid hpl
  have HU0 := Lib.hid hu
  have HNW := Lib.hid hnew
  have HLP := Lib.hid TP.out.lt
  have HLR := Lib.hid T6.out.lt
  clear hpl hu hnew
  have G := Lib.hid (G.out.trans g1)
  have TM := Lib.hid (TM.out.grow g1)
  have TP := Lib.hid (TP.out.grow g1)
  have TX := Lib.hid (TX.out.grow g1)
  have T6 := Lib.hid (T6.out.grow g1)
  clear g1
  have q0 := TP.out.at 0 rfl
  have q1 := Cells.f TP.out 0
  unfold plcV
  have TP' := TP.out.set 0 (.slice p1 (L1).length c1)
  have HP := Lib.hid (HPL.out.off (b := bp) (i := 0) (u := .slice p1 (L1).length c1) HNW.out HLP.out)
  have TM := Lib.hid (TM.out.upd (upd_set w6 bp 0 (.slice p1 (L1).length c1)) HNE.out.1)
  have TX := Lib.hid (TX.out.upd (upd_set w6 bp 0 (.slice p1 (L1).length c1)) HNE.out.2.1)
  have T6 := Lib.hid (T6.out.upd (upd_set w6 bp 0 (.slice p1 (L1).length c1)) HNE.out.2.2)
  have G := Lib.hid (G.out.set HBP.out (i := 0) (.slice p1 (L1).length c1))
  have TP := Lib.hid (show Cells ((w6).setCell ⟨bp, 0, none⟩ (.slice p1 (L1).length c1)) bp #[.slice p1 (L1).length c1] from by simpa using TP')
  clear TP' HPL HLP
  obtain ⟨w7, hV⟩ : ∃ W', World.setCell w6 ⟨bp, 0, none⟩ (.slice p1 (L1).length c1) = W' := ⟨_, rfl⟩
  rw [hV] at HP TM TX T6 G TP
  have HU1 := Lib.hid (show usOf L1 = finish1 (usOf L) x from HU0.out.trans (finish1_drop HPK.out))
  have x0 : World.cell? _ ⟨_, 0, none⟩ = some (.int .i64 x.item) := (TX.out).at 0 rfl
  have x1 : World.cell? _ ⟨_, 1, none⟩ = some (.int .i64 x.frm) := (TX.out).at 1 rfl
  have x2 : World.cell? _ ⟨_, 2, none⟩ = some (.int .i64 x.to) := (TX.out).at 2 rfl
  by_cases h0 : x.to = 0
  ·have h0b : (x.to != 0) = false := by simp [h0]
   have H0 := Lib.hid h0b
   clear h0
   have s0 := TP.out.at 0 rfl
   have r0 := T6.out.at 0 rfl
   have r1 := Cells.f T6.out 0
   go_wp2_with fail
   clear s0 x0 x1 x2 r0 r1 q0 q1 hV
   have hT := T6.out.set 0 (.slice p1 (L1).length c1)
   have hG := G.out.set HBR.out (i := 0) (.slice p1 (L1).length c1)
   have hP := HP.out.off (b := br) (i := 0) (u := .slice p1 (L1).length c1) HNW.out HLR.out
   generalize World.setCell _ ⟨br, 0, none⟩ _ = W9 at hT hG hP ⊢
   have y0 := hT.at 0 rfl
   try rw [Exit.noGoto_ret]
   refine bodyPost_ret (by simp [results, Tryz.results10, go_sem, y0]; rfl) rfl ?_
   exact ⟨_, rfl, hG, 0, p1, c1, L1, rfl, hP, .inr (.inr ⟨⟨HV.out, HPK.out⟩, HS.out, rfl, (HU1.out.trans (by unfold finishX; rw [if_neg (by simpa using H0.out)]))⟩)⟩
  ·have h0b : (x.to != 0) = true := by simp [h0]
   have H0 := Lib.hid h0b
   clear h0
   have HO1 := Lib.hid (show PlcOK M (usOf L1) from by rw [HU1.out]; exact finish1_ok HV.out HPK.out)
   have HW1 := Lib.hid HO1.out.fewP
   have s0 := TP.out.at 0 rfl
   go_wp2_with fail
   clear s0 x0 x1 x2 q0 q1 hV
   refine (plc_PutN _ p1 c1 L1 x.item x.to 0 HP.out HW1.out.k (fun l hl => by have := HW1.out.2 l hl; omega)).mono ?_
   rintro _ w8 ⟨_, rfl, g1, p2, c2, L2, rfl, hpl, hu, hnew⟩
   have HPL := Lib.hid hpl
   have HU2 := Lib.hid hu
   have HNW := Lib.hid hnew
   have HLP := Lib.hid TP.out.lt
   have HLR := Lib.hid T6.out.lt
   clear hpl hu hnew
   have G := Lib.hid (G.out.trans g1)
   have TM := Lib.hid (TM.out.grow g1)
   have TP := Lib.hid (TP.out.grow g1)
   have TX := Lib.hid (TX.out.grow g1)
   have T6 := Lib.hid (T6.out.grow g1)
   clear g1
   have q0 := TP.out.at 0 rfl
   have q1 := Cells.f TP.out 0
   unfold plcV
   have TP' := TP.out.set 0 (.slice p2 (L2).length c2)
   have HP := Lib.hid (HPL.out.off (b := bp) (i := 0) (u := .slice p2 (L2).length c2) HNW.out HLP.out)
   have TM := Lib.hid (TM.out.upd (upd_set w8 bp 0 (.slice p2 (L2).length c2)) HNE.out.1)
   have TX := Lib.hid (TX.out.upd (upd_set w8 bp 0 (.slice p2 (L2).length c2)) HNE.out.2.1)
   have T6 := Lib.hid (T6.out.upd (upd_set w8 bp 0 (.slice p2 (L2).length c2)) HNE.out.2.2)
   have G := Lib.hid (G.out.set HBP.out (i := 0) (.slice p2 (L2).length c2))
   have TP := Lib.hid (show Cells ((w8).setCell ⟨bp, 0, none⟩ (.slice p2 (L2).length c2)) bp #[.slice p2 (L2).length c2] from by simpa using TP')
   clear TP' HPL HLP
   obtain ⟨w9, hV⟩ : ∃ W', World.setCell w8 ⟨bp, 0, none⟩ (.slice p2 (L2).length c2) = W' := ⟨_, rfl⟩
   rw [hV] at HP TM TX T6 G TP
   have s0 := TP.out.at 0 rfl
   have r0 := T6.out.at 0 rfl
   have r1 := Cells.f T6.out 0
   go_wp2_with fail
   clear s0 r0 r1 q0 q1 hV
   have hT := T6.out.set 0 (.slice p2 (L2).length c2)
   have hG := G.out.set HBR.out (i := 0) (.slice p2 (L2).length c2)
   have hP := HP.out.off (b := br) (i := 0) (u := .slice p2 (L2).length c2) HNW.out HLR.out
   generalize World.setCell _ ⟨br, 0, none⟩ _ = W9 at hT hG hP ⊢
   have y0 := hT.at 0 rfl
   try rw [Exit.noGoto_ret]
   refine bodyPost_ret (by simp [results, Tryz.results10, go_sem, y0]; rfl) rfl ?_
   exact ⟨_, rfl, hG, 0, p2, c2, L2, rfl, hP, .inr (.inr ⟨⟨HV.out, HPK.out⟩, HS.out, rfl, (HU2.out.trans (by unfold finishX; rw [if_pos (by simpa using H0.out), HU1.out]))⟩)⟩
 ·have HWT := Lib.hid (show wantM M x = 2 from by unfold wantM; rw [HKD.out]; rw [if_pos (by simpa using HTK.out)])
  go_wp2_with fail
  clear m5 s0 x0 x1 x2 y1 hil hwj
  refine (mv_has w2 p c L x.item x.to 1 (HP0.out.grow G.out) FK.out).mono ?_
  rintro _ w3 ⟨_, rfl, g1, rfl⟩
  have G := Lib.hid (G.out.trans g1)
  have TM := Lib.hid (TM.out.grow g1)
  have TP := Lib.hid (TP.out.grow g1)
  have TX := Lib.hid (TX.out.grow g1)
  have T6 := Lib.hid (T6.out.grow g1)
  clear g1
  obtain ⟨hb, hh⟩ : ∃ b, hasP (usOf L) x.item x.to 1 = b := ⟨_, rfl⟩
  rw [hh]
  have HH := Lib.hid hh
  clear hh
  have s0 := TP.out.at 0 rfl
  have x0 : World.cell? _ ⟨_, 0, none⟩ = some (.int .i64 x.item) := (TX.out).at 0 rfl
  have x1 : World.cell? _ ⟨_, 1, none⟩ = some (.int .i64 x.frm) := (TX.out).at 1 rfl
  have x2 : World.cell? _ ⟨_, 2, none⟩ = some (.int .i64 x.to) := (TX.out).at 2 rfl
  cases hb
  ·have q0 := T6.out.at 0 rfl
   have q1 := Cells.f T6.out 0
   go_wp2_with fail
   have hT := T6.out.set 0 (.slice none 0 0)
   have hG := G.out.set HBR.out (i := 0) (.slice none 0 0)
   clear q0 q1
   generalize World.setCell _ _ _ = W4 at hT hG ⊢
   have y0 := hT.at 0 rfl
   try rw [Exit.noGoto_ret]
   refine bodyPost_ret (by simp [results, Tryz.results10, go_sem, y0]; rfl) rfl ?_
   exact ⟨_, rfl, hG, 9, none, 0, [], rfl, plc_none _, .inr (.inl ⟨⟨HV.out, HPK.out⟩, by unfold stuckF; rw [HH.out]; rfl, rfl, rfl⟩)⟩
  go_wp2_with fail
  clear s0 x0 x1 x2
  refine (mv_has w3 p c L x.item x.frm 2 (HP0.out.grow G.out) FK.out).mono ?_
  rintro _ w4 ⟨_, rfl, g1, rfl⟩
  have G := Lib.hid (G.out.trans g1)
  have TM := Lib.hid (TM.out.grow g1)
  have TP := Lib.hid (TP.out.grow g1)
  have TX := Lib.hid (TX.out.grow g1)
  have T6 := Lib.hid (T6.out.grow g1)
  clear g1
  obtain ⟨hc, hh⟩ : ∃ b, hasP (usOf L) x.item x.frm 2 = b := ⟨_, rfl⟩
  rw [hh]
  have HH2 := Lib.hid (show hasP (usOf L) x.item x.frm (wantM M x) = hc from by rw [HWT.out, hh])
  clear hh
  cases hc
  ·have q0 := T6.out.at 0 rfl
   have q1 := Cells.f T6.out 0
   go_wp2_with fail
   have hT := T6.out.set 0 (.slice none 0 0)
   have hG := G.out.set HBR.out (i := 0) (.slice none 0 0)
   clear q0 q1
   generalize World.setCell _ _ _ = W4 at hT hG ⊢
   have y0 := hT.at 0 rfl
   try rw [Exit.noGoto_ret]
   refine bodyPost_ret (by simp [results, Tryz.results10, go_sem, y0]; rfl) rfl ?_
   exact ⟨_, rfl, hG, 9, none, 0, [], rfl, plc_none _, .inr (.inl ⟨⟨HV.out, HPK.out⟩, by unfold stuckF; rw [HH2.out]; simp, rfl, rfl⟩)⟩
  have HS := Lib.hid (show stuckF M (usOf L) x = false from by unfold stuckF; rw [HH.out, HH2.out]; rfl)
  have s0 := TP.out.at 0 rfl
  have x0 : World.cell? _ ⟨_, 0, none⟩ = some (.int .i64 x.item) := (TX.out).at 0 rfl
  have x1 : World.cell? _ ⟨_, 1, none⟩ = some (.int .i64 x.frm) := (TX.out).at 1 rfl
  have x2 : World.cell? _ ⟨_, 2, none⟩ = some (.int .i64 x.to) := (TX.out).at 2 rfl
  go_wp2_with fail
  clear s0 x0 x1 x2
  refine (plc_DropN _ p c L x.item x.frm (HP0.out.grow G.out) FK.out).mono ?_
  rintro _ w6 ⟨_, rfl, g1, p1, c1, L1, rfl, hpl, hu, hnew⟩
  have HPL := Lib.hid hpl
  have HU0 := Lib.hid hu
  have HNW := Lib.hid hnew
  have HLP := Lib.hid TP.out.lt
  have HLR := Lib.hid T6.out.lt
  clear hpl hu hnew
  have G := Lib.hid (G.out.trans g1)
  have TM := Lib.hid (TM.out.grow g1)
  have TP := Lib.hid (TP.out.grow g1)
  have TX := Lib.hid (TX.out.grow g1)
  have T6 := Lib.hid (T6.out.grow g1)
  clear g1
  have q0 := TP.out.at 0 rfl
  have q1 := Cells.f TP.out 0
  unfold plcV
  have TP' := TP.out.set 0 (.slice p1 (L1).length c1)
  have HP := Lib.hid (HPL.out.off (b := bp) (i := 0) (u := .slice p1 (L1).length c1) HNW.out HLP.out)
  have TM := Lib.hid (TM.out.upd (upd_set w6 bp 0 (.slice p1 (L1).length c1)) HNE.out.1)
  have TX := Lib.hid (TX.out.upd (upd_set w6 bp 0 (.slice p1 (L1).length c1)) HNE.out.2.1)
  have T6 := Lib.hid (T6.out.upd (upd_set w6 bp 0 (.slice p1 (L1).length c1)) HNE.out.2.2)
  have G := Lib.hid (G.out.set HBP.out (i := 0) (.slice p1 (L1).length c1))
  have TP := Lib.hid (show Cells ((w6).setCell ⟨bp, 0, none⟩ (.slice p1 (L1).length c1)) bp #[.slice p1 (L1).length c1] from by simpa using TP')
  clear TP' HPL HLP
  obtain ⟨w7, hV⟩ : ∃ W', World.setCell w6 ⟨bp, 0, none⟩ (.slice p1 (L1).length c1) = W' := ⟨_, rfl⟩
  rw [hV] at HP TM TX T6 G TP
  have HU1 := Lib.hid (show usOf L1 = finish1 (usOf L) x from HU0.out.trans (finish1_drop HPK.out))
  have x0 : World.cell? _ ⟨_, 0, none⟩ = some (.int .i64 x.item) := (TX.out).at 0 rfl
  have x1 : World.cell? _ ⟨_, 1, none⟩ = some (.int .i64 x.frm) := (TX.out).at 1 rfl
  have x2 : World.cell? _ ⟨_, 2, none⟩ = some (.int .i64 x.to) := (TX.out).at 2 rfl
  by_cases h0 : x.to = 0
  ·have h0b : (x.to != 0) = false := by simp [h0]
   have H0 := Lib.hid h0b
   clear h0
   have s0 := TP.out.at 0 rfl
   have r0 := T6.out.at 0 rfl
   have r1 := Cells.f T6.out 0
   go_wp2_with fail
   clear s0 x0 x1 x2 r0 r1 q0 q1 hV
   have hT := T6.out.set 0 (.slice p1 (L1).length c1)
   have hG := G.out.set HBR.out (i := 0) (.slice p1 (L1).length c1)
   have hP := HP.out.off (b := br) (i := 0) (u := .slice p1 (L1).length c1) HNW.out HLR.out
   generalize World.setCell _ ⟨br, 0, none⟩ _ = W9 at hT hG hP ⊢
   have y0 := hT.at 0 rfl
   try rw [Exit.noGoto_ret]
   refine bodyPost_ret (by simp [results, Tryz.results10, go_sem, y0]; rfl) rfl ?_
   exact ⟨_, rfl, hG, 0, p1, c1, L1, rfl, hP, .inr (.inr ⟨⟨HV.out, HPK.out⟩, HS.out, rfl, (HU1.out.trans (by unfold finishX; rw [if_neg (by simpa using H0.out)]))⟩)⟩
  ·have h0b : (x.to != 0) = true := by simp [h0]
   have H0 := Lib.hid h0b
   clear h0
   have HO1 := Lib.hid (show PlcOK M (usOf L1) from by rw [HU1.out]; exact finish1_ok HV.out HPK.out)
   have HW1 := Lib.hid HO1.out.fewP
   have s0 := TP.out.at 0 rfl
   go_wp2_with fail
   clear s0 x0 x1 x2 q0 q1 hV
   refine (plc_PutN _ p1 c1 L1 x.item x.to 0 HP.out HW1.out.k (fun l hl => by have := HW1.out.2 l hl; omega)).mono ?_
   rintro _ w8 ⟨_, rfl, g1, p2, c2, L2, rfl, hpl, hu, hnew⟩
   have HPL := Lib.hid hpl
   have HU2 := Lib.hid hu
   have HNW := Lib.hid hnew
   have HLP := Lib.hid TP.out.lt
   have HLR := Lib.hid T6.out.lt
   clear hpl hu hnew
   have G := Lib.hid (G.out.trans g1)
   have TM := Lib.hid (TM.out.grow g1)
   have TP := Lib.hid (TP.out.grow g1)
   have TX := Lib.hid (TX.out.grow g1)
   have T6 := Lib.hid (T6.out.grow g1)
   clear g1
   have q0 := TP.out.at 0 rfl
   have q1 := Cells.f TP.out 0
   unfold plcV
   have TP' := TP.out.set 0 (.slice p2 (L2).length c2)
   have HP := Lib.hid (HPL.out.off (b := bp) (i := 0) (u := .slice p2 (L2).length c2) HNW.out HLP.out)
   have TM := Lib.hid (TM.out.upd (upd_set w8 bp 0 (.slice p2 (L2).length c2)) HNE.out.1)
   have TX := Lib.hid (TX.out.upd (upd_set w8 bp 0 (.slice p2 (L2).length c2)) HNE.out.2.1)
   have T6 := Lib.hid (T6.out.upd (upd_set w8 bp 0 (.slice p2 (L2).length c2)) HNE.out.2.2)
   have G := Lib.hid (G.out.set HBP.out (i := 0) (.slice p2 (L2).length c2))
   have TP := Lib.hid (show Cells ((w8).setCell ⟨bp, 0, none⟩ (.slice p2 (L2).length c2)) bp #[.slice p2 (L2).length c2] from by simpa using TP')
   clear TP' HPL HLP
   obtain ⟨w9, hV⟩ : ∃ W', World.setCell w8 ⟨bp, 0, none⟩ (.slice p2 (L2).length c2) = W' := ⟨_, rfl⟩
   rw [hV] at HP TM TX T6 G TP
   have s0 := TP.out.at 0 rfl
   have r0 := T6.out.at 0 rfl
   have r1 := Cells.f T6.out 0
   go_wp2_with fail
   clear s0 r0 r1 q0 q1 hV
   have hT := T6.out.set 0 (.slice p2 (L2).length c2)
   have hG := G.out.set HBR.out (i := 0) (.slice p2 (L2).length c2)
   have hP := HP.out.off (b := br) (i := 0) (u := .slice p2 (L2).length c2) HNW.out HLR.out
   generalize World.setCell _ ⟨br, 0, none⟩ _ = W9 at hT hG hP ⊢
   have y0 := hT.at 0 rfl
   try rw [Exit.noGoto_ret]
   refine bodyPost_ret (by simp [results, Tryz.results10, go_sem, y0]; rfl) rfl ?_
   exact ⟨_, rfl, hG, 0, p2, c2, L2, rfl, hP, .inr (.inr ⟨⟨HV.out, HPK.out⟩, HS.out, rfl, (HU2.out.trans (by unfold finishX; rw [if_pos (by simpa using H0.out), HU1.out]))⟩)⟩
end Go.Proofs.YtnlocdijdfclcaaGreatDoor
namespace Go.Proofs.YtnlocdijdfclcaaGreatDoor
open Go.RowKit Go.Lib Lex
set_option linter.unusedVariables false
set_option linter.unusedSimpArgs false

theorem move_one {M : Mdl} {x : MvM} (h : MoveOK M x) (h0 : x.to = 0) : x.frm ≠ 0 := by
 obtain ⟨h1, h2, it, hit, hf, hok⟩ := h.item
 have hon : ∀ n ∈ it.on, 1 ≤ n ∧ n ≤ (M.machs.length : Int) := fun n hn => by
  obtain ⟨i, hi⟩ := List.getElem?_of_mem hn
  exact (hok.2.1.2 i n hi).1
 have hfree : ∀ n, freeI M it n = true → 1 ≤ n := fun n hn => by
  unfold freeI at hn
  simp only [Bool.and_eq_true, decide_eq_true_eq] at hn
  exact hn.1.1.1
 unfold fitsI at hf
 rw [Bool.and_eq_true] at hf
 have hs := hf.1
 unfold shapeB at hs
 intro e
 split at hs
 ·simp only [Bool.or_eq_true, Bool.and_eq_true, beq_iff_eq, List.contains_eq_mem, decide_eq_true_eq] at hs
  rcases hs with ⟨_, hs⟩ | ⟨hs, _⟩
  ·have := hfree _ hs; omega
  ·have := hon _ hs; omega
 ·simp only [Bool.and_eq_true, List.contains_eq_mem, decide_eq_true_eq] at hs
  have := hon _ hs.1
  omega
set_option maxRecDepth 100000 in
set_option maxHeartbeats 3200000 in
theorem ref_Finish (w : World) (ht : Tab w) (P : Ptrs) (M : Mdl) (p : Option Addr) (c : Nat) (L : List RowU) (x : MvM) (hm : MdlAt w P M) (hf : Few M) (hp : PlcAt w p c L) (hk : FewP (usOf L)) :
  Calls Tryz.prog 11 #[.agg (mcells P M), plcV p c L, .agg (moveV x)] w (Ret w fun r w' => EffR (FinS M (usOf L) x) r w') := by
 have HM0 := Lib.hid hm
 have HP0 := Lib.hid hp
 have HF := Lib.hid hf
 have HT0 := Lib.hid ht
 have FK := Lib.hid hk.k
 have F9 := Lib.hid (show ∀ l ∈ usOf L, l.length ≤ 900 from fun l hl => by have := hk.2 l hl; omega)
 have FN := Lib.hid (show (usOf L).length ≤ 24 ∧ ∀ l ∈ usOf L, l.length ≤ 24 from hk)
 have B0 := Cells.new w (mcells P M) 29
 have B1 := Cells.new (w.alloc (.cells (mcells P M) 29)) #[.slice p L.length c] 32
 have B2 := Cells.new ((w.alloc (.cells (mcells P M) 29)).alloc (.cells #[.slice p L.length c] 32)) (moveV x) 34
 have B3 := Cells.new (((w.alloc (.cells (mcells P M) 29)).alloc (.cells #[.slice p L.length c] 32)).alloc (.cells (moveV x) 34)) #[.slice none 0 0] 32
 simp only [World.size_alloc] at B1 B2 B3
 have m0 := mc0 B0.2 _ (B1.1.trans (B2.1.trans B3.1))
 have m1 := mc1 B0.2 _ (B1.1.trans (B2.1.trans B3.1))
 have m2 := mc2 B0.2 _ (B1.1.trans (B2.1.trans B3.1))
 have m3 := mc3 B0.2 _ (B1.1.trans (B2.1.trans B3.1))
 have m4 := mc4 B0.2 _ (B1.1.trans (B2.1.trans B3.1))
 have m5 := mc5 B0.2 _ (B1.1.trans (B2.1.trans B3.1))
 have m6 := mc6 B0.2 _ (B1.1.trans (B2.1.trans B3.1))
 have m7 := mc7 B0.2 _ (B1.1.trans (B2.1.trans B3.1))
 have m8 := mc8 B0.2 _ (B1.1.trans (B2.1.trans B3.1))
 have m9 := mc9 B0.2 _ (B1.1.trans (B2.1.trans B3.1))
 have m10 := mc10 B0.2 _ (B1.1.trans (B2.1.trans B3.1))
 have x0 : World.cell? _ ⟨_, 0, none⟩ = some (.int .i64 x.item) := ((B2.2.grow B3.1)).at 0 rfl
 have x1 : World.cell? _ ⟨_, 1, none⟩ = some (.int .i64 x.frm) := ((B2.2.grow B3.1)).at 1 rfl
 have x2 : World.cell? _ ⟨_, 2, none⟩ = some (.int .i64 x.to) := ((B2.2.grow B3.1)).at 2 rfl
 have H := Lib.hid (show _ ∧ _ ∧ _ ∧ _ ∧ _ from ⟨B0.1.trans (B1.1.trans (B2.1.trans B3.1)), B0.2.grow (B1.1.trans (B2.1.trans B3.1)), B1.2.grow (B2.1.trans B3.1), B2.2.grow B3.1, B3.2⟩)
 clear B0 B1 B2 B3 hm hp hf ht hk
 unfold mcells moveV at H m0 m1 m2 m3 m4 m5 m6 m7 m8 m9 m10 x0 x1 x2
 unfold mcells moveV plcV
 go_enter Tryz.func11, Tryz.ntmps11
 go_wp2_with fail
 clear m0 m1 m2 m3 m4 m5 m6 m7 m8 m9 m10 x0 x1 x2
 generalize hbr : w.heap.size + 1 + 1 + 1 = br at H ⊢
 generalize hbx : w.heap.size + 1 + 1 = bx at H ⊢
 generalize hbp : w.heap.size + 1 = bp at H ⊢
 generalize hbm : w.heap.size = bm at H ⊢
 have HNE := Lib.hid (show bm ≠ bp ∧ bx ≠ bp ∧ br ≠ bp by omega)
 have HBR := Lib.hid (show ¬ br < w.heap.size by omega)
 have HBP := Lib.hid (show ¬ bp < w.heap.size by omega)
 clear hbr hbx hbp hbm
 generalize (((w.alloc _).alloc _).alloc _).alloc _ = W at H ⊢
 have G := Lib.hid (show Gr w W from H.out.1)
 have TM := Lib.hid (show Cells W bm (mcells P M) from H.out.2.1)
 have TP := Lib.hid (show Cells W bp #[.slice p L.length c] from H.out.2.2.1)
 have TX := Lib.hid (show Cells W bx (moveV x) from H.out.2.2.2.1)
 have T6 := Lib.hid (show Cells W br #[.slice none 0 0] from H.out.2.2.2.2)
 clear H
 refine (ref_Valid23 W P M x (HM0.out.grow G.out) HF.out).mono ?_
 rintro _ w1 ⟨r1, rfl, g1, h⟩
 have G := Lib.hid (G.out.trans g1)
 have TM := Lib.hid (TM.out.grow g1)
 have TP := Lib.hid (TP.out.grow g1)
 have TX := Lib.hid (TX.out.grow g1)
 have T6 := Lib.hid (T6.out.grow g1)
 clear g1
 rcases h.cases with ⟨rfl, k1⟩ | ⟨rfl, k1⟩
 rotate_left
 ·have HV := Lib.hid k1
  clear h k1
  have q0 := T6.out.at 0 rfl
  have q1 := Cells.f T6.out 0
  go_wp2_with fail
  have hT := T6.out.set 0 (.slice none 0 0)
  have hG := G.out.set HBR.out (i := 0) (.slice none 0 0)
  clear q0 q1
  generalize World.setCell _ _ _ = W4 at hT hG ⊢
  have y0 := hT.at 0 rfl
  try rw [Exit.noGoto_ret]
  refine bodyPost_ret (by simp [results, Tryz.results11, go_sem, y0]; rfl) rfl ?_
  exact ⟨_, rfl, hG, 1, none, 0, [], rfl, plc_none _, .inl ⟨fun h => HV.out h.1, rfl, rfl⟩⟩
 have HV := Lib.hid k1
 clear h k1
 have m0 := mc0 TM.out _ (Gr.refl _)
 have m1 := mc1 TM.out _ (Gr.refl _)
 have m2 := mc2 TM.out _ (Gr.refl _)
 have m3 := mc3 TM.out _ (Gr.refl _)
 have m4 := mc4 TM.out _ (Gr.refl _)
 have m5 := mc5 TM.out _ (Gr.refl _)
 have m6 := mc6 TM.out _ (Gr.refl _)
 have m7 := mc7 TM.out _ (Gr.refl _)
 have m8 := mc8 TM.out _ (Gr.refl _)
 have m9 := mc9 TM.out _ (Gr.refl _)
 have m10 := mc10 TM.out _ (Gr.refl _)
 have s0 := TP.out.at 0 rfl
 go_wp2_with fail
 clear m0 m1 m2 m3 m4 m5 m6 m7 m8 m9 m10
 clear s0
 refine (ref_Valid20 w1 P M p c L (HM0.out.grow G.out) HF.out (HP0.out.grow G.out) FK.out).mono ?_
 rintro _ w2 ⟨r2, rfl, g1, h⟩
 have G := Lib.hid (G.out.trans g1)
 have TM := Lib.hid (TM.out.grow g1)
 have TP := Lib.hid (TP.out.grow g1)
 have TX := Lib.hid (TX.out.grow g1)
 have T6 := Lib.hid (T6.out.grow g1)
 clear g1
 rcases h.cases with ⟨rfl, k1⟩ | ⟨rfl, k1⟩
 rotate_left
 ·have HPK := Lib.hid k1
  clear h k1
  have q0 := T6.out.at 0 rfl
  have q1 := Cells.f T6.out 0
  go_wp2_with fail
  have hT := T6.out.set 0 (.slice none 0 0)
  have hG := G.out.set HBR.out (i := 0) (.slice none 0 0)
  clear q0 q1
  generalize World.setCell _ _ _ = W4 at hT hG ⊢
  have y0 := hT.at 0 rfl
  try rw [Exit.noGoto_ret]
  refine bodyPost_ret (by simp [results, Tryz.results11, go_sem, y0]; rfl) rfl ?_
  exact ⟨_, rfl, hG, 1, none, 0, [], rfl, plc_none _, .inl ⟨fun h => HPK.out h.2, rfl, rfl⟩⟩
 have HPK := Lib.hid k1
 clear h k1
 have s0 := TP.out.at 0 rfl
 have x0 : World.cell? _ ⟨_, 0, none⟩ = some (.int .i64 x.item) := (TX.out).at 0 rfl
 have x1 : World.cell? _ ⟨_, 1, none⟩ = some (.int .i64 x.frm) := (TX.out).at 1 rfl
 have x2 : World.cell? _ ⟨_, 2, none⟩ = some (.int .i64 x.to) := (TX.out).at 2 rfl
 clear s0 x0 x1 x2
 have m5 := mc5 TM.out _ (Gr.refl _)
 have s0 := TP.out.at 0 rfl
 have x0 : World.cell? _ ⟨_, 0, none⟩ = some (.int .i64 x.item) := (TX.out).at 0 rfl
 have x1 : World.cell? _ ⟨_, 1, none⟩ = some (.int .i64 x.frm) := (TX.out).at 1 rfl
 have x2 : World.cell? _ ⟨_, 2, none⟩ = some (.int .i64 x.to) := (TX.out).at 2 rfl
 obtain ⟨k, it, hxk, hit, hkd, _, _, _, hjob⟩ := move_facts HV.out
 have hkl := (List.getElem?_eq_some_iff.1 hit).1
 obtain ⟨bi, oi, it', hpi, hit', hci⟩ := item_at (HM0.out.grow G.out).items rfl hkl
 obtain rfl : it = it' := Option.some.inj (hit.symm.trans hit')
 rw [hpi] at m5
 have y1 := (hci _ (Gr.refl _)).2.1
 have hil : (k : Int) < (M.items.length : Int) := by omega
 have hwj : IntKind.i64.wrap (x.item - 1) = (k : Int) := by rw [IntKind.wrap_i64]; have := HM0.out.big.2.2.2.2.2.1; omega
 have HKD := Lib.hid hkd
 have HJB := Lib.hid hjob
 obtain ⟨tk, htk⟩ : ∃ t, (it.kind == 2) = t := ⟨_, rfl⟩
 have HTK := Lib.hid htk
 clear hit hit' hci hpi hkd hjob hxk
 cases tk
 ·have HWT := Lib.hid (show wantM M x = 0 from by unfold wantM; rw [HKD.out]; rw [if_neg (by simpa using HTK.out)])
  by_cases h0 : x.to = 0
  ·have h1 := move_one HV.out h0
   have h0b : (x.to != 0) = false := by simp [h0]
   have h1b : (x.frm != 0) = true := by simp [h1]
   have HZ := Lib.hid (show (x.frm == 0) = false from by simp [h1])
   have HT0b := Lib.hid h0b
   have HH := Lib.hid (show hasP (usOf L) x.item x.to 1 = true from by unfold hasP; simp [h0])
   clear h0 h1
   go_wp2_with fail
   clear m5 s0 x0 x1 x2 y1 hil hwj
   refine (ref_is w2 p c L x.item x.frm 0 (HP0.out.grow G.out) FK.out).mono ?_
   rintro _ w4 ⟨_, rfl, g1, rfl⟩
   have G := Lib.hid (G.out.trans g1)
   have TM := Lib.hid (TM.out.grow g1)
   have TP := Lib.hid (TP.out.grow g1)
   have TX := Lib.hid (TX.out.grow g1)
   have T6 := Lib.hid (T6.out.grow g1)
   clear g1
   obtain ⟨hc, hh⟩ : ∃ b, ((stateP (usOf L) x.item x.frm).2 && (stateP (usOf L) x.item x.frm).1 == 0) = b := ⟨_, rfl⟩
   rw [hh]
   have HH2 := Lib.hid (show hasP (usOf L) x.item x.frm 0 = hc from by unfold hasP; rw [(HZ).out, hh]; rfl)
   clear hh
   have s0 := TP.out.at 0 rfl
   have x0 : World.cell? _ ⟨_, 0, none⟩ = some (.int .i64 x.item) := (TX.out).at 0 rfl
   have x1 : World.cell? _ ⟨_, 1, none⟩ = some (.int .i64 x.frm) := (TX.out).at 1 rfl
   have x2 : World.cell? _ ⟨_, 2, none⟩ = some (.int .i64 x.to) := (TX.out).at 2 rfl
   cases hc
   ·have q0 := T6.out.at 0 rfl
    have q1 := Cells.f T6.out 0
    go_wp2_with fail
    have hT := T6.out.set 0 (.slice none 0 0)
    have hG := G.out.set HBR.out (i := 0) (.slice none 0 0)
    clear q0 q1
    generalize World.setCell _ _ _ = W4 at hT hG ⊢
    have y0 := hT.at 0 rfl
    try rw [Exit.noGoto_ret]
    refine bodyPost_ret (by simp [results, Tryz.results11, go_sem, y0]; rfl) rfl ?_
    exact ⟨_, rfl, hG, 9, none, 0, [], rfl, plc_none _, .inr (.inl ⟨⟨HV.out, HPK.out⟩, by unfold stuckF; rw [HWT.out, HH2.out]; simp, rfl, rfl⟩)⟩
   have HS := Lib.hid (show stuckF M (usOf L) x = false from by unfold stuckF; rw [HWT.out, HH.out, HH2.out]; rfl)
   go_wp2_with fail
   clear s0 x0 x1 x2
   refine (ref_DropN _ p c L x.item x.frm (HP0.out.grow G.out) FK.out (item_i64 HV.out HF.out)).mono ?_
   rintro _ w6 ⟨_, rfl, g1, p1, c1, L1, rfl, hpl, hu, hnew⟩
   have HPL := Lib.hid hpl
   have HU0 := Lib.hid hu
   have HNW := Lib.hid hnew
   have HLP := Lib.hid TP.out.lt
   have HLR := Lib.hid T6.out.lt
   clear hpl hu hnew
   have G := Lib.hid (G.out.trans g1)
   have TM := Lib.hid (TM.out.grow g1)
   have TP := Lib.hid (TP.out.grow g1)
   have TX := Lib.hid (TX.out.grow g1)
   have T6 := Lib.hid (T6.out.grow g1)
   clear g1
   have q0 := TP.out.at 0 rfl
   have q1 := Cells.f TP.out 0
   unfold plcV
   have TP' := TP.out.set 0 (.slice p1 (L1).length c1)
   have HP := Lib.hid (HPL.out.off (b := bp) (i := 0) (u := .slice p1 (L1).length c1) HNW.out HLP.out)
   have TM := Lib.hid (TM.out.upd (upd_set w6 bp 0 (.slice p1 (L1).length c1)) HNE.out.1)
   have TX := Lib.hid (TX.out.upd (upd_set w6 bp 0 (.slice p1 (L1).length c1)) HNE.out.2.1)
   have T6 := Lib.hid (T6.out.upd (upd_set w6 bp 0 (.slice p1 (L1).length c1)) HNE.out.2.2)
   have G := Lib.hid (G.out.set HBP.out (i := 0) (.slice p1 (L1).length c1))
   have TP := Lib.hid (show Cells ((w6).setCell ⟨bp, 0, none⟩ (.slice p1 (L1).length c1)) bp #[.slice p1 (L1).length c1] from by simpa using TP')
   clear TP' HPL HLP
   obtain ⟨w7, hV⟩ : ∃ W', World.setCell w6 ⟨bp, 0, none⟩ (.slice p1 (L1).length c1) = W' := ⟨_, rfl⟩
   rw [hV] at HP TM TX T6 G TP
   have HU1 := Lib.hid (show usOf L1 = finish1 (usOf L) x from HU0.out.trans (finish1_drop HPK.out))
   have x0 : World.cell? _ ⟨_, 0, none⟩ = some (.int .i64 x.item) := (TX.out).at 0 rfl
   have x1 : World.cell? _ ⟨_, 1, none⟩ = some (.int .i64 x.frm) := (TX.out).at 1 rfl
   have x2 : World.cell? _ ⟨_, 2, none⟩ = some (.int .i64 x.to) := (TX.out).at 2 rfl
   have s0 := TP.out.at 0 rfl
   have r0 := T6.out.at 0 rfl
   have r1 := Cells.f T6.out 0
   go_wp2_with fail
   clear s0 x0 x1 x2 r0 r1 q0 q1 hV
   have hT := T6.out.set 0 (.slice p1 (L1).length c1)
   have hG := G.out.set HBR.out (i := 0) (.slice p1 (L1).length c1)
   have hP := HP.out.off (b := br) (i := 0) (u := .slice p1 (L1).length c1) HNW.out HLR.out
   generalize World.setCell _ ⟨br, 0, none⟩ _ = W9 at hT hG hP ⊢
   have y0 := hT.at 0 rfl
   try rw [Exit.noGoto_ret]
   refine bodyPost_ret (by simp [results, Tryz.results11, go_sem, y0]; rfl) rfl ?_
   exact ⟨_, rfl, hG, 0, p1, c1, L1, rfl, hP, .inr (.inr ⟨⟨HV.out, HPK.out⟩, HS.out, rfl, (HU1.out.trans (by unfold finishX; rw [if_neg (by simpa using HT0b.out)]))⟩)⟩
  ·have h0b : (x.to != 0) = true := by simp [h0]
   have HT0b := Lib.hid h0b
   have HZ := Lib.hid (show (x.to == 0) = false from by simp [h0])
   clear h0
   go_wp2_with fail
   clear m5 s0 x0 x1 x2 y1 hil hwj
   refine (ref_is w2 p c L x.item x.to 1 (HP0.out.grow G.out) FK.out).mono ?_
   rintro _ w3 ⟨_, rfl, g1, rfl⟩
   have G := Lib.hid (G.out.trans g1)
   have TM := Lib.hid (TM.out.grow g1)
   have TP := Lib.hid (TP.out.grow g1)
   have TX := Lib.hid (TX.out.grow g1)
   have T6 := Lib.hid (T6.out.grow g1)
   clear g1
   obtain ⟨hb, hh⟩ : ∃ b, ((stateP (usOf L) x.item x.to).2 && (stateP (usOf L) x.item x.to).1 == 1) = b := ⟨_, rfl⟩
   rw [hh]
   have HH := Lib.hid (show hasP (usOf L) x.item x.to 1 = hb from by unfold hasP; rw [(HZ).out, hh]; rfl)
   clear hh
   have s0 := TP.out.at 0 rfl
   have x0 : World.cell? _ ⟨_, 0, none⟩ = some (.int .i64 x.item) := (TX.out).at 0 rfl
   have x1 : World.cell? _ ⟨_, 1, none⟩ = some (.int .i64 x.frm) := (TX.out).at 1 rfl
   have x2 : World.cell? _ ⟨_, 2, none⟩ = some (.int .i64 x.to) := (TX.out).at 2 rfl
   cases hb
   ·have q0 := T6.out.at 0 rfl
    have q1 := Cells.f T6.out 0
    go_wp2_with fail
    have hT := T6.out.set 0 (.slice none 0 0)
    have hG := G.out.set HBR.out (i := 0) (.slice none 0 0)
    clear q0 q1
    generalize World.setCell _ _ _ = W4 at hT hG ⊢
    have y0 := hT.at 0 rfl
    try rw [Exit.noGoto_ret]
    refine bodyPost_ret (by simp [results, Tryz.results11, go_sem, y0]; rfl) rfl ?_
    exact ⟨_, rfl, hG, 9, none, 0, [], rfl, plc_none _, .inr (.inl ⟨⟨HV.out, HPK.out⟩, by unfold stuckF; rw [HH.out]; rfl, rfl, rfl⟩)⟩
   by_cases h1 : x.frm = 0
   ·have h1b : (x.frm != 0) = false := by simp [h1]
    have HH2 := Lib.hid (show hasP (usOf L) x.item x.frm (wantM M x) = true from by unfold hasP; simp [h1])
    have HF1 := Lib.hid (show usOf L = finish1 (usOf L) x from by unfold finish1; simp [h1])
    have HS := Lib.hid (show stuckF M (usOf L) x = false from by unfold stuckF; rw [HH.out, HH2.out]; rfl)
    clear h1
    have s0 := TP.out.at 0 rfl
    go_wp2_with fail
    clear s0 x0 x1 x2 h1b
    refine (ref_PutN _ p c L x.item x.to 0 (HP0.out.grow G.out) FK.out F9.out (item_i64 HV.out HF.out)).mono ?_
    rintro _ w8 ⟨_, rfl, g1, p2, c2, L2, rfl, hpl, hu, hnew⟩
    have HPL := Lib.hid hpl
    have HU2 := Lib.hid hu
    have HNW := Lib.hid hnew
    have HLP := Lib.hid TP.out.lt
    have HLR := Lib.hid T6.out.lt
    clear hpl hu hnew
    have G := Lib.hid (G.out.trans g1)
    have TM := Lib.hid (TM.out.grow g1)
    have TP := Lib.hid (TP.out.grow g1)
    have TX := Lib.hid (TX.out.grow g1)
    have T6 := Lib.hid (T6.out.grow g1)
    clear g1
    have q0 := TP.out.at 0 rfl
    have q1 := Cells.f TP.out 0
    unfold plcV
    have TP' := TP.out.set 0 (.slice p2 (L2).length c2)
    have HP := Lib.hid (HPL.out.off (b := bp) (i := 0) (u := .slice p2 (L2).length c2) HNW.out HLP.out)
    have TM := Lib.hid (TM.out.upd (upd_set w8 bp 0 (.slice p2 (L2).length c2)) HNE.out.1)
    have TX := Lib.hid (TX.out.upd (upd_set w8 bp 0 (.slice p2 (L2).length c2)) HNE.out.2.1)
    have T6 := Lib.hid (T6.out.upd (upd_set w8 bp 0 (.slice p2 (L2).length c2)) HNE.out.2.2)
    have G := Lib.hid (G.out.set HBP.out (i := 0) (.slice p2 (L2).length c2))
    have TP := Lib.hid (show Cells ((w8).setCell ⟨bp, 0, none⟩ (.slice p2 (L2).length c2)) bp #[.slice p2 (L2).length c2] from by simpa using TP')
    clear TP' HPL HLP
    obtain ⟨w9, hV⟩ : ∃ W', World.setCell w8 ⟨bp, 0, none⟩ (.slice p2 (L2).length c2) = W' := ⟨_, rfl⟩
    rw [hV] at HP TM TX T6 G TP
    have s0 := TP.out.at 0 rfl
    have r0 := T6.out.at 0 rfl
    have r1 := Cells.f T6.out 0
    go_wp2_with fail
    clear s0 r0 r1 q0 q1 hV
    have hT := T6.out.set 0 (.slice p2 (L2).length c2)
    have hG := G.out.set HBR.out (i := 0) (.slice p2 (L2).length c2)
    have hP := HP.out.off (b := br) (i := 0) (u := .slice p2 (L2).length c2) HNW.out HLR.out
    generalize World.setCell _ ⟨br, 0, none⟩ _ = W9 at hT hG hP ⊢
    have y0 := hT.at 0 rfl
    try rw [Exit.noGoto_ret]
    refine bodyPost_ret (by simp [results, Tryz.results11, go_sem, y0]; rfl) rfl ?_
    exact ⟨_, rfl, hG, 0, p2, c2, L2, rfl, hP, .inr (.inr ⟨⟨HV.out, HPK.out⟩, HS.out, rfl, (HU2.out.trans (by unfold finishX; rw [if_pos (by simpa using HT0b.out)]; exact congrArg (fun Y => putP Y x.item x.to 0) HF1.out))⟩)⟩
   ·have h1b : (x.frm != 0) = true := by simp [h1]
    have HZ := Lib.hid (show (x.frm == 0) = false from by simp [h1])
    clear h1
    go_wp2_with fail
    clear s0 x0 x1 x2
    refine (ref_is w3 p c L x.item x.frm 0 (HP0.out.grow G.out) FK.out).mono ?_
    rintro _ w4 ⟨_, rfl, g1, rfl⟩
    have G := Lib.hid (G.out.trans g1)
    have TM := Lib.hid (TM.out.grow g1)
    have TP := Lib.hid (TP.out.grow g1)
    have TX := Lib.hid (TX.out.grow g1)
    have T6 := Lib.hid (T6.out.grow g1)
    clear g1
    obtain ⟨hc, hh⟩ : ∃ b, ((stateP (usOf L) x.item x.frm).2 && (stateP (usOf L) x.item x.frm).1 == 0) = b := ⟨_, rfl⟩
    rw [hh]
    have HH2 := Lib.hid (show hasP (usOf L) x.item x.frm 0 = hc from by unfold hasP; rw [(HZ).out, hh]; rfl)
    clear hh
    have s0 := TP.out.at 0 rfl
    have x0 : World.cell? _ ⟨_, 0, none⟩ = some (.int .i64 x.item) := (TX.out).at 0 rfl
    have x1 : World.cell? _ ⟨_, 1, none⟩ = some (.int .i64 x.frm) := (TX.out).at 1 rfl
    have x2 : World.cell? _ ⟨_, 2, none⟩ = some (.int .i64 x.to) := (TX.out).at 2 rfl
    cases hc
    ·have q0 := T6.out.at 0 rfl
     have q1 := Cells.f T6.out 0
     go_wp2_with fail
     have hT := T6.out.set 0 (.slice none 0 0)
     have hG := G.out.set HBR.out (i := 0) (.slice none 0 0)
     clear q0 q1
     generalize World.setCell _ _ _ = W4 at hT hG ⊢
     have y0 := hT.at 0 rfl
     try rw [Exit.noGoto_ret]
     refine bodyPost_ret (by simp [results, Tryz.results11, go_sem, y0]; rfl) rfl ?_
     exact ⟨_, rfl, hG, 9, none, 0, [], rfl, plc_none _, .inr (.inl ⟨⟨HV.out, HPK.out⟩, by unfold stuckF; rw [HWT.out, HH2.out]; simp, rfl, rfl⟩)⟩
    have HS := Lib.hid (show stuckF M (usOf L) x = false from by unfold stuckF; rw [HWT.out, HH.out, HH2.out]; rfl)
    go_wp2_with fail
    clear s0 x0 x1 x2
    refine (ref_DropN _ p c L x.item x.frm (HP0.out.grow G.out) FK.out (item_i64 HV.out HF.out)).mono ?_
    rintro _ w6 ⟨_, rfl, g1, p1, c1, L1, rfl, hpl, hu, hnew⟩
    have HPL := Lib.hid hpl
    have HU0 := Lib.hid hu
    have HNW := Lib.hid hnew
    have HLP := Lib.hid TP.out.lt
    have HLR := Lib.hid T6.out.lt
    clear hpl hu hnew
    have G := Lib.hid (G.out.trans g1)
    have TM := Lib.hid (TM.out.grow g1)
    have TP := Lib.hid (TP.out.grow g1)
    have TX := Lib.hid (TX.out.grow g1)
    have T6 := Lib.hid (T6.out.grow g1)
    clear g1
    have q0 := TP.out.at 0 rfl
    have q1 := Cells.f TP.out 0
    unfold plcV
    have TP' := TP.out.set 0 (.slice p1 (L1).length c1)
    have HP := Lib.hid (HPL.out.off (b := bp) (i := 0) (u := .slice p1 (L1).length c1) HNW.out HLP.out)
    have TM := Lib.hid (TM.out.upd (upd_set w6 bp 0 (.slice p1 (L1).length c1)) HNE.out.1)
    have TX := Lib.hid (TX.out.upd (upd_set w6 bp 0 (.slice p1 (L1).length c1)) HNE.out.2.1)
    have T6 := Lib.hid (T6.out.upd (upd_set w6 bp 0 (.slice p1 (L1).length c1)) HNE.out.2.2)
    have G := Lib.hid (G.out.set HBP.out (i := 0) (.slice p1 (L1).length c1))
    have TP := Lib.hid (show Cells ((w6).setCell ⟨bp, 0, none⟩ (.slice p1 (L1).length c1)) bp #[.slice p1 (L1).length c1] from by simpa using TP')
    clear TP' HPL HLP
    obtain ⟨w7, hV⟩ : ∃ W', World.setCell w6 ⟨bp, 0, none⟩ (.slice p1 (L1).length c1) = W' := ⟨_, rfl⟩
    rw [hV] at HP TM TX T6 G TP
    have HU1 := Lib.hid (show usOf L1 = finish1 (usOf L) x from HU0.out.trans (finish1_drop HPK.out))
    have x0 : World.cell? _ ⟨_, 0, none⟩ = some (.int .i64 x.item) := (TX.out).at 0 rfl
    have x1 : World.cell? _ ⟨_, 1, none⟩ = some (.int .i64 x.frm) := (TX.out).at 1 rfl
    have x2 : World.cell? _ ⟨_, 2, none⟩ = some (.int .i64 x.to) := (TX.out).at 2 rfl
    have HO1 := Lib.hid (show PlcOK M (usOf L1) from by rw [HU1.out]; exact finish1_ok HV.out HPK.out)
    have HW1 := Lib.hid HO1.out.fewP
    have s0 := TP.out.at 0 rfl
    go_wp2_with fail
    clear s0 x0 x1 x2 q0 q1 hV h1b
    refine (ref_PutN _ p1 c1 L1 x.item x.to 0 HP.out HW1.out.k (fun l hl => by have := HW1.out.2 l hl; omega) (item_i64 HV.out HF.out)).mono ?_
    rintro _ w8 ⟨_, rfl, g1, p2, c2, L2, rfl, hpl, hu, hnew⟩
    have HPL := Lib.hid hpl
    have HU2 := Lib.hid hu
    have HNW := Lib.hid hnew
    have HLP := Lib.hid TP.out.lt
    have HLR := Lib.hid T6.out.lt
    clear hpl hu hnew
    have G := Lib.hid (G.out.trans g1)
    have TM := Lib.hid (TM.out.grow g1)
    have TP := Lib.hid (TP.out.grow g1)
    have TX := Lib.hid (TX.out.grow g1)
    have T6 := Lib.hid (T6.out.grow g1)
    clear g1
    have q0 := TP.out.at 0 rfl
    have q1 := Cells.f TP.out 0
    unfold plcV
    have TP' := TP.out.set 0 (.slice p2 (L2).length c2)
    have HP := Lib.hid (HPL.out.off (b := bp) (i := 0) (u := .slice p2 (L2).length c2) HNW.out HLP.out)
    have TM := Lib.hid (TM.out.upd (upd_set w8 bp 0 (.slice p2 (L2).length c2)) HNE.out.1)
    have TX := Lib.hid (TX.out.upd (upd_set w8 bp 0 (.slice p2 (L2).length c2)) HNE.out.2.1)
    have T6 := Lib.hid (T6.out.upd (upd_set w8 bp 0 (.slice p2 (L2).length c2)) HNE.out.2.2)
    have G := Lib.hid (G.out.set HBP.out (i := 0) (.slice p2 (L2).length c2))
    have TP := Lib.hid (show Cells ((w8).setCell ⟨bp, 0, none⟩ (.slice p2 (L2).length c2)) bp #[.slice p2 (L2).length c2] from by simpa using TP')
    clear TP' HPL HLP
    obtain ⟨w9, hV⟩ : ∃ W', World.setCell w8 ⟨bp, 0, none⟩ (.slice p2 (L2).length c2) = W' := ⟨_, rfl⟩
    rw [hV] at HP TM TX T6 G TP
    have s0 := TP.out.at 0 rfl
    have r0 := T6.out.at 0 rfl
    have r1 := Cells.f T6.out 0
    go_wp2_with fail
    clear s0 r0 r1 q0 q1 hV
    have hT := T6.out.set 0 (.slice p2 (L2).length c2)
    have hG := G.out.set HBR.out (i := 0) (.slice p2 (L2).length c2)
    have hP := HP.out.off (b := br) (i := 0) (u := .slice p2 (L2).length c2) HNW.out HLR.out
    generalize World.setCell _ ⟨br, 0, none⟩ _ = W9 at hT hG hP ⊢
    have y0 := hT.at 0 rfl
    try rw [Exit.noGoto_ret]
    refine bodyPost_ret (by simp [results, Tryz.results11, go_sem, y0]; rfl) rfl ?_
    exact ⟨_, rfl, hG, 0, p2, c2, L2, rfl, hP, .inr (.inr ⟨⟨HV.out, HPK.out⟩, HS.out, rfl, (HU2.out.trans (by unfold finishX; rw [if_pos (by simpa using HT0b.out)]; exact congrArg (fun Y => putP Y x.item x.to 0) HU1.out))⟩)⟩
 ·have HWT := Lib.hid (show wantM M x = 2 from by unfold wantM; rw [HKD.out]; rw [if_pos (by simpa using HTK.out)])
  by_cases h0 : x.to = 0
  ·have h1 := move_one HV.out h0
   have h0b : (x.to != 0) = false := by simp [h0]
   have h1b : (x.frm != 0) = true := by simp [h1]
   have HZ := Lib.hid (show (x.frm == 0) = false from by simp [h1])
   have HT0b := Lib.hid h0b
   have HH := Lib.hid (show hasP (usOf L) x.item x.to 1 = true from by unfold hasP; simp [h0])
   clear h0 h1
   go_wp2_with fail
   clear m5 s0 x0 x1 x2 y1 hil hwj
   refine (ref_is w2 p c L x.item x.frm 2 (HP0.out.grow G.out) FK.out).mono ?_
   rintro _ w4 ⟨_, rfl, g1, rfl⟩
   have G := Lib.hid (G.out.trans g1)
   have TM := Lib.hid (TM.out.grow g1)
   have TP := Lib.hid (TP.out.grow g1)
   have TX := Lib.hid (TX.out.grow g1)
   have T6 := Lib.hid (T6.out.grow g1)
   clear g1
   obtain ⟨hc, hh⟩ : ∃ b, ((stateP (usOf L) x.item x.frm).2 && (stateP (usOf L) x.item x.frm).1 == 2) = b := ⟨_, rfl⟩
   rw [hh]
   have HH2 := Lib.hid (show hasP (usOf L) x.item x.frm 2 = hc from by unfold hasP; rw [(HZ).out, hh]; rfl)
   clear hh
   have s0 := TP.out.at 0 rfl
   have x0 : World.cell? _ ⟨_, 0, none⟩ = some (.int .i64 x.item) := (TX.out).at 0 rfl
   have x1 : World.cell? _ ⟨_, 1, none⟩ = some (.int .i64 x.frm) := (TX.out).at 1 rfl
   have x2 : World.cell? _ ⟨_, 2, none⟩ = some (.int .i64 x.to) := (TX.out).at 2 rfl
   cases hc
   ·have q0 := T6.out.at 0 rfl
    have q1 := Cells.f T6.out 0
    go_wp2_with fail
    have hT := T6.out.set 0 (.slice none 0 0)
    have hG := G.out.set HBR.out (i := 0) (.slice none 0 0)
    clear q0 q1
    generalize World.setCell _ _ _ = W4 at hT hG ⊢
    have y0 := hT.at 0 rfl
    try rw [Exit.noGoto_ret]
    refine bodyPost_ret (by simp [results, Tryz.results11, go_sem, y0]; rfl) rfl ?_
    exact ⟨_, rfl, hG, 9, none, 0, [], rfl, plc_none _, .inr (.inl ⟨⟨HV.out, HPK.out⟩, by unfold stuckF; rw [HWT.out, HH2.out]; simp, rfl, rfl⟩)⟩
   have HS := Lib.hid (show stuckF M (usOf L) x = false from by unfold stuckF; rw [HWT.out, HH.out, HH2.out]; rfl)
   go_wp2_with fail
   clear s0 x0 x1 x2
   refine (ref_DropN _ p c L x.item x.frm (HP0.out.grow G.out) FK.out (item_i64 HV.out HF.out)).mono ?_
   rintro _ w6 ⟨_, rfl, g1, p1, c1, L1, rfl, hpl, hu, hnew⟩
   have HPL := Lib.hid hpl
   have HU0 := Lib.hid hu
   have HNW := Lib.hid hnew
   have HLP := Lib.hid TP.out.lt
   have HLR := Lib.hid T6.out.lt
   clear hpl hu hnew
   have G := Lib.hid (G.out.trans g1)
   have TM := Lib.hid (TM.out.grow g1)
   have TP := Lib.hid (TP.out.grow g1)
   have TX := Lib.hid (TX.out.grow g1)
   have T6 := Lib.hid (T6.out.grow g1)
   clear g1
   have q0 := TP.out.at 0 rfl
   have q1 := Cells.f TP.out 0
   unfold plcV
   have TP' := TP.out.set 0 (.slice p1 (L1).length c1)
   have HP := Lib.hid (HPL.out.off (b := bp) (i := 0) (u := .slice p1 (L1).length c1) HNW.out HLP.out)
   have TM := Lib.hid (TM.out.upd (upd_set w6 bp 0 (.slice p1 (L1).length c1)) HNE.out.1)
   have TX := Lib.hid (TX.out.upd (upd_set w6 bp 0 (.slice p1 (L1).length c1)) HNE.out.2.1)
   have T6 := Lib.hid (T6.out.upd (upd_set w6 bp 0 (.slice p1 (L1).length c1)) HNE.out.2.2)
   have G := Lib.hid (G.out.set HBP.out (i := 0) (.slice p1 (L1).length c1))
   have TP := Lib.hid (show Cells ((w6).setCell ⟨bp, 0, none⟩ (.slice p1 (L1).length c1)) bp #[.slice p1 (L1).length c1] from by simpa using TP')
   clear TP' HPL HLP
   obtain ⟨w7, hV⟩ : ∃ W', World.setCell w6 ⟨bp, 0, none⟩ (.slice p1 (L1).length c1) = W' := ⟨_, rfl⟩
   rw [hV] at HP TM TX T6 G TP
   have HU1 := Lib.hid (show usOf L1 = finish1 (usOf L) x from HU0.out.trans (finish1_drop HPK.out))
   have x0 : World.cell? _ ⟨_, 0, none⟩ = some (.int .i64 x.item) := (TX.out).at 0 rfl
   have x1 : World.cell? _ ⟨_, 1, none⟩ = some (.int .i64 x.frm) := (TX.out).at 1 rfl
   have x2 : World.cell? _ ⟨_, 2, none⟩ = some (.int .i64 x.to) := (TX.out).at 2 rfl
   have s0 := TP.out.at 0 rfl
   have r0 := T6.out.at 0 rfl
   have r1 := Cells.f T6.out 0
   go_wp2_with fail
   clear s0 x0 x1 x2 r0 r1 q0 q1 hV
   have hT := T6.out.set 0 (.slice p1 (L1).length c1)
   have hG := G.out.set HBR.out (i := 0) (.slice p1 (L1).length c1)
   have hP := HP.out.off (b := br) (i := 0) (u := .slice p1 (L1).length c1) HNW.out HLR.out
   generalize World.setCell _ ⟨br, 0, none⟩ _ = W9 at hT hG hP ⊢
   have y0 := hT.at 0 rfl
   try rw [Exit.noGoto_ret]
   refine bodyPost_ret (by simp [results, Tryz.results11, go_sem, y0]; rfl) rfl ?_
   exact ⟨_, rfl, hG, 0, p1, c1, L1, rfl, hP, .inr (.inr ⟨⟨HV.out, HPK.out⟩, HS.out, rfl, (HU1.out.trans (by unfold finishX; rw [if_neg (by simpa using HT0b.out)]))⟩)⟩
  ·have h0b : (x.to != 0) = true := by simp [h0]
   have HT0b := Lib.hid h0b
   have HZ := Lib.hid (show (x.to == 0) = false from by simp [h0])
   clear h0
   go_wp2_with fail
   clear m5 s0 x0 x1 x2 y1 hil hwj
   refine (ref_is w2 p c L x.item x.to 1 (HP0.out.grow G.out) FK.out).mono ?_
   rintro _ w3 ⟨_, rfl, g1, rfl⟩
   have G := Lib.hid (G.out.trans g1)
   have TM := Lib.hid (TM.out.grow g1)
   have TP := Lib.hid (TP.out.grow g1)
   have TX := Lib.hid (TX.out.grow g1)
   have T6 := Lib.hid (T6.out.grow g1)
   clear g1
   obtain ⟨hb, hh⟩ : ∃ b, ((stateP (usOf L) x.item x.to).2 && (stateP (usOf L) x.item x.to).1 == 1) = b := ⟨_, rfl⟩
   rw [hh]
   have HH := Lib.hid (show hasP (usOf L) x.item x.to 1 = hb from by unfold hasP; rw [(HZ).out, hh]; rfl)
   clear hh
   have s0 := TP.out.at 0 rfl
   have x0 : World.cell? _ ⟨_, 0, none⟩ = some (.int .i64 x.item) := (TX.out).at 0 rfl
   have x1 : World.cell? _ ⟨_, 1, none⟩ = some (.int .i64 x.frm) := (TX.out).at 1 rfl
   have x2 : World.cell? _ ⟨_, 2, none⟩ = some (.int .i64 x.to) := (TX.out).at 2 rfl
   cases hb
   ·have q0 := T6.out.at 0 rfl
    have q1 := Cells.f T6.out 0
    go_wp2_with fail
    have hT := T6.out.set 0 (.slice none 0 0)
    have hG := G.out.set HBR.out (i := 0) (.slice none 0 0)
    clear q0 q1
    generalize World.setCell _ _ _ = W4 at hT hG ⊢
    have y0 := hT.at 0 rfl
    try rw [Exit.noGoto_ret]
    refine bodyPost_ret (by simp [results, Tryz.results11, go_sem, y0]; rfl) rfl ?_
    exact ⟨_, rfl, hG, 9, none, 0, [], rfl, plc_none _, .inr (.inl ⟨⟨HV.out, HPK.out⟩, by unfold stuckF; rw [HH.out]; rfl, rfl, rfl⟩)⟩
   by_cases h1 : x.frm = 0
   ·have h1b : (x.frm != 0) = false := by simp [h1]
    have HH2 := Lib.hid (show hasP (usOf L) x.item x.frm (wantM M x) = true from by unfold hasP; simp [h1])
    have HF1 := Lib.hid (show usOf L = finish1 (usOf L) x from by unfold finish1; simp [h1])
    have HS := Lib.hid (show stuckF M (usOf L) x = false from by unfold stuckF; rw [HH.out, HH2.out]; rfl)
    clear h1
    have s0 := TP.out.at 0 rfl
    go_wp2_with fail
    clear s0 x0 x1 x2 h1b
    refine (ref_PutN _ p c L x.item x.to 0 (HP0.out.grow G.out) FK.out F9.out (item_i64 HV.out HF.out)).mono ?_
    rintro _ w8 ⟨_, rfl, g1, p2, c2, L2, rfl, hpl, hu, hnew⟩
    have HPL := Lib.hid hpl
    have HU2 := Lib.hid hu
    have HNW := Lib.hid hnew
    have HLP := Lib.hid TP.out.lt
    have HLR := Lib.hid T6.out.lt
    clear hpl hu hnew
    have G := Lib.hid (G.out.trans g1)
    have TM := Lib.hid (TM.out.grow g1)
    have TP := Lib.hid (TP.out.grow g1)
    have TX := Lib.hid (TX.out.grow g1)
    have T6 := Lib.hid (T6.out.grow g1)
    clear g1
    have q0 := TP.out.at 0 rfl
    have q1 := Cells.f TP.out 0
    unfold plcV
    have TP' := TP.out.set 0 (.slice p2 (L2).length c2)
    have HP := Lib.hid (HPL.out.off (b := bp) (i := 0) (u := .slice p2 (L2).length c2) HNW.out HLP.out)
    have TM := Lib.hid (TM.out.upd (upd_set w8 bp 0 (.slice p2 (L2).length c2)) HNE.out.1)
    have TX := Lib.hid (TX.out.upd (upd_set w8 bp 0 (.slice p2 (L2).length c2)) HNE.out.2.1)
    have T6 := Lib.hid (T6.out.upd (upd_set w8 bp 0 (.slice p2 (L2).length c2)) HNE.out.2.2)
    have G := Lib.hid (G.out.set HBP.out (i := 0) (.slice p2 (L2).length c2))
    have TP := Lib.hid (show Cells ((w8).setCell ⟨bp, 0, none⟩ (.slice p2 (L2).length c2)) bp #[.slice p2 (L2).length c2] from by simpa using TP')
    clear TP' HPL HLP
    obtain ⟨w9, hV⟩ : ∃ W', World.setCell w8 ⟨bp, 0, none⟩ (.slice p2 (L2).length c2) = W' := ⟨_, rfl⟩
    rw [hV] at HP TM TX T6 G TP
    have s0 := TP.out.at 0 rfl
    have r0 := T6.out.at 0 rfl
    have r1 := Cells.f T6.out 0
    go_wp2_with fail
    clear s0 r0 r1 q0 q1 hV
    have hT := T6.out.set 0 (.slice p2 (L2).length c2)
    have hG := G.out.set HBR.out (i := 0) (.slice p2 (L2).length c2)
    have hP := HP.out.off (b := br) (i := 0) (u := .slice p2 (L2).length c2) HNW.out HLR.out
    generalize World.setCell _ ⟨br, 0, none⟩ _ = W9 at hT hG hP ⊢
    have y0 := hT.at 0 rfl
    try rw [Exit.noGoto_ret]
    refine bodyPost_ret (by simp [results, Tryz.results11, go_sem, y0]; rfl) rfl ?_
    exact ⟨_, rfl, hG, 0, p2, c2, L2, rfl, hP, .inr (.inr ⟨⟨HV.out, HPK.out⟩, HS.out, rfl, (HU2.out.trans (by unfold finishX; rw [if_pos (by simpa using HT0b.out)]; exact congrArg (fun Y => putP Y x.item x.to 0) HF1.out))⟩)⟩
   ·have h1b : (x.frm != 0) = true := by simp [h1]
    have HZ := Lib.hid (show (x.frm == 0) = false from by simp [h1])
    clear h1
    go_wp2_with fail
    clear s0 x0 x1 x2
    refine (ref_is w3 p c L x.item x.frm 2 (HP0.out.grow G.out) FK.out).mono ?_
    rintro _ w4 ⟨_, rfl, g1, rfl⟩
    have G := Lib.hid (G.out.trans g1)
    have TM := Lib.hid (TM.out.grow g1)
    have TP := Lib.hid (TP.out.grow g1)
    have TX := Lib.hid (TX.out.grow g1)
    have T6 := Lib.hid (T6.out.grow g1)
    clear g1
    obtain ⟨hc, hh⟩ : ∃ b, ((stateP (usOf L) x.item x.frm).2 && (stateP (usOf L) x.item x.frm).1 == 2) = b := ⟨_, rfl⟩
    rw [hh]
    have HH2 := Lib.hid (show hasP (usOf L) x.item x.frm 2 = hc from by unfold hasP; rw [(HZ).out, hh]; rfl)
    clear hh
    have s0 := TP.out.at 0 rfl
    have x0 : World.cell? _ ⟨_, 0, none⟩ = some (.int .i64 x.item) := (TX.out).at 0 rfl
    have x1 : World.cell? _ ⟨_, 1, none⟩ = some (.int .i64 x.frm) := (TX.out).at 1 rfl
    have x2 : World.cell? _ ⟨_, 2, none⟩ = some (.int .i64 x.to) := (TX.out).at 2 rfl
    cases hc
    ·have q0 := T6.out.at 0 rfl
     have q1 := Cells.f T6.out 0
     go_wp2_with fail
     have hT := T6.out.set 0 (.slice none 0 0)
     have hG := G.out.set HBR.out (i := 0) (.slice none 0 0)
     clear q0 q1
     generalize World.setCell _ _ _ = W4 at hT hG ⊢
     have y0 := hT.at 0 rfl
     try rw [Exit.noGoto_ret]
     refine bodyPost_ret (by simp [results, Tryz.results11, go_sem, y0]; rfl) rfl ?_
     exact ⟨_, rfl, hG, 9, none, 0, [], rfl, plc_none _, .inr (.inl ⟨⟨HV.out, HPK.out⟩, by unfold stuckF; rw [HWT.out, HH2.out]; simp, rfl, rfl⟩)⟩
    have HS := Lib.hid (show stuckF M (usOf L) x = false from by unfold stuckF; rw [HWT.out, HH.out, HH2.out]; rfl)
    go_wp2_with fail
    clear s0 x0 x1 x2
    refine (ref_DropN _ p c L x.item x.frm (HP0.out.grow G.out) FK.out (item_i64 HV.out HF.out)).mono ?_
    rintro _ w6 ⟨_, rfl, g1, p1, c1, L1, rfl, hpl, hu, hnew⟩
    have HPL := Lib.hid hpl
    have HU0 := Lib.hid hu
    have HNW := Lib.hid hnew
    have HLP := Lib.hid TP.out.lt
    have HLR := Lib.hid T6.out.lt
    clear hpl hu hnew
    have G := Lib.hid (G.out.trans g1)
    have TM := Lib.hid (TM.out.grow g1)
    have TP := Lib.hid (TP.out.grow g1)
    have TX := Lib.hid (TX.out.grow g1)
    have T6 := Lib.hid (T6.out.grow g1)
    clear g1
    have q0 := TP.out.at 0 rfl
    have q1 := Cells.f TP.out 0
    unfold plcV
    have TP' := TP.out.set 0 (.slice p1 (L1).length c1)
    have HP := Lib.hid (HPL.out.off (b := bp) (i := 0) (u := .slice p1 (L1).length c1) HNW.out HLP.out)
    have TM := Lib.hid (TM.out.upd (upd_set w6 bp 0 (.slice p1 (L1).length c1)) HNE.out.1)
    have TX := Lib.hid (TX.out.upd (upd_set w6 bp 0 (.slice p1 (L1).length c1)) HNE.out.2.1)
    have T6 := Lib.hid (T6.out.upd (upd_set w6 bp 0 (.slice p1 (L1).length c1)) HNE.out.2.2)
    have G := Lib.hid (G.out.set HBP.out (i := 0) (.slice p1 (L1).length c1))
    have TP := Lib.hid (show Cells ((w6).setCell ⟨bp, 0, none⟩ (.slice p1 (L1).length c1)) bp #[.slice p1 (L1).length c1] from by simpa using TP')
    clear TP' HPL HLP
    obtain ⟨w7, hV⟩ : ∃ W', World.setCell w6 ⟨bp, 0, none⟩ (.slice p1 (L1).length c1) = W' := ⟨_, rfl⟩
    rw [hV] at HP TM TX T6 G TP
    have HU1 := Lib.hid (show usOf L1 = finish1 (usOf L) x from HU0.out.trans (finish1_drop HPK.out))
    have x0 : World.cell? _ ⟨_, 0, none⟩ = some (.int .i64 x.item) := (TX.out).at 0 rfl
    have x1 : World.cell? _ ⟨_, 1, none⟩ = some (.int .i64 x.frm) := (TX.out).at 1 rfl
    have x2 : World.cell? _ ⟨_, 2, none⟩ = some (.int .i64 x.to) := (TX.out).at 2 rfl
    have HO1 := Lib.hid (show PlcOK M (usOf L1) from by rw [HU1.out]; exact finish1_ok HV.out HPK.out)
    have HW1 := Lib.hid HO1.out.fewP
    have s0 := TP.out.at 0 rfl
    go_wp2_with fail
    clear s0 x0 x1 x2 q0 q1 hV h1b
    refine (ref_PutN _ p1 c1 L1 x.item x.to 0 HP.out HW1.out.k (fun l hl => by have := HW1.out.2 l hl; omega) (item_i64 HV.out HF.out)).mono ?_
    rintro _ w8 ⟨_, rfl, g1, p2, c2, L2, rfl, hpl, hu, hnew⟩
    have HPL := Lib.hid hpl
    have HU2 := Lib.hid hu
    have HNW := Lib.hid hnew
    have HLP := Lib.hid TP.out.lt
    have HLR := Lib.hid T6.out.lt
    clear hpl hu hnew
    have G := Lib.hid (G.out.trans g1)
    have TM := Lib.hid (TM.out.grow g1)
    have TP := Lib.hid (TP.out.grow g1)
    have TX := Lib.hid (TX.out.grow g1)
    have T6 := Lib.hid (T6.out.grow g1)
    clear g1
    have q0 := TP.out.at 0 rfl
    have q1 := Cells.f TP.out 0
    unfold plcV
    have TP' := TP.out.set 0 (.slice p2 (L2).length c2)
    have HP := Lib.hid (HPL.out.off (b := bp) (i := 0) (u := .slice p2 (L2).length c2) HNW.out HLP.out)
    have TM := Lib.hid (TM.out.upd (upd_set w8 bp 0 (.slice p2 (L2).length c2)) HNE.out.1)
    have TX := Lib.hid (TX.out.upd (upd_set w8 bp 0 (.slice p2 (L2).length c2)) HNE.out.2.1)
    have T6 := Lib.hid (T6.out.upd (upd_set w8 bp 0 (.slice p2 (L2).length c2)) HNE.out.2.2)
    have G := Lib.hid (G.out.set HBP.out (i := 0) (.slice p2 (L2).length c2))
    have TP := Lib.hid (show Cells ((w8).setCell ⟨bp, 0, none⟩ (.slice p2 (L2).length c2)) bp #[.slice p2 (L2).length c2] from by simpa using TP')
    clear TP' HPL HLP
    obtain ⟨w9, hV⟩ : ∃ W', World.setCell w8 ⟨bp, 0, none⟩ (.slice p2 (L2).length c2) = W' := ⟨_, rfl⟩
    rw [hV] at HP TM TX T6 G TP
    have s0 := TP.out.at 0 rfl
    have r0 := T6.out.at 0 rfl
    have r1 := Cells.f T6.out 0
    go_wp2_with fail
    clear s0 r0 r1 q0 q1 hV
    have hT := T6.out.set 0 (.slice p2 (L2).length c2)
    have hG := G.out.set HBR.out (i := 0) (.slice p2 (L2).length c2)
    have hP := HP.out.off (b := br) (i := 0) (u := .slice p2 (L2).length c2) HNW.out HLR.out
    generalize World.setCell _ ⟨br, 0, none⟩ _ = W9 at hT hG hP ⊢
    have y0 := hT.at 0 rfl
    try rw [Exit.noGoto_ret]
    refine bodyPost_ret (by simp [results, Tryz.results11, go_sem, y0]; rfl) rfl ?_
    exact ⟨_, rfl, hG, 0, p2, c2, L2, rfl, hP, .inr (.inr ⟨⟨HV.out, HPK.out⟩, HS.out, rfl, (HU2.out.trans (by unfold finishX; rw [if_pos (by simpa using HT0b.out)]; exact congrArg (fun Y => putP Y x.item x.to 0) HU1.out))⟩)⟩
end Go.Proofs.YtnlocdijdfclcaaGreatDoor

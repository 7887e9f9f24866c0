/-
  Effects of moves: has, is; Begin and Finish of both.
  Effects of moves: Begin of the document and of the reference.
-/
import Derived.Test.YtnlocdijdfclcaaGreatDoorPlt
import Derived.Test.YtnlocdijdfclcaaGreatDoorMvb
import Derived.Test.YtnlocdijdfclcaaGreatDoorPlI
import Derived.Test.YtnlocdijdfclcaaGreatDoorPlJ
namespace Go.Proofs.YtnlocdijdfclcaaGreatDoor
open Go.RowKit Go.Lib Lex
set_option linter.unusedVariables false
set_option linter.unusedSimpArgs false

set_option maxRecDepth 100000 in
set_option maxHeartbeats 800000 in
theorem mv_has (w : World) (p : Option Addr) (c : Nat) (L : List RowU) (i m s : Int) (hp : PlcAt w p c L) (hf : FewK (usOf L)) :
  Calls Tryz.prog 26 #[plcV p c L, .int .i64 i, .int .i64 m, .int .i64 s] w (Ret w fun r _ => r = .bool (hasP (usOf L) i m s)) := by
 have HF := Lib.hid hf
 have B := Cells.new w #[.slice p L.length c] 32
 have HB := Lib.hid B
 have HP := Lib.hid (hp.grow B.1)
 have p0 := B.2.at 0 rfl
 clear B hp hf
 unfold plcV
 go_enter Tryz.func26, Tryz.ntmps26
 go_wp2_with fail
 clear p0
 generalize w.heap.size = bp at HB ⊢
 generalize w.alloc _ = W at HB HP ⊢
 have G := Lib.hid HB.out.1
 clear HB
 refine (plc_State W p c L i m HP.out HF.out).mono ?_
 rintro _ w1 ⟨_, rfl, g1, rfl⟩
 have G := Lib.hid (G.out.trans g1)
 clear g1
 obtain ⟨q, hq⟩ : ∃ q, stateP (usOf L) i m = q := ⟨_, rfl⟩
 rw [hq]
 obtain ⟨a, t⟩ := q
 have HQ := Lib.hid hq
 clear hq
 unfold stateV
 dsimp only
 by_cases h0 : m = 0
 ·have h0b : (m == 0) = true := by simp [h0]
  have H0 := Lib.hid h0b
  clear h0
  go_wp2_with fail
  go_ret
  exact ⟨_, rfl, G.out, by unfold hasP; rw [H0.out]; rfl⟩
 ·have h0b : (m == 0) = false := by simp [h0]
  have H0 := Lib.hid h0b
  clear h0
  cases t
  ·go_wp2_with fail
   go_ret
   exact ⟨_, rfl, G.out, by unfold hasP; rw [H0.out, HQ.out]; rfl⟩
  ·go_wp2_with fail
   go_ret
   exact ⟨_, rfl, G.out, by unfold hasP; rw [H0.out, HQ.out]; simp⟩
set_option maxRecDepth 100000 in
set_option maxHeartbeats 800000 in
theorem ref_is (w : World) (p : Option Addr) (c : Nat) (L : List RowU) (i m s : Int) (hp : PlcAt w p c L) (hf : FewK (usOf L)) :
  Calls Tryz.prog 31 #[plcV p c L, .int .i64 i, .int .i64 m, .int .i64 s] w (Ret w fun r _ => r = .bool ((stateP (usOf L) i m).2 && (stateP (usOf L) i m).1 == s)) := by
 have HF := Lib.hid hf
 have B := Cells.new w #[.slice p L.length c] 32
 have HB := Lib.hid B
 have HP := Lib.hid (hp.grow B.1)
 have p0 := B.2.at 0 rfl
 clear B hp hf
 unfold plcV
 go_enter Tryz.func31, Tryz.ntmps31
 go_wp2_with fail
 clear p0
 generalize w.heap.size = bp at HB ⊢
 generalize w.alloc _ = W at HB HP ⊢
 have G := Lib.hid HB.out.1
 clear HB
 refine (ref_State W p c L i m HP.out HF.out).mono ?_
 rintro _ w1 ⟨_, rfl, g1, rfl⟩
 have G := Lib.hid (G.out.trans g1)
 clear g1
 obtain ⟨q, hq⟩ : ∃ q, stateP (usOf L) i m = q := ⟨_, rfl⟩
 rw [hq]
 obtain ⟨a, t⟩ := q
 have HQ := Lib.hid hq
 clear hq
 unfold stateV
 dsimp only
 cases t
 ·go_wp2_with fail
  go_ret
  exact ⟨_, rfl, G.out, by rw [HQ.out]; rfl⟩
 ·go_wp2_with fail
  go_ret
  exact ⟨_, rfl, G.out, by rw [HQ.out]; simp⟩
end Go.Proofs.YtnlocdijdfclcaaGreatDoor
namespace Go.Proofs.YtnlocdijdfclcaaGreatDoor
open Go.RowKit Go.Lib Lex
set_option linter.unusedVariables false
set_option linter.unusedSimpArgs false

theorem PlcAt.off {w : World} {n b i : Nat} {u : Value} {p : Option Addr} {c : Nat} {L : List RowU} (h : PlcAt w p c L) (hn : NewP n p L) (hb : b < n) : PlcAt (w.setCell ⟨b, i, none⟩ u) p c L :=
 plc_keep (xp := none) h hn.1 (fun z hz => (hn.2 z hz).imp id fun h a ha => .inr (h a ha)) hb (fun a ha => by cases ha)
theorem plc_PutN (w : World) (p : Option Addr) (c : Nat) (L : List RowU) (item m s : Int) (hp : PlcAt w p c L) (hf : FewK (usOf L)) (hf2 : ∀ l ∈ usOf L, l.length ≤ 900) :
  Calls Tryz.prog 27 #[plcV p c L, .int .i64 item, .int .i64 m, .int .i64 s] w (Ret w fun r w' => PlcGotN w (putP (usOf L) item m s) r w') :=
 (plc_Put w p c L item m s hp hf hf2).mono fun _ _ ⟨v, h1, h2, p', c', L', h3, h4, h5⟩ => ⟨v, h1, h2, p', c', L', h3, h4.at', h5, h4.new, fun z hz => .inr (h4.news z hz)⟩
theorem plc_DropN (w : World) (p : Option Addr) (c : Nat) (L : List RowU) (item m : Int) (hp : PlcAt w p c L) (hf : FewK (usOf L)) :
  Calls Tryz.prog 28 #[plcV p c L, .int .i64 item, .int .i64 m] w (Ret w fun r w' => PlcGotN w (dropP (usOf L) item m) r w') :=
 (plc_Drop w p c L item m hp hf).mono fun _ _ ⟨v, h1, h2, p', c', L', h3, h4, h5⟩ => ⟨v, h1, h2, p', c', L', h3, h4.at', h5, h4.new, fun z hz => .inr (h4.news z hz)⟩
theorem plc_none (w : World) : PlcAt w none 0 [] := ⟨SlL.nil w, by simp, by simp, by simp⟩
def EffR (S : Int → Plc → Prop) (r : Value) (w' : World) : Prop := ∃ e p' c' L', r = .tuple #[plcV p' c' L', .int .i64 e] ∧ PlcAt w' p' c' L' ∧ S e (usOf L')
theorem item_i64 {M : Mdl} {x : MvM} (h : MoveOK M x) (hf : Few M) : -9223372036854775808 ≤ x.item ∧ x.item ≤ 9223372036854775807 := by
 have h1 := h.item
 have := hf.1.2.2.2.2.2.1
 omega
set_option maxRecDepth 100000 in
set_option maxHeartbeats 3200000 in
theorem mv_Begin (w : World) (ht : Tab w) (P : Ptrs) (M : Mdl) (p : Option Addr) (c : Nat) (L : List RowU) (x : MvM) (hm : MdlAt w P M) (hf : Few M) (hp : PlcAt w p c L) (hk : FewP (usOf L)) :
  Calls Tryz.prog 8 #[.agg (mcells P M), plcV p c L, .agg (moveV x)] w (Ret w fun r w' => EffR (BegS M (usOf L) x) r w') := by
 have HM0 := Lib.hid hm
 have HP0 := Lib.hid hp
 have HF := Lib.hid hf
 have HT0 := Lib.hid ht
 have FK := Lib.hid hk.k
 have F9 := Lib.hid (show ∀ l ∈ usOf L, l.length ≤ 900 from fun l hl => by have := hk.2 l hl; omega)
 have FN := Lib.hid (show (usOf L).length ≤ 24 ∧ ∀ l ∈ usOf L, l.length ≤ 24 from hk)
 have B0 := Cells.new w (mcells P M) 29
 have B1 := Cells.new (w.alloc (.cells (mcells P M) 29)) #[.slice p L.length c] 32
 have B2 := Cells.new ((w.alloc (.cells (mcells P M) 29)).alloc (.cells #[.slice p L.length c] 32)) (moveV x) 34
 have B3 := Cells.new (((w.alloc (.cells (mcells P M) 29)).alloc (.cells #[.slice p L.length c] 32)).alloc (.cells (moveV x) 34)) #[.slice none 0 0] 32
 simp only [World.size_alloc] at B1 B2 B3
 have m0 := mc0 B0.2 _ (B1.1.trans (B2.1.trans B3.1))
 have m1 := mc1 B0.2 _ (B1.1.trans (B2.1.trans B3.1))
 have m2 := mc2 B0.2 _ (B1.1.trans (B2.1.trans B3.1))
 have m3 := mc3 B0.2 _ (B1.1.trans (B2.1.trans B3.1))
 have m4 := mc4 B0.2 _ (B1.1.trans (B2.1.trans B3.1))
 have m5 := mc5 B0.2 _ (B1.1.trans (B2.1.trans B3.1))
 have m6 := mc6 B0.2 _ (B1.1.trans (B2.1.trans B3.1))
 have m7 := mc7 B0.2 _ (B1.1.trans (B2.1.trans B3.1))
 have m8 := mc8 B0.2 _ (B1.1.trans (B2.1.trans B3.1))
 have m9 := mc9 B0.2 _ (B1.1.trans (B2.1.trans B3.1))
 have m10 := mc10 B0.2 _ (B1.1.trans (B2.1.trans B3.1))
 have x0 : World.cell? _ ⟨_, 0, none⟩ = some (.int .i64 x.item) := ((B2.2.grow B3.1)).at 0 rfl
 have x1 : World.cell? _ ⟨_, 1, none⟩ = some (.int .i64 x.frm) := ((B2.2.grow B3.1)).at 1 rfl
 have x2 : World.cell? _ ⟨_, 2, none⟩ = some (.int .i64 x.to) := ((B2.2.grow B3.1)).at 2 rfl
 have H := Lib.hid (show _ ∧ _ ∧ _ ∧ _ ∧ _ from ⟨B0.1.trans (B1.1.trans (B2.1.trans B3.1)), B0.2.grow (B1.1.trans (B2.1.trans B3.1)), B1.2.grow (B2.1.trans B3.1), B2.2.grow B3.1, B3.2⟩)
 clear B0 B1 B2 B3 hm hp hf ht hk
 unfold mcells moveV at H m0 m1 m2 m3 m4 m5 m6 m7 m8 m9 m10 x0 x1 x2
 unfold mcells moveV plcV
 go_enter Tryz.func8, Tryz.ntmps8
 go_wp2_with fail
 clear m0 m1 m2 m3 m4 m5 m6 m7 m8 m9 m10 x0 x1 x2
 generalize hbr : w.heap.size + 1 + 1 + 1 = br at H ⊢
 generalize hbx : w.heap.size + 1 + 1 = bx at H ⊢
 generalize hbp : w.heap.size + 1 = bp at H ⊢
 generalize hbm : w.heap.size = bm at H ⊢
 have HNE := Lib.hid (show bm ≠ bp ∧ bx ≠ bp ∧ br ≠ bp by omega)
 have HBR := Lib.hid (show ¬ br < w.heap.size by omega)
 have HBP := Lib.hid (show ¬ bp < w.heap.size by omega)
 clear hbr hbx hbp hbm
 generalize (((w.alloc _).alloc _).alloc _).alloc _ = W at H ⊢
 have G := Lib.hid (show Gr w W from H.out.1)
 have TM := Lib.hid (show Cells W bm (mcells P M) from H.out.2.1)
 have TP := Lib.hid (show Cells W bp #[.slice p L.length c] from H.out.2.2.1)
 have TX := Lib.hid (show Cells W bx (moveV x) from H.out.2.2.2.1)
 have T6 := Lib.hid (show Cells W br #[.slice none 0 0] from H.out.2.2.2.2)
 clear H
 refine (mv_Valid W P M x (HM0.out.grow G.out) HF.out (HT0.out.grow G.out)).mono ?_
 rintro _ w1 ⟨r1, rfl, g1, h⟩
 have G := Lib.hid (G.out.trans g1)
 have TM := Lib.hid (TM.out.grow g1)
 have TP := Lib.hid (TP.out.grow g1)
 have TX := Lib.hid (TX.out.grow g1)
 have T6 := Lib.hid (T6.out.grow g1)
 clear g1
 rcases h.cases with ⟨rfl, k1⟩ | ⟨rfl, k1⟩
 rotate_left
 ·have HV := Lib.hid k1
  clear h k1
  have q0 := T6.out.at 0 rfl
  have q1 := Cells.f T6.out 0
  go_wp2_with fail
  have hT := T6.out.set 0 (.slice none 0 0)
  have hG := G.out.set HBR.out (i := 0) (.slice none 0 0)
  clear q0 q1
  generalize World.setCell _ _ _ = W4 at hT hG ⊢
  have y0 := hT.at 0 rfl
  try rw [Exit.noGoto_ret]
  refine bodyPost_ret (by simp [results, Tryz.results8, go_sem, y0]; rfl) rfl ?_
  exact ⟨_, rfl, hG, 1, none, 0, [], rfl, plc_none _, .inl ⟨fun h => HV.out h.1, rfl, rfl⟩⟩
 have HV := Lib.hid k1
 clear h k1
 have m0 := mc0 TM.out _ (Gr.refl _)
 have m1 := mc1 TM.out _ (Gr.refl _)
 have m2 := mc2 TM.out _ (Gr.refl _)
 have m3 := mc3 TM.out _ (Gr.refl _)
 have m4 := mc4 TM.out _ (Gr.refl _)
 have m5 := mc5 TM.out _ (Gr.refl _)
 have m6 := mc6 TM.out _ (Gr.refl _)
 have m7 := mc7 TM.out _ (Gr.refl _)
 have m8 := mc8 TM.out _ (Gr.refl _)
 have m9 := mc9 TM.out _ (Gr.refl _)
 have m10 := mc10 TM.out _ (Gr.refl _)
 have s0 := TP.out.at 0 rfl
 go_wp2_with fail
 clear m0 m1 m2 m3 m4 m5 m6 m7 m8 m9 m10
 clear s0
 refine (plc_Valid w1 P M p c L (HM0.out.grow G.out) HF.out (HT0.out.grow G.out) (HP0.out.grow G.out) FK.out).mono ?_
 rintro _ w2 ⟨r2, rfl, g1, h⟩
 have G := Lib.hid (G.out.trans g1)
 have TM := Lib.hid (TM.out.grow g1)
 have TP := Lib.hid (TP.out.grow g1)
 have TX := Lib.hid (TX.out.grow g1)
 have T6 := Lib.hid (T6.out.grow g1)
 clear g1
 rcases h.cases with ⟨rfl, k1⟩ | ⟨rfl, k1⟩
 rotate_left
 ·have HPK := Lib.hid k1
  clear h k1
  have q0 := T6.out.at 0 rfl
  have q1 := Cells.f T6.out 0
  go_wp2_with fail
  have hT := T6.out.set 0 (.slice none 0 0)
  have hG := G.out.set HBR.out (i := 0) (.slice none 0 0)
  clear q0 q1
  generalize World.setCell _ _ _ = W4 at hT hG ⊢
  have y0 := hT.at 0 rfl
  try rw [Exit.noGoto_ret]
  refine bodyPost_ret (by simp [results, Tryz.results8, go_sem, y0]; rfl) rfl ?_
  exact ⟨_, rfl, hG, 1, none, 0, [], rfl, plc_none _, .inl ⟨fun h => HPK.out h.2, rfl, rfl⟩⟩
 have HPK := Lib.hid k1
 clear h k1
 have s0 := TP.out.at 0 rfl
 have x0 : World.cell? _ ⟨_, 0, none⟩ = some (.int .i64 x.item) := (TX.out).at 0 rfl
 have x1 : World.cell? _ ⟨_, 1, none⟩ = some (.int .i64 x.frm) := (TX.out).at 1 rfl
 have x2 : World.cell? _ ⟨_, 2, none⟩ = some (.int .i64 x.to) := (TX.out).at 2 rfl
 go_wp2_with fail
 clear s0 x0 x1 x2
 refine (plc_State w2 p c L x.item x.to (HP0.out.grow G.out) FK.out).mono ?_
 rintro _ w3 ⟨_, rfl, g1, rfl⟩
 have G := Lib.hid (G.out.trans g1)
 have TM := Lib.hid (TM.out.grow g1)
 have TP := Lib.hid (TP.out.grow g1)
 have TX := Lib.hid (TX.out.grow g1)
 have T6 := Lib.hid (T6.out.grow g1)
 clear g1
 obtain ⟨q, hq⟩ : ∃ q, stateP (usOf L) x.item x.to = q := ⟨_, rfl⟩
 rw [hq]
 obtain ⟨a, used⟩ := q
 have HQ := Lib.hid hq
 clear hq
 unfold stateV
 dsimp only
 have s0 := TP.out.at 0 rfl
 have x0 : World.cell? _ ⟨_, 0, none⟩ = some (.int .i64 x.item) := (TX.out).at 0 rfl
 have x1 : World.cell? _ ⟨_, 1, none⟩ = some (.int .i64 x.frm) := (TX.out).at 1 rfl
 have x2 : World.cell? _ ⟨_, 2, none⟩ = some (.int .i64 x.to) := (TX.out).at 2 rfl
 go_wp2_with fail
 clear s0 x0 x1 x2
 refine (mv_has w3 p c L x.item x.frm 0 (HP0.out.grow G.out) FK.out).mono ?_
 rintro _ w4 ⟨_, rfl, g1, rfl⟩
 have G := Lib.hid (G.out.trans g1)
 have TM := Lib.hid (TM.out.grow g1)
 have TP := Lib.hid (TP.out.grow g1)
 have TX := Lib.hid (TX.out.grow g1)
 have T6 := Lib.hid (T6.out.grow g1)
 clear g1
 obtain ⟨hb, hh⟩ : ∃ b, hasP (usOf L) x.item x.frm 0 = b := ⟨_, rfl⟩
 rw [hh]
 have HH := Lib.hid hh
 clear hh
 have x0 : World.cell? _ ⟨_, 0, none⟩ = some (.int .i64 x.item) := (TX.out).at 0 rfl
 have x1 : World.cell? _ ⟨_, 1, none⟩ = some (.int .i64 x.frm) := (TX.out).at 1 rfl
 have x2 : World.cell? _ ⟨_, 2, none⟩ = some (.int .i64 x.to) := (TX.out).at 2 rfl
 cases hb
 ·have q0 := T6.out.at 0 rfl
  have q1 := Cells.f T6.out 0
  go_wp2_with fail
  have hT := T6.out.set 0 (.slice none 0 0)
  have hG := G.out.set HBR.out (i := 0) (.slice none 0 0)
  clear q0 q1
  generalize World.setCell _ _ _ = W4 at hT hG ⊢
  have y0 := hT.at 0 rfl
  try rw [Exit.noGoto_ret]
  refine bodyPost_ret (by simp [results, Tryz.results8, go_sem, y0]; rfl) rfl ?_
  exact ⟨_, rfl, hG, 9, none, 0, [], rfl, plc_none _, .inr (.inl ⟨⟨HV.out, HPK.out⟩, by unfold stuckB; rw [HH.out]; rfl, rfl, rfl⟩)⟩
 by_cases h0 : x.to = 0
 ·have h0b : (x.to != 0) = false := by simp [h0]
  have H0 := Lib.hid h0b
  clear h0
  have HS := Lib.hid (show stuckB (usOf L) x = false from by unfold stuckB; rw [HH.out, H0.out]; rfl)
  have HU1 := Lib.hid (show usOf L = begin1 (usOf L) x from by unfold begin1; rw [if_neg (by simpa using H0.out)])
  clear x0 x1 x2
  have HP := Lib.hid (HP0.out.grow G.out)
  have HO1 := Lib.hid (show PlcOK M (usOf L) from by rw [HU1.out]; exact begin1_ok HV.out HPK.out)
  have HW1 := Lib.hid HO1.out.fewP
  have m5 := mc5 TM.out _ (Gr.refl _)
  have s0 := TP.out.at 0 rfl
  have x0 : World.cell? _ ⟨_, 0, none⟩ = some (.int .i64 x.item) := (TX.out).at 0 rfl
  have x1 : World.cell? _ ⟨_, 1, none⟩ = some (.int .i64 x.frm) := (TX.out).at 1 rfl
  have x2 : World.cell? _ ⟨_, 2, none⟩ = some (.int .i64 x.to) := (TX.out).at 2 rfl
  obtain ⟨k, it, hxk, hit, hkd, _, _, _, hjob⟩ := move_facts HV.out
  have hkl := (List.getElem?_eq_some_iff.1 hit).1
  obtain ⟨bi, oi, it', hpi, hit', hci⟩ := item_at (HM0.out.grow G.out).items rfl hkl
  obtain rfl : it = it' := Option.some.inj (hit.symm.trans hit')
  rw [hpi] at m5
  have y1 := (hci _ (Gr.refl _)).2.1
  have hil : (k : Int) < (M.items.length : Int) := by omega
  have hwj : IntKind.i64.wrap (x.item - 1) = (k : Int) := by rw [IntKind.wrap_i64]; have := HM0.out.big.2.2.2.2.2.1; omega
  have HKD := Lib.hid hkd
  have HJB := Lib.hid hjob
  obtain ⟨tk, htk⟩ : ∃ t, (it.kind == 2) = t := ⟨_, rfl⟩
  have HTK := Lib.hid htk
  clear hit hit' hci hpi hkd hjob hxk
  cases tk
  ·have HK2 := Lib.hid (show ¬ kindI M x.item = 2 from by rw [HKD.out]; simpa using HTK.out)
   go_wp2_with fail
   clear m5 s0 x0 x1 x2 y1 hil hwj h0b
   refine (plc_DropN _ p c L x.item 0 HP.out HW1.out.k).mono ?_
   rintro _ wz ⟨_, rfl, g1, pz, cz, Lz, rfl, hpl, hu, hnew⟩
   have HPZ := Lib.hid hpl
   have HUZ := Lib.hid hu
   have HNZ := Lib.hid hnew
   have HL6 := Lib.hid T6.out.lt
   clear hpl hu hnew
   have G := Lib.hid (G.out.trans g1)
   have TM := Lib.hid (TM.out.grow g1)
   have TP := Lib.hid (TP.out.grow g1)
   have TX := Lib.hid (TX.out.grow g1)
   have T6 := Lib.hid (T6.out.grow g1)
   have HP := Lib.hid (HP.out.grow g1)
   clear g1
   have q0 := T6.out.at 0 rfl
   have q1 := Cells.f T6.out 0
   unfold plcV
   go_wp2_with fail
   have hT := T6.out.set 0 (.slice pz Lz.length cz)
   have hG := G.out.set HBR.out (i := 0) (.slice pz Lz.length cz)
   have hP := HPZ.out.off (b := br) (i := 0) (u := .slice pz Lz.length cz) HNZ.out HL6.out
   clear q0 q1
   generalize World.setCell _ _ _ = W4 at hT hG hP ⊢
   have y0 := hT.at 0 rfl
   try rw [Exit.noGoto_ret]
   refine bodyPost_ret (by simp [results, Tryz.results8, go_sem, y0]; rfl) rfl ?_
   exact ⟨_, rfl, hG, 0, pz, cz, Lz, rfl, hP, .inr (.inr ⟨⟨HV.out, HPK.out⟩, HS.out, rfl, by rw [HUZ.out]; exact ((drop_zero HO1.out _).trans (HU1.out.trans (by unfold beginX; rw [if_neg HK2.out])))⟩)⟩
  ·have HK2 := Lib.hid (show kindI M x.item = 2 from by rw [HKD.out]; simpa using HTK.out)
   go_wp2_with fail
   clear m5 s0 x0 x1 x2 y1 hil hwj h0b
   refine (plc_PutN _ p c L x.item x.frm 2 HP.out HW1.out.k (fun l hl => by have := HW1.out.2 l hl; omega)).mono ?_
   rintro _ w8 ⟨_, rfl, g1, p2, c2, L2, rfl, hpl, hu, hnew⟩
   have HPL := Lib.hid hpl
   have HU2 := Lib.hid hu
   have HNW := Lib.hid hnew
   have HLP := Lib.hid TP.out.lt
   clear hpl hu hnew
   have G := Lib.hid (G.out.trans g1)
   have TM := Lib.hid (TM.out.grow g1)
   have TP := Lib.hid (TP.out.grow g1)
   have TX := Lib.hid (TX.out.grow g1)
   have T6 := Lib.hid (T6.out.grow g1)
   clear g1
   have q0 := TP.out.at 0 rfl
   have q1 := Cells.f TP.out 0
   unfold plcV
   have TP' := TP.out.set 0 (.slice p2 (L2).length c2)
   have HP := Lib.hid (HPL.out.off (b := bp) (i := 0) (u := .slice p2 (L2).length c2) HNW.out HLP.out)
   have TM := Lib.hid (TM.out.upd (upd_set w8 bp 0 (.slice p2 (L2).length c2)) HNE.out.1)
   have TX := Lib.hid (TX.out.upd (upd_set w8 bp 0 (.slice p2 (L2).length c2)) HNE.out.2.1)
   have T6 := Lib.hid (T6.out.upd (upd_set w8 bp 0 (.slice p2 (L2).length c2)) HNE.out.2.2)
   have G := Lib.hid (G.out.set HBP.out (i := 0) (.slice p2 (L2).length c2))
   have TP := Lib.hid (show Cells ((w8).setCell ⟨bp, 0, none⟩ (.slice p2 (L2).length c2)) bp #[.slice p2 (L2).length c2] from by simpa using TP')
   clear TP' HPL HLP HNW
   obtain ⟨w9, hV⟩ : ∃ W', World.setCell w8 ⟨bp, 0, none⟩ (.slice p2 (L2).length c2) = W' := ⟨_, rfl⟩
   rw [hV] at HP TM TX T6 G TP
   have HE2 := Lib.hid (show usOf L2 = beginX M (usOf L) x from by rw [HU2.out]; unfold beginX; rw [if_pos HK2.out]; exact congrArg (fun Y => putP Y x.item x.frm 2) HU1.out)
   have HO2 := Lib.hid (show PlcOK M (usOf L2) from by rw [HE2.out]; exact begin_ok HV.out HPK.out)
   have HW2 := Lib.hid HO2.out.fewP
   have s0 := TP.out.at 0 rfl
   have x0 : World.cell? _ ⟨_, 0, none⟩ = some (.int .i64 x.item) := (TX.out).at 0 rfl
   have x1 : World.cell? _ ⟨_, 1, none⟩ = some (.int .i64 x.frm) := (TX.out).at 1 rfl
   have x2 : World.cell? _ ⟨_, 2, none⟩ = some (.int .i64 x.to) := (TX.out).at 2 rfl
   go_wp2_with fail
   clear s0 x0 x1 x2 q0 q1 hV
   refine (plc_DropN _ p2 c2 L2 x.item 0 HP.out HW2.out.k).mono ?_
   rintro _ wz ⟨_, rfl, g1, pz, cz, Lz, rfl, hpl, hu, hnew⟩
   have HPZ := Lib.hid hpl
   have HUZ := Lib.hid hu
   have HNZ := Lib.hid hnew
   have HL6 := Lib.hid T6.out.lt
   clear hpl hu hnew
   have G := Lib.hid (G.out.trans g1)
   have TM := Lib.hid (TM.out.grow g1)
   have TP := Lib.hid (TP.out.grow g1)
   have TX := Lib.hid (TX.out.grow g1)
   have T6 := Lib.hid (T6.out.grow g1)
   have HP := Lib.hid (HP.out.grow g1)
   clear g1
   have q0 := T6.out.at 0 rfl
   have q1 := Cells.f T6.out 0
   unfold plcV
   go_wp2_with fail
   have hT := T6.out.set 0 (.slice pz Lz.length cz)
   have hG := G.out.set HBR.out (i := 0) (.slice pz Lz.length cz)
   have hP := HPZ.out.off (b := br) (i := 0) (u := .slice pz Lz.length cz) HNZ.out HL6.out
   clear q0 q1
   generalize World.setCell _ _ _ = W4 at hT hG hP ⊢
   have y0 := hT.at 0 rfl
   try rw [Exit.noGoto_ret]
   refine bodyPost_ret (by simp [results, Tryz.results8, go_sem, y0]; rfl) rfl ?_
   exact ⟨_, rfl, hG, 0, pz, cz, Lz, rfl, hP, .inr (.inr ⟨⟨HV.out, HPK.out⟩, HS.out, rfl, by rw [HUZ.out]; exact (by rw [drop_zero HO2.out, HE2.out])⟩)⟩
 ·have h0b : (x.to != 0) = true := by simp [h0]
  have H0 := Lib.hid h0b
  clear h0
  cases used
  rotate_left
  ·have q0 := T6.out.at 0 rfl
   have q1 := Cells.f T6.out 0
   go_wp2_with fail
   have hT := T6.out.set 0 (.slice none 0 0)
   have hG := G.out.set HBR.out (i := 0) (.slice none 0 0)
   clear q0 q1
   generalize World.setCell _ _ _ = W4 at hT hG ⊢
   have y0 := hT.at 0 rfl
   try rw [Exit.noGoto_ret]
   refine bodyPost_ret (by simp [results, Tryz.results8, go_sem, y0]; rfl) rfl ?_
   exact ⟨_, rfl, hG, 9, none, 0, [], rfl, plc_none _, .inr (.inl ⟨⟨HV.out, HPK.out⟩, by unfold stuckB; rw [HH.out, H0.out, HQ.out]; rfl, rfl, rfl⟩)⟩
  have HS := Lib.hid (show stuckB (usOf L) x = false from by unfold stuckB; rw [HH.out, H0.out, HQ.out]; rfl)
  have s0 := TP.out.at 0 rfl
  go_wp2_with fail
  clear s0 x0 x1 x2
  refine (plc_PutN _ p c L x.item x.to 1 (HP0.out.grow G.out) FK.out F9.out).mono ?_
  rintro _ w6 ⟨_, rfl, g1, p1, c1, L1, rfl, hpl, hu, hnew⟩
  have HPL := Lib.hid hpl
  have HUP := Lib.hid hu
  have HNW := Lib.hid hnew
  have HLP := Lib.hid TP.out.lt
  clear hpl hu hnew
  have G := Lib.hid (G.out.trans g1)
  have TM := Lib.hid (TM.out.grow g1)
  have TP := Lib.hid (TP.out.grow g1)
  have TX := Lib.hid (TX.out.grow g1)
  have T6 := Lib.hid (T6.out.grow g1)
  clear g1
  have q0 := TP.out.at 0 rfl
  have q1 := Cells.f TP.out 0
  unfold plcV
  have TP' := TP.out.set 0 (.slice p1 (L1).length c1)
  have HP := Lib.hid (HPL.out.off (b := bp) (i := 0) (u := .slice p1 (L1).length c1) HNW.out HLP.out)
  have TM := Lib.hid (TM.out.upd (upd_set w6 bp 0 (.slice p1 (L1).length c1)) HNE.out.1)
  have TX := Lib.hid (TX.out.upd (upd_set w6 bp 0 (.slice p1 (L1).length c1)) HNE.out.2.1)
  have T6 := Lib.hid (T6.out.upd (upd_set w6 bp 0 (.slice p1 (L1).length c1)) HNE.out.2.2)
  have G := Lib.hid (G.out.set HBP.out (i := 0) (.slice p1 (L1).length c1))
  have TP := Lib.hid (show Cells ((w6).setCell ⟨bp, 0, none⟩ (.slice p1 (L1).length c1)) bp #[.slice p1 (L1).length c1] from by simpa using TP')
  clear TP' HPL HLP HNW
  obtain ⟨w7, hV⟩ : ∃ W', World.setCell w6 ⟨bp, 0, none⟩ (.slice p1 (L1).length c1) = W' := ⟨_, rfl⟩
  rw [hV] at HP TM TX T6 G TP
  have HU1 := Lib.hid (show usOf L1 = begin1 (usOf L) x from by rw [HUP.out]; unfold begin1; rw [if_pos (by simpa using H0.out)])
  have HO1 := Lib.hid (show PlcOK M (usOf L1) from by rw [HU1.out]; exact begin1_ok HV.out HPK.out)
  have HW1 := Lib.hid HO1.out.fewP
  have m5 := mc5 TM.out _ (Gr.refl _)
  have s0 := TP.out.at 0 rfl
  have x0 : World.cell? _ ⟨_, 0, none⟩ = some (.int .i64 x.item) := (TX.out).at 0 rfl
  have x1 : World.cell? _ ⟨_, 1, none⟩ = some (.int .i64 x.frm) := (TX.out).at 1 rfl
  have x2 : World.cell? _ ⟨_, 2, none⟩ = some (.int .i64 x.to) := (TX.out).at 2 rfl
  obtain ⟨k, it, hxk, hit, hkd, _, _, _, hjob⟩ := move_facts HV.out
  have hkl := (List.getElem?_eq_some_iff.1 hit).1
  obtain ⟨bi, oi, it', hpi, hit', hci⟩ := item_at (HM0.out.grow G.out).items rfl hkl
  obtain rfl : it = it' := Option.some.inj (hit.symm.trans hit')
  rw [hpi] at m5
  have y1 := (hci _ (Gr.refl _)).2.1
  have hil : (k : Int) < (M.items.length : Int) := by omega
  have hwj : IntKind.i64.wrap (x.item - 1) = (k : Int) := by rw [IntKind.wrap_i64]; have := HM0.out.big.2.2.2.2.2.1; omega
  have HKD := Lib.hid hkd
  have HJB := Lib.hid hjob
  obtain ⟨tk, htk⟩ : ∃ t, (it.kind == 2) = t := ⟨_, rfl⟩
  have HTK := Lib.hid htk
  clear hit hit' hci hpi hkd hjob hxk
  cases tk
  ·have HK2 := Lib.hid (show ¬ kindI M x.item = 2 from by rw [HKD.out]; simpa using HTK.out)
   go_wp2_with fail
   clear m5 s0 x0 x1 x2 y1 hil hwj q0 q1 hV h0b
   refine (plc_DropN _ p1 c1 L1 x.item 0 HP.out HW1.out.k).mono ?_
   rintro _ wz ⟨_, rfl, g1, pz, cz, Lz, rfl, hpl, hu, hnew⟩
   have HPZ := Lib.hid hpl
   have HUZ := Lib.hid hu
   have HNZ := Lib.hid hnew
   have HL6 := Lib.hid T6.out.lt
   clear hpl hu hnew
   have G := Lib.hid (G.out.trans g1)
   have TM := Lib.hid (TM.out.grow g1)
   have TP := Lib.hid (TP.out.grow g1)
   have TX := Lib.hid (TX.out.grow g1)
   have T6 := Lib.hid (T6.out.grow g1)
   have HP := Lib.hid (HP.out.grow g1)
   clear g1
   have q0 := T6.out.at 0 rfl
   have q1 := Cells.f T6.out 0
   unfold plcV
   go_wp2_with fail
   have hT := T6.out.set 0 (.slice pz Lz.length cz)
   have hG := G.out.set HBR.out (i := 0) (.slice pz Lz.length cz)
   have hP := HPZ.out.off (b := br) (i := 0) (u := .slice pz Lz.length cz) HNZ.out HL6.out
   clear q0 q1
   generalize World.setCell _ _ _ = W4 at hT hG hP ⊢
   have y0 := hT.at 0 rfl
   try rw [Exit.noGoto_ret]
   refine bodyPost_ret (by simp [results, Tryz.results8, go_sem, y0]; rfl) rfl ?_
   exact ⟨_, rfl, hG, 0, pz, cz, Lz, rfl, hP, .inr (.inr ⟨⟨HV.out, HPK.out⟩, HS.out, rfl, by rw [HUZ.out]; exact ((drop_zero HO1.out _).trans (HU1.out.trans (by unfold beginX; rw [if_neg HK2.out])))⟩)⟩
  ·have HK2 := Lib.hid (show kindI M x.item = 2 from by rw [HKD.out]; simpa using HTK.out)
   go_wp2_with fail
   clear m5 s0 x0 x1 x2 y1 hil hwj q0 q1 hV h0b
   refine (plc_PutN _ p1 c1 L1 x.item x.frm 2 HP.out HW1.out.k (fun l hl => by have := HW1.out.2 l hl; omega)).mono ?_
   rintro _ w8 ⟨_, rfl, g1, p2, c2, L2, rfl, hpl, hu, hnew⟩
   have HPL := Lib.hid hpl
   have HU2 := Lib.hid hu
   have HNW := Lib.hid hnew
   have HLP := Lib.hid TP.out.lt
   clear hpl hu hnew
   have G := Lib.hid (G.out.trans g1)
   have TM := Lib.hid (TM.out.grow g1)
   have TP := Lib.hid (TP.out.grow g1)
   have TX := Lib.hid (TX.out.grow g1)
   have T6 := Lib.hid (T6.out.grow g1)
   clear g1
   have q0 := TP.out.at 0 rfl
   have q1 := Cells.f TP.out 0
   unfold plcV
   have TP' := TP.out.set 0 (.slice p2 (L2).length c2)
   have HP := Lib.hid (HPL.out.off (b := bp) (i := 0) (u := .slice p2 (L2).length c2) HNW.out HLP.out)
   have TM := Lib.hid (TM.out.upd (upd_set w8 bp 0 (.slice p2 (L2).length c2)) HNE.out.1)
   have TX := Lib.hid (TX.out.upd (upd_set w8 bp 0 (.slice p2 (L2).length c2)) HNE.out.2.1)
   have T6 := Lib.hid (T6.out.upd (upd_set w8 bp 0 (.slice p2 (L2).length c2)) HNE.out.2.2)
   have G := Lib.hid (G.out.set HBP.out (i := 0) (.slice p2 (L2).length c2))
   have TP := Lib.hid (show Cells ((w8).setCell ⟨bp, 0, none⟩ (.slice p2 (L2).length c2)) bp #[.slice p2 (L2).length c2] from by simpa using TP')
   clear TP' HPL HLP HNW
   obtain ⟨w9, hV⟩ : ∃ W', World.setCell w8 ⟨bp, 0, none⟩ (.slice p2 (L2).length c2) = W' := ⟨_, rfl⟩
   rw [hV] at HP TM TX T6 G TP
   have HE2 := Lib.hid (show usOf L2 = beginX M (usOf L) x from by rw [HU2.out]; unfold beginX; rw [if_pos HK2.out]; exact congrArg (fun Y => putP Y x.item x.frm 2) HU1.out)
   have HO2 := Lib.hid (show PlcOK M (usOf L2) from by rw [HE2.out]; exact begin_ok HV.out HPK.out)
   have HW2 := Lib.hid HO2.out.fewP
   have s0 := TP.out.at 0 rfl
   have x0 : World.cell? _ ⟨_, 0, none⟩ = some (.int .i64 x.item) := (TX.out).at 0 rfl
   have x1 : World.cell? _ ⟨_, 1, none⟩ = some (.int .i64 x.frm) := (TX.out).at 1 rfl
   have x2 : World.cell? _ ⟨_, 2, none⟩ = some (.int .i64 x.to) := (TX.out).at 2 rfl
   go_wp2_with fail
   clear s0 x0 x1 x2 q0 q1 hV
   refine (plc_DropN _ p2 c2 L2 x.item 0 HP.out HW2.out.k).mono ?_
   rintro _ wz ⟨_, rfl, g1, pz, cz, Lz, rfl, hpl, hu, hnew⟩
   have HPZ := Lib.hid hpl
   have HUZ := Lib.hid hu
   have HNZ := Lib.hid hnew
   have HL6 := Lib.hid T6.out.lt
   clear hpl hu hnew
   have G := Lib.hid (G.out.trans g1)
   have TM := Lib.hid (TM.out.grow g1)
   have TP := Lib.hid (TP.out.grow g1)
   have TX := Lib.hid (TX.out.grow g1)
   have T6 := Lib.hid (T6.out.grow g1)
   have HP := Lib.hid (HP.out.grow g1)
   clear g1
   have q0 := T6.out.at 0 rfl
   have q1 := Cells.f T6.out 0
   unfold plcV
   go_wp2_with fail
   have hT := T6.out.set 0 (.slice pz Lz.length cz)
   have hG := G.out.set HBR.out (i := 0) (.slice pz Lz.length cz)
   have hP := HPZ.out.off (b := br) (i := 0) (u := .slice pz Lz.length cz) HNZ.out HL6.out
   clear q0 q1
   generalize World.setCell _ _ _ = W4 at hT hG hP ⊢
   have y0 := hT.at 0 rfl
   try rw [Exit.noGoto_ret]
   refine bodyPost_ret (by simp [results, Tryz.results8, go_sem, y0]; rfl) rfl ?_
   exact ⟨_, rfl, hG, 0, pz, cz, Lz, rfl, hP, .inr (.inr ⟨⟨HV.out, HPK.out⟩, HS.out, rfl, by rw [HUZ.out]; exact (by rw [drop_zero HO2.out, HE2.out])⟩)⟩
set_option maxRecDepth 100000 in
set_option maxHeartbeats 3200000 in
theorem ref_Begin (w : World) (ht : Tab w) (P : Ptrs) (M : Mdl) (p : Option Addr) (c : Nat) (L : List RowU) (x : MvM) (hm : MdlAt w P M) (hf : Few M) (hp : PlcAt w p c L) (hk : FewP (usOf L)) :
  Calls Tryz.prog 9 #[.agg (mcells P M), plcV p c L, .agg (moveV x)] w (Ret w fun r w' => EffR (BegS M (usOf L) x) r w') := by
 have HM0 := Lib.hid hm
 have HP0 := Lib.hid hp
 have HF := Lib.hid hf
 have HT0 := Lib.hid ht
 have FK := Lib.hid hk.k
 have F9 := Lib.hid (show ∀ l ∈ usOf L, l.length ≤ 900 from fun l hl => by have := hk.2 l hl; omega)
 have FN := Lib.hid (show (usOf L).length ≤ 24 ∧ ∀ l ∈ usOf L, l.length ≤ 24 from hk)
 have B0 := Cells.new w (mcells P M) 29
 have B1 := Cells.new (w.alloc (.cells (mcells P M) 29)) #[.slice p L.length c] 32
 have B2 := Cells.new ((w.alloc (.cells (mcells P M) 29)).alloc (.cells #[.slice p L.length c] 32)) (moveV x) 34
 have B3 := Cells.new (((w.alloc (.cells (mcells P M) 29)).alloc (.cells #[.slice p L.length c] 32)).alloc (.cells (moveV x) 34)) #[.slice none 0 0] 32
 simp only [World.size_alloc] at B1 B2 B3
 have m0 := mc0 B0.2 _ (B1.1.trans (B2.1.trans B3.1))
 have m1 := mc1 B0.2 _ (B1.1.trans (B2.1.trans B3.1))
 have m2 := mc2 B0.2 _ (B1.1.trans (B2.1.trans B3.1))
 have m3 := mc3 B0.2 _ (B1.1.trans (B2.1.trans B3.1))
 have m4 := mc4 B0.2 _ (B1.1.trans (B2.1.trans B3.1))
 have m5 := mc5 B0.2 _ (B1.1.trans (B2.1.trans B3.1))
 have m6 := mc6 B0.2 _ (B1.1.trans (B2.1.trans B3.1))
 have m7 := mc7 B0.2 _ (B1.1.trans (B2.1.trans B3.1))
 have m8 := mc8 B0.2 _ (B1.1.trans (B2.1.trans B3.1))
 have m9 := mc9 B0.2 _ (B1.1.trans (B2.1.trans B3.1))
 have m10 := mc10 B0.2 _ (B1.1.trans (B2.1.trans B3.1))
 have x0 : World.cell? _ ⟨_, 0, none⟩ = some (.int .i64 x.item) := ((B2.2.grow B3.1)).at 0 rfl
 have x1 : World.cell? _ ⟨_, 1, none⟩ = some (.int .i64 x.frm) := ((B2.2.grow B3.1)).at 1 rfl
 have x2 : World.cell? _ ⟨_, 2, none⟩ = some (.int .i64 x.to) := ((B2.2.grow B3.1)).at 2 rfl
 have H := Lib.hid (show _ ∧ _ ∧ _ ∧ _ ∧ _ from ⟨B0.1.trans (B1.1.trans (B2.1.trans B3.1)), B0.2.grow (B1.1.trans (B2.1.trans B3.1)), B1.2.grow (B2.1.trans B3.1), B2.2.grow B3.1, B3.2⟩)
 clear B0 B1 B2 B3 hm hp hf ht hk
 unfold mcells moveV at H m0 m1 m2 m3 m4 m5 m6 m7 m8 m9 m10 x0 x1 x2
 unfold mcells moveV plcV
 go_enter Tryz.func9, Tryz.ntmps9
 go_wp2_with fail
 clear m0 m1 m2 m3 m4 m5 m6 m7 m8 m9 m10 x0 x1 x2
 generalize hbr : w.heap.size + 1 + 1 + 1 = br at H ⊢
 generalize hbx : w.heap.size + 1 + 1 = bx at H ⊢
 generalize hbp : w.heap.size + 1 = bp at H ⊢
 generalize hbm : w.heap.size = bm at H ⊢
 have HNE := Lib.hid (show bm ≠ bp ∧ bx ≠ bp ∧ br ≠ bp by omega)
 have HBR := Lib.hid (show ¬ br < w.heap.size by omega)
 have HBP := Lib.hid (show ¬ bp < w.heap.size by omega)
 clear hbr hbx hbp hbm
 generalize (((w.alloc _).alloc _).alloc _).alloc _ = W at H ⊢
 have G := Lib.hid (show Gr w W from H.out.1)
 have TM := Lib.hid (show Cells W bm (mcells P M) from H.out.2.1)
 have TP := Lib.hid (show Cells W bp #[.slice p L.length c] from H.out.2.2.1)
 have TX := Lib.hid (show Cells W bx (moveV x) from H.out.2.2.2.1)
 have T6 := Lib.hid (show Cells W br #[.slice none 0 0] from H.out.2.2.2.2)
 clear H
 refine (ref_Valid23 W P M x (HM0.out.grow G.out) HF.out).mono ?_
 rintro _ w1 ⟨r1, rfl, g1, h⟩
 have G := Lib.hid (G.out.trans g1)
 have TM := Lib.hid (TM.out.grow g1)
 have TP := Lib.hid (TP.out.grow g1)
 have TX := Lib.hid (TX.out.grow g1)
 have T6 := Lib.hid (T6.out.grow g1)
 clear g1
 rcases h.cases with ⟨rfl, k1⟩ | ⟨rfl, k1⟩
 rotate_left
 ·have HV := Lib.hid k1
  clear h k1
  have q0 := T6.out.at 0 rfl
  have q1 := Cells.f T6.out 0
  go_wp2_with fail
  have hT := T6.out.set 0 (.slice none 0 0)
  have hG := G.out.set HBR.out (i := 0) (.slice none 0 0)
  clear q0 q1
  generalize World.setCell _ _ _ = W4 at hT hG ⊢
  have y0 := hT.at 0 rfl
  try rw [Exit.noGoto_ret]
  refine bodyPost_ret (by simp [results, Tryz.results9, go_sem, y0]; rfl) rfl ?_
  exact ⟨_, rfl, hG, 1, none, 0, [], rfl, plc_none _, .inl ⟨fun h => HV.out h.1, rfl, rfl⟩⟩
 have HV := Lib.hid k1
 clear h k1
 have m0 := mc0 TM.out _ (Gr.refl _)
 have m1 := mc1 TM.out _ (Gr.refl _)
 have m2 := mc2 TM.out _ (Gr.refl _)
 have m3 := mc3 TM.out _ (Gr.refl _)
 have m4 := mc4 TM.out _ (Gr.refl _)
 have m5 := mc5 TM.out _ (Gr.refl _)
 have m6 := mc6 TM.out _ (Gr.refl _)
 have m7 := mc7 TM.out _ (Gr.refl _)
 have m8 := mc8 TM.out _ (Gr.refl _)
 have m9 := mc9 TM.out _ (Gr.refl _)
 have m10 := mc10 TM.out _ (Gr.refl _)
 have s0 := TP.out.at 0 rfl
 go_wp2_with fail
 clear m0 m1 m2 m3 m4 m5 m6 m7 m8 m9 m10
 clear s0
 refine (ref_Valid20 w1 P M p c L (HM0.out.grow G.out) HF.out (HP0.out.grow G.out) FK.out).mono ?_
 rintro _ w2 ⟨r2, rfl, g1, h⟩
 have G := Lib.hid (G.out.trans g1)
 have TM := Lib.hid (TM.out.grow g1)
 have TP := Lib.hid (TP.out.grow g1)
 have TX := Lib.hid (TX.out.grow g1)
 have T6 := Lib.hid (T6.out.grow g1)
 clear g1
 rcases h.cases with ⟨rfl, k1⟩ | ⟨rfl, k1⟩
 rotate_left
 ·have HPK := Lib.hid k1
  clear h k1
  have q0 := T6.out.at 0 rfl
  have q1 := Cells.f T6.out 0
  go_wp2_with fail
  have hT := T6.out.set 0 (.slice none 0 0)
  have hG := G.out.set HBR.out (i := 0) (.slice none 0 0)
  clear q0 q1
  generalize World.setCell _ _ _ = W4 at hT hG ⊢
  have y0 := hT.at 0 rfl
  try rw [Exit.noGoto_ret]
  refine bodyPost_ret (by simp [results, Tryz.results9, go_sem, y0]; rfl) rfl ?_
  exact ⟨_, rfl, hG, 1, none, 0, [], rfl, plc_none _, .inl ⟨fun h => HPK.out h.2, rfl, rfl⟩⟩
 have HPK := Lib.hid k1
 clear h k1
 have s0 := TP.out.at 0 rfl
 have x0 : World.cell? _ ⟨_, 0, none⟩ = some (.int .i64 x.item) := (TX.out).at 0 rfl
 have x1 : World.cell? _ ⟨_, 1, none⟩ = some (.int .i64 x.frm) := (TX.out).at 1 rfl
 have x2 : World.cell? _ ⟨_, 2, none⟩ = some (.int .i64 x.to) := (TX.out).at 2 rfl
 go_wp2_with fail
 clear s0 x0 x1 x2
 refine (ref_State w2 p c L x.item x.to (HP0.out.grow G.out) FK.out).mono ?_
 rintro _ w3 ⟨_, rfl, g1, rfl⟩
 have G := Lib.hid (G.out.trans g1)
 have TM := Lib.hid (TM.out.grow g1)
 have TP := Lib.hid (TP.out.grow g1)
 have TX := Lib.hid (TX.out.grow g1)
 have T6 := Lib.hid (T6.out.grow g1)
 clear g1
 obtain ⟨q, hq⟩ : ∃ q, stateP (usOf L) x.item x.to = q := ⟨_, rfl⟩
 rw [hq]
 obtain ⟨a, used⟩ := q
 have HQ := Lib.hid hq
 clear hq
 unfold stateV
 dsimp only
 by_cases h1 : x.frm = 0
 ·have h1b : (x.frm != 0) = false := by simp [h1]
  have HH := Lib.hid (show hasP (usOf L) x.item x.frm 0 = true from by unfold hasP; simp [h1])
  clear h1
  have s0 := TP.out.at 0 rfl
  have x0 : World.cell? _ ⟨_, 0, none⟩ = some (.int .i64 x.item) := (TX.out).at 0 rfl
  have x1 : World.cell? _ ⟨_, 1, none⟩ = some (.int .i64 x.frm) := (TX.out).at 1 rfl
  have x2 : World.cell? _ ⟨_, 2, none⟩ = some (.int .i64 x.to) := (TX.out).at 2 rfl
  by_cases h0 : x.to = 0
  ·have h0b : (x.to != 0) = false := by simp [h0]
   have H0 := Lib.hid h0b
   clear h0 s0
   have HS := Lib.hid (show stuckB (usOf L) x = false from by unfold stuckB; rw [HH.out, H0.out]; rfl)
   have HU1 := Lib.hid (show usOf L = begin1 (usOf L) x from by unfold begin1; rw [if_neg (by simpa using H0.out)])
   clear x0 x1 x2
   have HP := Lib.hid (HP0.out.grow G.out)
   have HO1 := Lib.hid (show PlcOK M (usOf L) from by rw [HU1.out]; exact begin1_ok HV.out HPK.out)
   have HW1 := Lib.hid HO1.out.fewP
   have m5 := mc5 TM.out _ (Gr.refl _)
   have s0 := TP.out.at 0 rfl
   have x0 : World.cell? _ ⟨_, 0, none⟩ = some (.int .i64 x.item) := (TX.out).at 0 rfl
   have x1 : World.cell? _ ⟨_, 1, none⟩ = some (.int .i64 x.frm) := (TX.out).at 1 rfl
   have x2 : World.cell? _ ⟨_, 2, none⟩ = some (.int .i64 x.to) := (TX.out).at 2 rfl
   obtain ⟨k, it, hxk, hit, hkd, _, _, _, hjob⟩ := move_facts HV.out
   have hkl := (List.getElem?_eq_some_iff.1 hit).1
   obtain ⟨bi, oi, it', hpi, hit', hci⟩ := item_at (HM0.out.grow G.out).items rfl hkl
   obtain rfl : it = it' := Option.some.inj (hit.symm.trans hit')
   rw [hpi] at m5
   have y1 := (hci _ (Gr.refl _)).2.1
   have hil : (k : Int) < (M.items.length : Int) := by omega
   have hwj : IntKind.i64.wrap (x.item - 1) = (k : Int) := by rw [IntKind.wrap_i64]; have := HM0.out.big.2.2.2.2.2.1; omega
   have HKD := Lib.hid hkd
   have HJB := Lib.hid hjob
   obtain ⟨tk, htk⟩ : ∃ t, (it.kind == 2) = t := ⟨_, rfl⟩
   have HTK := Lib.hid htk
   clear hit hit' hci hpi hkd hjob hxk
   cases tk
   ·have HK2 := Lib.hid (show ¬ kindI M x.item = 2 from by rw [HKD.out]; simpa using HTK.out)
    go_wp2_with fail
    clear m5 s0 x0 x1 x2 y1 hil hwj h0b h1b
    refine (ref_DropN _ p c L 0 0 HP.out HW1.out.k (by decide)).mono ?_
    rintro _ wz ⟨_, rfl, g1, pz, cz, Lz, rfl, hpl, hu, hnew⟩
    have HPZ := Lib.hid hpl
    have HUZ := Lib.hid hu
    have HNZ := Lib.hid hnew
    have HL6 := Lib.hid T6.out.lt
    clear hpl hu hnew
    have G := Lib.hid (G.out.trans g1)
    have TM := Lib.hid (TM.out.grow g1)
    have TP := Lib.hid (TP.out.grow g1)
    have TX := Lib.hid (TX.out.grow g1)
    have T6 := Lib.hid (T6.out.grow g1)
    have HP := Lib.hid (HP.out.grow g1)
    clear g1
    have q0 := T6.out.at 0 rfl
    have q1 := Cells.f T6.out 0
    unfold plcV
    go_wp2_with fail
    have hT := T6.out.set 0 (.slice pz Lz.length cz)
    have hG := G.out.set HBR.out (i := 0) (.slice pz Lz.length cz)
    have hP := HPZ.out.off (b := br) (i := 0) (u := .slice pz Lz.length cz) HNZ.out HL6.out
    clear q0 q1
    generalize World.setCell _ _ _ = W4 at hT hG hP ⊢
    have y0 := hT.at 0 rfl
    try rw [Exit.noGoto_ret]
    refine bodyPost_ret (by simp [results, Tryz.results9, go_sem, y0]; rfl) rfl ?_
    exact ⟨_, rfl, hG, 0, pz, cz, Lz, rfl, hP, .inr (.inr ⟨⟨HV.out, HPK.out⟩, HS.out, rfl, by rw [HUZ.out]; exact ((drop_zero HO1.out _).trans (HU1.out.trans (by unfold beginX; rw [if_neg HK2.out])))⟩)⟩
   ·have HK2 := Lib.hid (show kindI M x.item = 2 from by rw [HKD.out]; simpa using HTK.out)
    go_wp2_with fail
    clear m5 s0 x0 x1 x2 y1 hil hwj h0b h1b
    refine (ref_PutN _ p c L x.item x.frm 2 HP.out HW1.out.k (fun l hl => by have := HW1.out.2 l hl; omega) (item_i64 HV.out HF.out)).mono ?_
    rintro _ w8 ⟨_, rfl, g1, p2, c2, L2, rfl, hpl, hu, hnew⟩
    have HPL := Lib.hid hpl
    have HU2 := Lib.hid hu
    have HNW := Lib.hid hnew
    have HLP := Lib.hid TP.out.lt
    clear hpl hu hnew
    have G := Lib.hid (G.out.trans g1)
    have TM := Lib.hid (TM.out.grow g1)
    have TP := Lib.hid (TP.out.grow g1)
    have TX := Lib.hid (TX.out.grow g1)
    have T6 := Lib.hid (T6.out.grow g1)
    clear g1
    have q0 := TP.out.at 0 rfl
    have q1 := Cells.f TP.out 0
    unfold plcV
    have TP' := TP.out.set 0 (.slice p2 (L2).length c2)
    have HP := Lib.hid (HPL.out.off (b := bp) (i := 0) (u := .slice p2 (L2).length c2) HNW.out HLP.out)
    have TM := Lib.hid (TM.out.upd (upd_set w8 bp 0 (.slice p2 (L2).length c2)) HNE.out.1)
    have TX := Lib.hid (TX.out.upd (upd_set w8 bp 0 (.slice p2 (L2).length c2)) HNE.out.2.1)
    have T6 := Lib.hid (T6.out.upd (upd_set w8 bp 0 (.slice p2 (L2).length c2)) HNE.out.2.2)
    have G := Lib.hid (G.out.set HBP.out (i := 0) (.slice p2 (L2).length c2))
    have TP := Lib.hid (show Cells ((w8).setCell ⟨bp, 0, none⟩ (.slice p2 (L2).length c2)) bp #[.slice p2 (L2).length c2] from by simpa using TP')
    clear TP' HPL HLP HNW
    obtain ⟨w9, hV⟩ : ∃ W', World.setCell w8 ⟨bp, 0, none⟩ (.slice p2 (L2).length c2) = W' := ⟨_, rfl⟩
    rw [hV] at HP TM TX T6 G TP
    have HE2 := Lib.hid (show usOf L2 = beginX M (usOf L) x from by rw [HU2.out]; unfold beginX; rw [if_pos HK2.out]; exact congrArg (fun Y => putP Y x.item x.frm 2) HU1.out)
    have HO2 := Lib.hid (show PlcOK M (usOf L2) from by rw [HE2.out]; exact begin_ok HV.out HPK.out)
    have HW2 := Lib.hid HO2.out.fewP
    have s0 := TP.out.at 0 rfl
    go_wp2_with fail
    clear s0 q0 q1 hV
    refine (ref_DropN _ p2 c2 L2 0 0 HP.out HW2.out.k (by decide)).mono ?_
    rintro _ wz ⟨_, rfl, g1, pz, cz, Lz, rfl, hpl, hu, hnew⟩
    have HPZ := Lib.hid hpl
    have HUZ := Lib.hid hu
    have HNZ := Lib.hid hnew
    have HL6 := Lib.hid T6.out.lt
    clear hpl hu hnew
    have G := Lib.hid (G.out.trans g1)
    have TM := Lib.hid (TM.out.grow g1)
    have TP := Lib.hid (TP.out.grow g1)
    have TX := Lib.hid (TX.out.grow g1)
    have T6 := Lib.hid (T6.out.grow g1)
    have HP := Lib.hid (HP.out.grow g1)
    clear g1
    have q0 := T6.out.at 0 rfl
    have q1 := Cells.f T6.out 0
    unfold plcV
    go_wp2_with fail
    have hT := T6.out.set 0 (.slice pz Lz.length cz)
    have hG := G.out.set HBR.out (i := 0) (.slice pz Lz.length cz)
    have hP := HPZ.out.off (b := br) (i := 0) (u := .slice pz Lz.length cz) HNZ.out HL6.out
    clear q0 q1
    generalize World.setCell _ _ _ = W4 at hT hG hP ⊢
    have y0 := hT.at 0 rfl
    try rw [Exit.noGoto_ret]
    refine bodyPost_ret (by simp [results, Tryz.results9, go_sem, y0]; rfl) rfl ?_
    exact ⟨_, rfl, hG, 0, pz, cz, Lz, rfl, hP, .inr (.inr ⟨⟨HV.out, HPK.out⟩, HS.out, rfl, by rw [HUZ.out]; exact (by rw [drop_zero HO2.out, HE2.out])⟩)⟩
  ·have h0b : (x.to != 0) = true := by simp [h0]
   have H0 := Lib.hid h0b
   clear h0
   cases used
   rotate_left
   ·have q0 := T6.out.at 0 rfl
    have q1 := Cells.f T6.out 0
    go_wp2_with fail
    have hT := T6.out.set 0 (.slice none 0 0)
    have hG := G.out.set HBR.out (i := 0) (.slice none 0 0)
    clear q0 q1
    generalize World.setCell _ _ _ = W4 at hT hG ⊢
    have y0 := hT.at 0 rfl
    try rw [Exit.noGoto_ret]
    refine bodyPost_ret (by simp [results, Tryz.results9, go_sem, y0]; rfl) rfl ?_
    exact ⟨_, rfl, hG, 9, none, 0, [], rfl, plc_none _, .inr (.inl ⟨⟨HV.out, HPK.out⟩, by unfold stuckB; rw [HH.out, H0.out, HQ.out]; rfl, rfl, rfl⟩)⟩
   have HS := Lib.hid (show stuckB (usOf L) x = false from by unfold stuckB; rw [HH.out, H0.out, HQ.out]; rfl)
   go_wp2_with fail
   clear s0 x0 x1 x2
   refine (ref_PutN _ p c L x.item x.to 1 (HP0.out.grow G.out) FK.out F9.out (item_i64 HV.out HF.out)).mono ?_
   rintro _ w6 ⟨_, rfl, g1, p1, c1, L1, rfl, hpl, hu, hnew⟩
   have HPL := Lib.hid hpl
   have HUP := Lib.hid hu
   have HNW := Lib.hid hnew
   have HLP := Lib.hid TP.out.lt
   clear hpl hu hnew
   have G := Lib.hid (G.out.trans g1)
   have TM := Lib.hid (TM.out.grow g1)
   have TP := Lib.hid (TP.out.grow g1)
   have TX := Lib.hid (TX.out.grow g1)
   have T6 := Lib.hid (T6.out.grow g1)
   clear g1
   have q0 := TP.out.at 0 rfl
   have q1 := Cells.f TP.out 0
   unfold plcV
   have TP' := TP.out.set 0 (.slice p1 (L1).length c1)
   have HP := Lib.hid (HPL.out.off (b := bp) (i := 0) (u := .slice p1 (L1).length c1) HNW.out HLP.out)
   have TM := Lib.hid (TM.out.upd (upd_set w6 bp 0 (.slice p1 (L1).length c1)) HNE.out.1)
   have TX := Lib.hid (TX.out.upd (upd_set w6 bp 0 (.slice p1 (L1).length c1)) HNE.out.2.1)
   have T6 := Lib.hid (T6.out.upd (upd_set w6 bp 0 (.slice p1 (L1).length c1)) HNE.out.2.2)
   have G := Lib.hid (G.out.set HBP.out (i := 0) (.slice p1 (L1).length c1))
   have TP := Lib.hid (show Cells ((w6).setCell ⟨bp, 0, none⟩ (.slice p1 (L1).length c1)) bp #[.slice p1 (L1).length c1] from by simpa using TP')
   clear TP' HPL HLP HNW
   obtain ⟨w7, hV⟩ : ∃ W', World.setCell w6 ⟨bp, 0, none⟩ (.slice p1 (L1).length c1) = W' := ⟨_, rfl⟩
   rw [hV] at HP TM TX T6 G TP
   have HU1 := Lib.hid (show usOf L1 = begin1 (usOf L) x from by rw [HUP.out]; unfold begin1; rw [if_pos (by simpa using H0.out)])
   have HO1 := Lib.hid (show PlcOK M (usOf L1) from by rw [HU1.out]; exact begin1_ok HV.out HPK.out)
   have HW1 := Lib.hid HO1.out.fewP
   have m5 := mc5 TM.out _ (Gr.refl _)
   have s0 := TP.out.at 0 rfl
   have x0 : World.cell? _ ⟨_, 0, none⟩ = some (.int .i64 x.item) := (TX.out).at 0 rfl
   have x1 : World.cell? _ ⟨_, 1, none⟩ = some (.int .i64 x.frm) := (TX.out).at 1 rfl
   have x2 : World.cell? _ ⟨_, 2, none⟩ = some (.int .i64 x.to) := (TX.out).at 2 rfl
   obtain ⟨k, it, hxk, hit, hkd, _, _, _, hjob⟩ := move_facts HV.out
   have hkl := (List.getElem?_eq_some_iff.1 hit).1
   obtain ⟨bi, oi, it', hpi, hit', hci⟩ := item_at (HM0.out.grow G.out).items rfl hkl
   obtain rfl : it = it' := Option.some.inj (hit.symm.trans hit')
   rw [hpi] at m5
   have y1 := (hci _ (Gr.refl _)).2.1
   have hil : (k : Int) < (M.items.length : Int) := by omega
   have hwj : IntKind.i64.wrap (x.item - 1) = (k : Int) := by rw [IntKind.wrap_i64]; have := HM0.out.big.2.2.2.2.2.1; omega
   have HKD := Lib.hid hkd
   have HJB := Lib.hid hjob
   obtain ⟨tk, htk⟩ : ∃ t, (it.kind == 2) = t := ⟨_, rfl⟩
   have HTK := Lib.hid htk
   clear hit hit' hci hpi hkd hjob hxk
   cases tk
   ·have HK2 := Lib.hid (show ¬ kindI M x.item = 2 from by rw [HKD.out]; simpa using HTK.out)
    go_wp2_with fail
    clear m5 s0 x0 x1 x2 y1 hil hwj q0 q1 hV h0b h1b
    refine (ref_DropN _ p1 c1 L1 0 0 HP.out HW1.out.k (by decide)).mono ?_
    rintro _ wz ⟨_, rfl, g1, pz, cz, Lz, rfl, hpl, hu, hnew⟩
    have HPZ := Lib.hid hpl
    have HUZ := Lib.hid hu
    have HNZ := Lib.hid hnew
    have HL6 := Lib.hid T6.out.lt
    clear hpl hu hnew
    have G := Lib.hid (G.out.trans g1)
    have TM := Lib.hid (TM.out.grow g1)
    have TP := Lib.hid (TP.out.grow g1)
    have TX := Lib.hid (TX.out.grow g1)
    have T6 := Lib.hid (T6.out.grow g1)
    have HP := Lib.hid (HP.out.grow g1)
    clear g1
    have q0 := T6.out.at 0 rfl
    have q1 := Cells.f T6.out 0
    unfold plcV
    go_wp2_with fail
    have hT := T6.out.set 0 (.slice pz Lz.length cz)
    have hG := G.out.set HBR.out (i := 0) (.slice pz Lz.length cz)
    have hP := HPZ.out.off (b := br) (i := 0) (u := .slice pz Lz.length cz) HNZ.out HL6.out
    clear q0 q1
    generalize World.setCell _ _ _ = W4 at hT hG hP ⊢
    have y0 := hT.at 0 rfl
    try rw [Exit.noGoto_ret]
    refine bodyPost_ret (by simp [results, Tryz.results9, go_sem, y0]; rfl) rfl ?_
    exact ⟨_, rfl, hG, 0, pz, cz, Lz, rfl, hP, .inr (.inr ⟨⟨HV.out, HPK.out⟩, HS.out, rfl, by rw [HUZ.out]; exact ((drop_zero HO1.out _).trans (HU1.out.trans (by unfold beginX; rw [if_neg HK2.out])))⟩)⟩
   ·have HK2 := Lib.hid (show kindI M x.item = 2 from by rw [HKD.out]; simpa using HTK.out)
    go_wp2_with fail
    clear m5 s0 x0 x1 x2 y1 hil hwj q0 q1 hV h0b h1b
    refine (ref_PutN _ p1 c1 L1 x.item x.frm 2 HP.out HW1.out.k (fun l hl => by have := HW1.out.2 l hl; omega) (item_i64 HV.out HF.out)).mono ?_
    rintro _ w8 ⟨_, rfl, g1, p2, c2, L2, rfl, hpl, hu, hnew⟩
    have HPL := Lib.hid hpl
    have HU2 := Lib.hid hu
    have HNW := Lib.hid hnew
    have HLP := Lib.hid TP.out.lt
    clear hpl hu hnew
    have G := Lib.hid (G.out.trans g1)
    have TM := Lib.hid (TM.out.grow g1)
    have TP := Lib.hid (TP.out.grow g1)
    have TX := Lib.hid (TX.out.grow g1)
    have T6 := Lib.hid (T6.out.grow g1)
    clear g1
    have q0 := TP.out.at 0 rfl
    have q1 := Cells.f TP.out 0
    unfold plcV
    have TP' := TP.out.set 0 (.slice p2 (L2).length c2)
    have HP := Lib.hid (HPL.out.off (b := bp) (i := 0) (u := .slice p2 (L2).length c2) HNW.out HLP.out)
    have TM := Lib.hid (TM.out.upd (upd_set w8 bp 0 (.slice p2 (L2).length c2)) HNE.out.1)
    have TX := Lib.hid (TX.out.upd (upd_set w8 bp 0 (.slice p2 (L2).length c2)) HNE.out.2.1)
    have T6 := Lib.hid (T6.out.upd (upd_set w8 bp 0 (.slice p2 (L2).length c2)) HNE.out.2.2)
    have G := Lib.hid (G.out.set HBP.out (i := 0) (.slice p2 (L2).length c2))
    have TP := Lib.hid (show Cells ((w8).setCell ⟨bp, 0, none⟩ (.slice p2 (L2).length c2)) bp #[.slice p2 (L2).length c2] from by simpa using TP')
    clear TP' HPL HLP HNW
    obtain ⟨w9, hV⟩ : ∃ W', World.setCell w8 ⟨bp, 0, none⟩ (.slice p2 (L2).length c2) = W' := ⟨_, rfl⟩
    rw [hV] at HP TM TX T6 G TP
    have HE2 := Lib.hid (show usOf L2 = beginX M (usOf L) x from by rw [HU2.out]; unfold beginX; rw [if_pos HK2.out]; exact congrArg (fun Y => putP Y x.item x.frm 2) HU1.out)
    have HO2 := Lib.hid (show PlcOK M (usOf L2) from by rw [HE2.out]; exact begin_ok HV.out HPK.out)
    have HW2 := Lib.hid HO2.out.fewP
    have s0 := TP.out.at 0 rfl
    go_wp2_with fail
    clear s0 q0 q1 hV
    refine (ref_DropN _ p2 c2 L2 0 0 HP.out HW2.out.k (by decide)).mono ?_
    rintro _ wz ⟨_, rfl, g1, pz, cz, Lz, rfl, hpl, hu, hnew⟩
    have HPZ := Lib.hid hpl
    have HUZ := Lib.hid hu
    have HNZ := Lib.hid hnew
    have HL6 := Lib.hid T6.out.lt
    clear hpl hu hnew
    have G := Lib.hid (G.out.trans g1)
    have TM := Lib.hid (TM.out.grow g1)
    have TP := Lib.hid (TP.out.grow g1)
    have TX := Lib.hid (TX.out.grow g1)
    have T6 := Lib.hid (T6.out.grow g1)
    have HP := Lib.hid (HP.out.grow g1)
    clear g1
    have q0 := T6.out.at 0 rfl
    have q1 := Cells.f T6.out 0
    unfold plcV
    go_wp2_with fail
    have hT := T6.out.set 0 (.slice pz Lz.length cz)
    have hG := G.out.set HBR.out (i := 0) (.slice pz Lz.length cz)
    have hP := HPZ.out.off (b := br) (i := 0) (u := .slice pz Lz.length cz) HNZ.out HL6.out
    clear q0 q1
    generalize World.setCell _ _ _ = W4 at hT hG hP ⊢
    have y0 := hT.at 0 rfl
    try rw [Exit.noGoto_ret]
    refine bodyPost_ret (by simp [results, Tryz.results9, go_sem, y0]; rfl) rfl ?_
    exact ⟨_, rfl, hG, 0, pz, cz, Lz, rfl, hP, .inr (.inr ⟨⟨HV.out, HPK.out⟩, HS.out, rfl, by rw [HUZ.out]; exact (by rw [drop_zero HO2.out, HE2.out])⟩)⟩
 ·have h1b : (x.frm != 0) = true := by simp [h1]
  have H1 := Lib.hid (show (x.frm == 0) = false from by simp [h1])
  clear h1
  have s0 := TP.out.at 0 rfl
  have x0 : World.cell? _ ⟨_, 0, none⟩ = some (.int .i64 x.item) := (TX.out).at 0 rfl
  have x1 : World.cell? _ ⟨_, 1, none⟩ = some (.int .i64 x.frm) := (TX.out).at 1 rfl
  have x2 : World.cell? _ ⟨_, 2, none⟩ = some (.int .i64 x.to) := (TX.out).at 2 rfl
  go_wp2_with fail
  clear s0 x0 x1 x2
  refine (ref_is w3 p c L x.item x.frm 0 (HP0.out.grow G.out) FK.out).mono ?_
  rintro _ w4 ⟨_, rfl, g1, rfl⟩
  have G := Lib.hid (G.out.trans g1)
  have TM := Lib.hid (TM.out.grow g1)
  have TP := Lib.hid (TP.out.grow g1)
  have TX := Lib.hid (TX.out.grow g1)
  have T6 := Lib.hid (T6.out.grow g1)
  clear g1
  obtain ⟨hb, hh⟩ : ∃ b, ((stateP (usOf L) x.item x.frm).2 && (stateP (usOf L) x.item x.frm).1 == 0) = b := ⟨_, rfl⟩
  rw [hh]
  have HH := Lib.hid (show hasP (usOf L) x.item x.frm 0 = hb from by unfold hasP; rw [H1.out, hh]; rfl)
  clear hh
  have x0 : World.cell? _ ⟨_, 0, none⟩ = some (.int .i64 x.item) := (TX.out).at 0 rfl
  have x1 : World.cell? _ ⟨_, 1, none⟩ = some (.int .i64 x.frm) := (TX.out).at 1 rfl
  have x2 : World.cell? _ ⟨_, 2, none⟩ = some (.int .i64 x.to) := (TX.out).at 2 rfl
  cases hb
  ·have q0 := T6.out.at 0 rfl
   have q1 := Cells.f T6.out 0
   go_wp2_with fail
   have hT := T6.out.set 0 (.slice none 0 0)
   have hG := G.out.set HBR.out (i := 0) (.slice none 0 0)
   clear q0 q1
   generalize World.setCell _ _ _ = W4 at hT hG ⊢
   have y0 := hT.at 0 rfl
   try rw [Exit.noGoto_ret]
   refine bodyPost_ret (by simp [results, Tryz.results9, go_sem, y0]; rfl) rfl ?_
   exact ⟨_, rfl, hG, 9, none, 0, [], rfl, plc_none _, .inr (.inl ⟨⟨HV.out, HPK.out⟩, by unfold stuckB; rw [HH.out]; rfl, rfl, rfl⟩)⟩
  have s0 := TP.out.at 0 rfl
  by_cases h0 : x.to = 0
  ·have h0b : (x.to != 0) = false := by simp [h0]
   have H0 := Lib.hid h0b
   clear h0 s0
   have HS := Lib.hid (show stuckB (usOf L) x = false from by unfold stuckB; rw [HH.out, H0.out]; rfl)
   have HU1 := Lib.hid (show usOf L = begin1 (usOf L) x from by unfold begin1; rw [if_neg (by simpa using H0.out)])
   clear x0 x1 x2
   have HP := Lib.hid (HP0.out.grow G.out)
   have HO1 := Lib.hid (show PlcOK M (usOf L) from by rw [HU1.out]; exact begin1_ok HV.out HPK.out)
   have HW1 := Lib.hid HO1.out.fewP
   have m5 := mc5 TM.out _ (Gr.refl _)
   have s0 := TP.out.at 0 rfl
   have x0 : World.cell? _ ⟨_, 0, none⟩ = some (.int .i64 x.item) := (TX.out).at 0 rfl
   have x1 : World.cell? _ ⟨_, 1, none⟩ = some (.int .i64 x.frm) := (TX.out).at 1 rfl
   have x2 : World.cell? _ ⟨_, 2, none⟩ = some (.int .i64 x.to) := (TX.out).at 2 rfl
   obtain ⟨k, it, hxk, hit, hkd, _, _, _, hjob⟩ := move_facts HV.out
   have hkl := (List.getElem?_eq_some_iff.1 hit).1
   obtain ⟨bi, oi, it', hpi, hit', hci⟩ := item_at (HM0.out.grow G.out).items rfl hkl
   obtain rfl : it = it' := Option.some.inj (hit.symm.trans hit')
   rw [hpi] at m5
   have y1 := (hci _ (Gr.refl _)).2.1
   have hil : (k : Int) < (M.items.length : Int) := by omega
   have hwj : IntKind.i64.wrap (x.item - 1) = (k : Int) := by rw [IntKind.wrap_i64]; have := HM0.out.big.2.2.2.2.2.1; omega
   have HKD := Lib.hid hkd
   have HJB := Lib.hid hjob
   obtain ⟨tk, htk⟩ : ∃ t, (it.kind == 2) = t := ⟨_, rfl⟩
   have HTK := Lib.hid htk
   clear hit hit' hci hpi hkd hjob hxk
   cases tk
   ·have HK2 := Lib.hid (show ¬ kindI M x.item = 2 from by rw [HKD.out]; simpa using HTK.out)
    go_wp2_with fail
    clear m5 s0 x0 x1 x2 y1 hil hwj h0b h1b
    refine (ref_DropN _ p c L 0 0 HP.out HW1.out.k (by decide)).mono ?_
    rintro _ wz ⟨_, rfl, g1, pz, cz, Lz, rfl, hpl, hu, hnew⟩
    have HPZ := Lib.hid hpl
    have HUZ := Lib.hid hu
    have HNZ := Lib.hid hnew
    have HL6 := Lib.hid T6.out.lt
    clear hpl hu hnew
    have G := Lib.hid (G.out.trans g1)
    have TM := Lib.hid (TM.out.grow g1)
    have TP := Lib.hid (TP.out.grow g1)
    have TX := Lib.hid (TX.out.grow g1)
    have T6 := Lib.hid (T6.out.grow g1)
    have HP := Lib.hid (HP.out.grow g1)
    clear g1
    have q0 := T6.out.at 0 rfl
    have q1 := Cells.f T6.out 0
    unfold plcV
    go_wp2_with fail
    have hT := T6.out.set 0 (.slice pz Lz.length cz)
    have hG := G.out.set HBR.out (i := 0) (.slice pz Lz.length cz)
    have hP := HPZ.out.off (b := br) (i := 0) (u := .slice pz Lz.length cz) HNZ.out HL6.out
    clear q0 q1
    generalize World.setCell _ _ _ = W4 at hT hG hP ⊢
    have y0 := hT.at 0 rfl
    try rw [Exit.noGoto_ret]
    refine bodyPost_ret (by simp [results, Tryz.results9, go_sem, y0]; rfl) rfl ?_
    exact ⟨_, rfl, hG, 0, pz, cz, Lz, rfl, hP, .inr (.inr ⟨⟨HV.out, HPK.out⟩, HS.out, rfl, by rw [HUZ.out]; exact ((drop_zero HO1.out _).trans (HU1.out.trans (by unfold beginX; rw [if_neg HK2.out])))⟩)⟩
   ·have HK2 := Lib.hid (show kindI M x.item = 2 from by rw [HKD.out]; simpa using HTK.out)
    go_wp2_with fail
    clear m5 s0 x0 x1 x2 y1 hil hwj h0b h1b
    refine (ref_PutN _ p c L x.item x.frm 2 HP.out HW1.out.k (fun l hl => by have := HW1.out.2 l hl; omega) (item_i64 HV.out HF.out)).mono ?_
    rintro _ w8 ⟨_, rfl, g1, p2, c2, L2, rfl, hpl, hu, hnew⟩
    have HPL := Lib.hid hpl
    have HU2 := Lib.hid hu
    have HNW := Lib.hid hnew
    have HLP := Lib.hid TP.out.lt
    clear hpl hu hnew
    have G := Lib.hid (G.out.trans g1)
    have TM := Lib.hid (TM.out.grow g1)
    have TP := Lib.hid (TP.out.grow g1)
    have TX := Lib.hid (TX.out.grow g1)
    have T6 := Lib.hid (T6.out.grow g1)
    clear g1
    have q0 := TP.out.at 0 rfl
    have q1 := Cells.f TP.out 0
    unfold plcV
    have TP' := TP.out.set 0 (.slice p2 (L2).length c2)
    have HP := Lib.hid (HPL.out.off (b := bp) (i := 0) (u := .slice p2 (L2).length c2) HNW.out HLP.out)
    have TM := Lib.hid (TM.out.upd (upd_set w8 bp 0 (.slice p2 (L2).length c2)) HNE.out.1)
    have TX := Lib.hid (TX.out.upd (upd_set w8 bp 0 (.slice p2 (L2).length c2)) HNE.out.2.1)
    have T6 := Lib.hid (T6.out.upd (upd_set w8 bp 0 (.slice p2 (L2).length c2)) HNE.out.2.2)
    have G := Lib.hid (G.out.set HBP.out (i := 0) (.slice p2 (L2).length c2))
    have TP := Lib.hid (show Cells ((w8).setCell ⟨bp, 0, none⟩ (.slice p2 (L2).length c2)) bp #[.slice p2 (L2).length c2] from by simpa using TP')
    clear TP' HPL HLP HNW
    obtain ⟨w9, hV⟩ : ∃ W', World.setCell w8 ⟨bp, 0, none⟩ (.slice p2 (L2).length c2) = W' := ⟨_, rfl⟩
    rw [hV] at HP TM TX T6 G TP
    have HE2 := Lib.hid (show usOf L2 = beginX M (usOf L) x from by rw [HU2.out]; unfold beginX; rw [if_pos HK2.out]; exact congrArg (fun Y => putP Y x.item x.frm 2) HU1.out)
    have HO2 := Lib.hid (show PlcOK M (usOf L2) from by rw [HE2.out]; exact begin_ok HV.out HPK.out)
    have HW2 := Lib.hid HO2.out.fewP
    have s0 := TP.out.at 0 rfl
    go_wp2_with fail
    clear s0 q0 q1 hV
    refine (ref_DropN _ p2 c2 L2 0 0 HP.out HW2.out.k (by decide)).mono ?_
    rintro _ wz ⟨_, rfl, g1, pz, cz, Lz, rfl, hpl, hu, hnew⟩
    have HPZ := Lib.hid hpl
    have HUZ := Lib.hid hu
    have HNZ := Lib.hid hnew
    have HL6 := Lib.hid T6.out.lt
    clear hpl hu hnew
    have G := Lib.hid (G.out.trans g1)
    have TM := Lib.hid (TM.out.grow g1)
    have TP := Lib.hid (TP.out.grow g1)
    have TX := Lib.hid (TX.out.grow g1)
    have T6 := Lib.hid (T6.out.grow g1)
    have HP := Lib.hid (HP.out.grow g1)
    clear g1
    have q0 := T6.out.at 0 rfl
    have q1 := Cells.f T6.out 0
    unfold plcV
    go_wp2_with fail
    have hT := T6.out.set 0 (.slice pz Lz.length cz)
    have hG := G.out.set HBR.out (i := 0) (.slice pz Lz.length cz)
    have hP := HPZ.out.off (b := br) (i := 0) (u := .slice pz Lz.length cz) HNZ.out HL6.out
    clear q0 q1
    generalize World.setCell _ _ _ = W4 at hT hG hP ⊢
    have y0 := hT.at 0 rfl
    try rw [Exit.noGoto_ret]
    refine bodyPost_ret (by simp [results, Tryz.results9, go_sem, y0]; rfl) rfl ?_
    exact ⟨_, rfl, hG, 0, pz, cz, Lz, rfl, hP, .inr (.inr ⟨⟨HV.out, HPK.out⟩, HS.out, rfl, by rw [HUZ.out]; exact (by rw [drop_zero HO2.out, HE2.out])⟩)⟩
  ·have h0b : (x.to != 0) = true := by simp [h0]
   have H0 := Lib.hid h0b
   clear h0
   cases used
   rotate_left
   ·have q0 := T6.out.at 0 rfl
    have q1 := Cells.f T6.out 0
    go_wp2_with fail
    have hT := T6.out.set 0 (.slice none 0 0)
    have hG := G.out.set HBR.out (i := 0) (.slice none 0 0)
    clear q0 q1
    generalize World.setCell _ _ _ = W4 at hT hG ⊢
    have y0 := hT.at 0 rfl
    try rw [Exit.noGoto_ret]
    refine bodyPost_ret (by simp [results, Tryz.results9, go_sem, y0]; rfl) rfl ?_
    exact ⟨_, rfl, hG, 9, none, 0, [], rfl, plc_none _, .inr (.inl ⟨⟨HV.out, HPK.out⟩, by unfold stuckB; rw [HH.out, H0.out, HQ.out]; rfl, rfl, rfl⟩)⟩
   have HS := Lib.hid (show stuckB (usOf L) x = false from by unfold stuckB; rw [HH.out, H0.out, HQ.out]; rfl)
   go_wp2_with fail
   clear s0 x0 x1 x2
   refine (ref_PutN _ p c L x.item x.to 1 (HP0.out.grow G.out) FK.out F9.out (item_i64 HV.out HF.out)).mono ?_
   rintro _ w6 ⟨_, rfl, g1, p1, c1, L1, rfl, hpl, hu, hnew⟩
   have HPL := Lib.hid hpl
   have HUP := Lib.hid hu
   have HNW := Lib.hid hnew
   have HLP := Lib.hid TP.out.lt
   clear hpl hu hnew
   have G := Lib.hid (G.out.trans g1)
   have TM := Lib.hid (TM.out.grow g1)
   have TP := Lib.hid (TP.out.grow g1)
   have TX := Lib.hid (TX.out.grow g1)
   have T6 := Lib.hid (T6.out.grow g1)
   clear g1
   have q0 := TP.out.at 0 rfl
   have q1 := Cells.f TP.out 0
   unfold plcV
   have TP' := TP.out.set 0 (.slice p1 (L1).length c1)
   have HP := Lib.hid (HPL.out.off (b := bp) (i := 0) (u := .slice p1 (L1).length c1) HNW.out HLP.out)
   have TM := Lib.hid (TM.out.upd (upd_set w6 bp 0 (.slice p1 (L1).length c1)) HNE.out.1)
   have TX := Lib.hid (TX.out.upd (upd_set w6 bp 0 (.slice p1 (L1).length c1)) HNE.out.2.1)
   have T6 := Lib.hid (T6.out.upd (upd_set w6 bp 0 (.slice p1 (L1).length c1)) HNE.out.2.2)
   have G := Lib.hid (G.out.set HBP.out (i := 0) (.slice p1 (L1).length c1))
   have TP := Lib.hid (show Cells ((w6).setCell ⟨bp, 0, none⟩ (.slice p1 (L1).length c1)) bp #[.slice p1 (L1).length c1] from by simpa using TP')
   clear TP' HPL HLP HNW
   obtain ⟨w7, hV⟩ : ∃ W', World.setCell w6 ⟨bp, 0, none⟩ (.slice p1 (L1).length c1) = W' := ⟨_, rfl⟩
   rw [hV] at HP TM TX T6 G TP
   have HU1 := Lib.hid (show usOf L1 = begin1 (usOf L) x from by rw [HUP.out]; unfold begin1; rw [if_pos (by simpa using H0.out)])
   have HO1 := Lib.hid (show PlcOK M (usOf L1) from by rw [HU1.out]; exact begin1_ok HV.out HPK.out)
   have HW1 := Lib.hid HO1.out.fewP
   have m5 := mc5 TM.out _ (Gr.refl _)
   have s0 := TP.out.at 0 rfl
   have x0 : World.cell? _ ⟨_, 0, none⟩ = some (.int .i64 x.item) := (TX.out).at 0 rfl
   have x1 : World.cell? _ ⟨_, 1, none⟩ = some (.int .i64 x.frm) := (TX.out).at 1 rfl
   have x2 : World.cell? _ ⟨_, 2, none⟩ = some (.int .i64 x.to) := (TX.out).at 2 rfl
   obtain ⟨k, it, hxk, hit, hkd, _, _, _, hjob⟩ := move_facts HV.out
   have hkl := (List.getElem?_eq_some_iff.1 hit).1
   obtain ⟨bi, oi, it', hpi, hit', hci⟩ := item_at (HM0.out.grow G.out).items rfl hkl
   obtain rfl : it = it' := Option.some.inj (hit.symm.trans hit')
   rw [hpi] at m5
   have y1 := (hci _ (Gr.refl _)).2.1
   have hil : (k : Int) < (M.items.length : Int) := by omega
   have hwj : IntKind.i64.wrap (x.item - 1) = (k : Int) := by rw [IntKind.wrap_i64]; have := HM0.out.big.2.2.2.2.2.1; omega
   have HKD := Lib.hid hkd
   have HJB := Lib.hid hjob
   obtain ⟨tk, htk⟩ : ∃ t, (it.kind == 2) = t := ⟨_, rfl⟩
   have HTK := Lib.hid htk
   clear hit hit' hci hpi hkd hjob hxk
   cases tk
   ·have HK2 := Lib.hid (show ¬ kindI M x.item = 2 from by rw [HKD.out]; simpa using HTK.out)
    go_wp2_with fail
    clear m5 s0 x0 x1 x2 y1 hil hwj q0 q1 hV h0b h1b
    refine (ref_DropN _ p1 c1 L1 0 0 HP.out HW1.out.k (by decide)).mono ?_
    rintro _ wz ⟨_, rfl, g1, pz, cz, Lz, rfl, hpl, hu, hnew⟩
    have HPZ := Lib.hid hpl
    have HUZ := Lib.hid hu
    have HNZ := Lib.hid hnew
    have HL6 := Lib.hid T6.out.lt
    clear hpl hu hnew
    have G := Lib.hid (G.out.trans g1)
    have TM := Lib.hid (TM.out.grow g1)
    have TP := Lib.hid (TP.out.grow g1)
    have TX := Lib.hid (TX.out.grow g1)
    have T6 := Lib.hid (T6.out.grow g1)
    have HP := Lib.hid (HP.out.grow g1)
    clear g1
    have q0 := T6.out.at 0 rfl
    have q1 := Cells.f T6.out 0
    unfold plcV
    go_wp2_with fail
    have hT := T6.out.set 0 (.slice pz Lz.length cz)
    have hG := G.out.set HBR.out (i := 0) (.slice pz Lz.length cz)
    have hP := HPZ.out.off (b := br) (i := 0) (u := .slice pz Lz.length cz) HNZ.out HL6.out
    clear q0 q1
    generalize World.setCell _ _ _ = W4 at hT hG hP ⊢
    have y0 := hT.at 0 rfl
    try rw [Exit.noGoto_ret]
    refine bodyPost_ret (by simp [results, Tryz.results9, go_sem, y0]; rfl) rfl ?_
    exact ⟨_, rfl, hG, 0, pz, cz, Lz, rfl, hP, .inr (.inr ⟨⟨HV.out, HPK.out⟩, HS.out, rfl, by rw [HUZ.out]; exact ((drop_zero HO1.out _).trans (HU1.out.trans (by unfold beginX; rw [if_neg HK2.out])))⟩)⟩
   ·have HK2 := Lib.hid (show kindI M x.item = 2 from by rw [HKD.out]; simpa using HTK.out)
    go_wp2_with fail
    clear m5 s0 x0 x1 x2 y1 hil hwj q0 q1 hV h0b h1b
    refine (ref_PutN _ p1 c1 L1 x.item x.frm 2 HP.out HW1.out.k (fun l hl => by have := HW1.out.2 l hl; omega) (item_i64 HV.out HF.out)).mono ?_
    rintro _ w8 ⟨_, rfl, g1, p2, c2, L2, rfl, hpl, hu, hnew⟩
    have HPL := Lib.hid hpl
    have HU2 := Lib.hid hu
    have HNW := Lib.hid hnew
    have HLP := Lib.hid TP.out.lt
    clear hpl hu hnew
    have G := Lib.hid (G.out.trans g1)
    have TM := Lib.hid (TM.out.grow g1)
    have TP := Lib.hid (TP.out.grow g1)
    have TX := Lib.hid (TX.out.grow g1)
    have T6 := Lib.hid (T6.out.grow g1)
    clear g1
    have q0 := TP.out.at 0 rfl
    have q1 := Cells.f TP.out 0
    unfold plcV
    have TP' := TP.out.set 0 (.slice p2 (L2).length c2)
    have HP := Lib.hid (HPL.out.off (b := bp) (i := 0) (u := .slice p2 (L2).length c2) HNW.out HLP.out)
    have TM := Lib.hid (TM.out.upd (upd_set w8 bp 0 (.slice p2 (L2).length c2)) HNE.out.1)
    have TX := Lib.hid (TX.out.upd (upd_set w8 bp 0 (.slice p2 (L2).length c2)) HNE.out.2.1)
    have T6 := Lib.hid (T6.out.upd (upd_set w8 bp 0 (.slice p2 (L2).length c2)) HNE.out.2.2)
    have G := Lib.hid (G.out.set HBP.out (i := 0) (.slice p2 (L2).length c2))
    have TP := Lib.hid (show Cells ((w8).setCell ⟨bp, 0, none⟩ (.slice p2 (L2).length c2)) bp #[.slice p2 (L2).length c2] from by simpa using TP')
    clear TP' HPL HLP HNW
    obtain ⟨w9, hV⟩ : ∃ W', World.setCell w8 ⟨bp, 0, none⟩ (.slice p2 (L2).length c2) = W' := ⟨_, rfl⟩
    rw [hV] at HP TM TX T6 G TP
    have HE2 := Lib.hid (show usOf L2 = beginX M (usOf L) x from by rw [HU2.out]; unfold beginX; rw [if_pos HK2.out]; exact congrArg (fun Y => putP Y x.item x.frm 2) HU1.out)
    have HO2 := Lib.hid (show PlcOK M (usOf L2) from by rw [HE2.out]; exact begin_ok HV.out HPK.out)
    have HW2 := Lib.hid HO2.out.fewP
    have s0 := TP.out.at 0 rfl
    go_wp2_with fail
    clear s0 q0 q1 hV
    refine (ref_DropN _ p2 c2 L2 0 0 HP.out HW2.out.k (by decide)).mono ?_
    rintro _ wz ⟨_, rfl, g1, pz, cz, Lz, rfl, hpl, hu, hnew⟩
    have HPZ := Lib.hid hpl
    have HUZ := Lib.hid hu
    have HNZ := Lib.hid hnew
    have HL6 := Lib.hid T6.out.lt
    clear hpl hu hnew
    have G := Lib.hid (G.out.trans g1)
    have TM := Lib.hid (TM.out.grow g1)
    have TP := Lib.hid (TP.out.grow g1)
    have TX := Lib.hid (TX.out.grow g1)
    have T6 := Lib.hid (T6.out.grow g1)
    have HP := Lib.hid (HP.out.grow g1)
    clear g1
    have q0 := T6.out.at 0 rfl
    have q1 := Cells.f T6.out 0
    unfold plcV
    go_wp2_with fail
    have hT := T6.out.set 0 (.slice pz Lz.length cz)
    have hG := G.out.set HBR.out (i := 0) (.slice pz Lz.length cz)
    have hP := HPZ.out.off (b := br) (i := 0) (u := .slice pz Lz.length cz) HNZ.out HL6.out
    clear q0 q1
    generalize World.setCell _ _ _ = W4 at hT hG hP ⊢
    have y0 := hT.at 0 rfl
    try rw [Exit.noGoto_ret]
    refine bodyPost_ret (by simp [results, Tryz.results9, go_sem, y0]; rfl) rfl ?_
    exact ⟨_, rfl, hG, 0, pz, cz, Lz, rfl, hP, .inr (.inr ⟨⟨HV.out, HPK.out⟩, HS.out, rfl, by rw [HUZ.out]; exact (by rw [drop_zero HO2.out, HE2.out])⟩)⟩
end Go.Proofs.YtnlocdijdfclcaaGreatDoor

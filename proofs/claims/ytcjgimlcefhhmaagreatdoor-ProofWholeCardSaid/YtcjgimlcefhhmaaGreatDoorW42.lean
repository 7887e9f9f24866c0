/- Texts: CuI PvA PvB. -/
import Derived.Test.YtcjgimlcefhhmaaGreatDoorW31
import Derived.Test.YtcjgimlcefhhmaaGreatDoorW35
import Derived.Test.YtcjgimlcefhhmaaGreatDoorW36
import Derived.Test.YtcjgimlcefhhmaaGreatDoorW41
set_option linter.unusedVariables false
set_option linter.unusedSimpArgs false
set_option maxRecDepth 100000
set_option maxHeartbeats 12800000
namespace Go.Proofs.YtcjgimlcefhhmaaGreatDoor
namespace Prf
open Go.RowKit Go.Lib
def AddN (p : Prg) (c : CutS) (w0 : World) (r : Value) (w : World) : Prop :=
 (∃ (rs : RowS) (pv : Value), ξ0m p c rs ∧ r = .tuple #[pv, .int .i64 0] ∧ ξ0L w w0.heap.size pv (addRow p rs)) ∨ ((∀ rs, ¬ ξ0m p c rs) ∧ ∃ e : Int, e ≠ 0 ∧ r = .tuple #[.agg #[.slice none 0 0, .slice none 0 0], .int .i64 e])
theorem ξd7 (w : World) (v u : Value) (p : Prg) (c : CutS) (hp : ξC w v p) (hc : ξ1j w u c 4) (hcl : c.mult.length ≤ 16) (hcs : ∀ x ∈ c.mult, Sz 4 x) (hcv : c.vars.length ≤ 1000) (hk : ξr p) (hw : Whole p) (hn : p.vars.length ≤ 10) (hm : p.rows.length ≤ 40) (htl : ∀ r ∈ p.rows, r.terms.length ≤ 1000000) :
  Calls Tryz.prog 49 #[v, u] w (Ret w (AddN p c w)) := by
 have HK := ξ hk
 have HW := ξ hw
 have HP := ξ hp
 have HC := ξ hc
 have HCS := ξ hcs
 have HTL := ξ htl
 clear hk hw hcs htl
 obtain ⟨pm, nm, cm, pv, nv, cv, rfl, -, -, rfl, rfl⟩ := hc.parts
 clear hc
 obtain ⟨va, vc, vb, vd, rfl, hv, hr⟩ := hp
 have B0 := ξ0.new w #[.slice va p.vars.length vc, .slice vb p.rows.length vd] 25
 have B1 := ξ0.new (w.alloc (.cells #[.slice va p.vars.length vc, .slice vb p.rows.length vd] 25)) #[.int .i64 c.kind, .slice pm c.mult.length cm, .int .i64 c.row, .slice pv c.vars.length cv] 45
 have B2 := ξ0.new ((w.alloc (.cells #[.slice va p.vars.length vc, .slice vb p.rows.length vd] 25)).alloc (.cells #[.int .i64 c.kind, .slice pm c.mult.length cm, .int .i64 c.row, .slice pv c.vars.length cv] 45)) #[.slice none 0 0, .slice none 0 0] 25
 simp only [World.size_alloc] at B1 B2
 have HB := ξ (show _ ∧ ξ0 _ _ #[.slice va p.vars.length vc, .slice vb p.rows.length vd] ∧ ξ0 _ _ #[.int .i64 c.kind, .slice pm c.mult.length cm, .int .i64 c.row, .slice pv c.vars.length cv] ∧ ξ0 _ _ #[.slice none 0 0, .slice none 0 0] from ⟨B0.1.trans (B1.1.trans B2.1), B0.2.grow (B1.1.trans B2.1), B1.2.grow B2.1, B2.2⟩)
 clear hv hr B0 B1 B2
 unfold prgV at HP ⊢
 go_enter Tryz.func49, Tryz.ntmps49
 go_wp2_with fail
 generalize hb4 : w.heap.size + 1 + 1 = b4 at HB ⊢
 generalize hbc : w.heap.size + 1 = bc at HB ⊢
 generalize hbp : w.heap.size = bp at HB ⊢
 generalize ((w.alloc _).alloc _).alloc _ = W at HB ⊢
 have HB4 := ξ (show w.heap.size ≤ b4 from by omega)
 clear hb4 hbc hbp
 have G := ξ HB.out.1
 have TP := ξ HB.out.2.1
 have TC := ξ HB.out.2.2.1
 have T4 := ξ HB.out.2.2.2
 clear HB
 have x0 := TC.out.at 0 rfl
 have x1 := TC.out.at 1 rfl
 have x2 := TC.out.at 2 rfl
 have x3 := TC.out.at 3 rfl
 have y0 := TP.out.at 0 rfl
 have y1 := TP.out.at 1 rfl
 try go_wp2_with fail
 clear x0 x1 x2 x3 y0 y1
 refine (ξaD W _ _ p c (HP.out.grow G.out) (HC.out.grow G.out) hcl HCS.out hcv HK.out HW.out hn hm).mono ?_
 rintro _ w1 ⟨r1, rfl, g1, h1⟩
 have HLW := ξ (show b4 < W.heap.size ∧ w.heap.size ≤ W.heap.size ∧ W.heap.size ≤ w1.heap.size from ⟨T4.out.lt, G.out.size, g1.size⟩)
 have G := ξ (G.out.trans g1)
 have TP := ξ (TP.out.grow g1)
 have T4 := ξ (T4.out.grow g1)
 clear g1 TC
 rcases h1 with ⟨rs, x, hd, rfl, hxs, hxt⟩ | ⟨hno, e, he, rfl⟩
 rotate_left
 ·have H := ξ hno
  have HE := ξ he
  have heb : (e != 0) = true := by simpa using he
  have heb2 : (e == 0) = false := by simpa using he
  have g6 : Gr w1 (w1.alloc (.cells rowZ 42)) := (Gr.refl _).alloc _
  have G := ξ (G.out.trans g6)
  have T4 := ξ (T4.out.grow g6)
  have c0 := T4.out.at 0 rfl
  have c1 := T4.out.at 1 rfl
  have f0 := ξ0.f T4.out 0
  have f1 := ξ0.f T4.out 1
  have HXX := ξ (fill2 (.slice none 0 0) (.slice none 0 0) T4.out G.out HB4.out)
  clear hno he g6
  unfold rowZ at c0 c1 f0 f1 HXX ⊢
  go_wp2_with fail
  try rw [Exit.noGoto_ret]
  generalize ((w1.alloc _).setCell _ _).setCell _ _ = W5 at HXX ⊢
  clear c0 c1 f0 f1
  have z0 := HXX.out.2.1.at 0 rfl
  have z1 := HXX.out.2.1.at 1 rfl
  refine bodyPost_ret (by simp [results, Tryz.results49, go_sem, z0, z1]; rfl) rfl ?_
  exact ⟨_, rfl, HXX.out.1, .inr ⟨H.out, e, HE.out, rfl⟩⟩
 ·have HD := ξ (And.intro hd hxs)
  have B6 := ξ0.new w1 #[.string ⟨x.name.toArray⟩, .int .i64 x.group, .int .i64 x.kind, .slice x.tp x.terms.length x.tc, .int .i64 x.bound] 42
  have HXT := ξ (hxt.1.grow B6.1)
  have HXB := ξ (World.ownsRow.lt hxt.1)
  have G := ξ (G.out.trans B6.1)
  have TP := ξ (TP.out.grow B6.1)
  have T4 := ξ (T4.out.grow B6.1)
  have T6 := ξ B6.2
  have HL0 := ξ (show w1.heap.size ≤ w1.heap.size from Nat.le_refl _)
  have HL6 := ξ (show b4 ≠ w1.heap.size from by have := HLW.out; omega)
  have y0 := TP.out.at 0 rfl
  have y1 := TP.out.at 1 rfl
  have h40 : ¬ (4000 : Int) ≤ (p.rows.length : Int) := by omega
  have h41 : ¬ 4000 ≤ p.rows.length := by omega
  clear hd hxs hxt B6
  unfold rowV
  go_wp2_with fail
  clear y0 y1 h40 h41
  have HL1 := ξ (show w1.heap.size < (w1.alloc (.cells #[.string ⟨x.name.toArray⟩, .int .i64 x.group, .int .i64 x.kind, .slice x.tp x.terms.length x.tc, .int .i64 x.bound] 42)).heap.size from by rw [World.size_alloc]; omega)
  generalize hb6 : w1.heap.size = b6 at T6 HL6 HL1 HLW HXB ⊢
  generalize w1.alloc _ = w2 at T6 G TP T4 HXT HL1 ⊢
  clear hb6
  refine (ξ9Q w2 _ p (HP.out.grow G.out) (by omega) (by omega) HTL.out).mono ?_
  rintro _ w3 ⟨r3, rfl, g3, va3, vc3, vb3, vd3, T, rfl, ho, hor, hT, htt, hsep⟩
  have B8 := ξ0.new w3 #[.slice va3 p.vars.length vc3, .slice vb3 p.rows.length vd3] 25
  have HTLN := ξ (show T.length = p.rows.length from by have := congrArg List.length hT; simpa using this)
  have HTM := ξ hT
  have HLR := ξ (World.ownsRow.lt hor)
  have HLV := ξ (World.ownsRow.lt ho)
  have HLT := ξ (show ∀ y ∈ T, ∀ k, (tv y).ownBlock = some k → w2.heap.size ≤ k ∧ k < w3.heap.size from fun y hy => World.ownsRow.lt (htt y hy))
  have HSEP := ξ hsep
  have HO := ξ (ho.grow B8.1)
  have HOR := ξ (hor.grow B8.1)
  have HTT := ξ (show ∀ y ∈ T, ξ0z _ w2.heap.size y from fun y hy => (htt y hy).grow B8.1)
  have HXT := ξ (HXT.out.grow (g3.trans B8.1))
  have HGS := ξ (show w2.heap.size ≤ w3.heap.size ∧ w.heap.size ≤ w2.heap.size from ⟨g3.size, G.out.size⟩)
  have G := ξ (G.out.trans (g3.trans B8.1))
  have T4 := ξ (T4.out.grow (g3.trans B8.1))
  have T6 := ξ (T6.out.grow (g3.trans B8.1))
  have T8 := ξ B8.2
  have t0 := T6.out.at 0 rfl
  have t1 := T6.out.at 1 rfl
  have t2 := T6.out.at 2 rfl
  have t3 := T6.out.at 3 rfl
  have t4 := T6.out.at 4 rfl
  have q1 := T8.out.at 1 rfl
  clear ho hor hT htt hsep g3 B8 TP
  unfold prgV
  go_wp2_with (at_builtin; refine Hold.hold ?_)
  clear t0 t1 t2 t3 t4 q1
  have hsz : (w3.alloc (.cells #[.slice va3 p.vars.length vc3, .slice vb3 p.rows.length vd3] 25)).heap.size = w3.heap.size + 1 := World.size_alloc ..
  have HS3 := ξ hsz
  rw [← hsz]
  clear hsz
  generalize w3.heap.size = b8 at T8 HLR HLV HLT HGS HS3 ⊢
  generalize w3.alloc _ = w4 at T8 HO HOR HTT HXT G T4 HS3 ⊢
  have BS := SlL.new (enc := encRow) (sz := 5) w4 42 ξD [x] #[.string ⟨x.name.toArray⟩, .int .i64 x.group, .int .i64 x.kind, .slice x.tp x.terms.length x.tc, .int .i64 x.bound] 1 rfl rfl (by decide)
  have HBS := ξ BS.2
  have T8 := ξ (T8.out.grow BS.1)
  have T4 := ξ (T4.out.grow BS.1)
  have HO := ξ (HO.out.grow BS.1)
  have HOR := ξ (HOR.out.grow BS.1)
  have HTT := ξ (show ∀ y ∈ T, ξ0z _ w2.heap.size y from fun y hy => (HTT.out y hy).grow BS.1)
  have HXT := ξ (HXT.out.grow BS.1)
  have G := ξ (G.out.trans BS.1)
  have HS4 := ξ (show b8 < (w4.alloc (.cells #[.string ⟨x.name.toArray⟩, .int .i64 x.group, .int .i64 x.kind, .slice x.tp x.terms.length x.tc, .int .i64 x.bound] 42)).heap.size from by have := HS3.out; rw [World.size_alloc]; omega)
  clear BS
  generalize w4.heap.size = bs at HBS ⊢
  generalize w4.alloc _ = w5 at T8 HO HOR HTT HXT G T4 HBS HS4 ⊢
  refine Hold.go ?_
  refine wpList_plain rfl (fun K hK => ?_)
  refine ξ05 _ _ 23 42 _ 64 rfl Tryz.underlying23 ξ0Q rfl (by decide) ξD ξ0j w2.heap.size (.slice vb3 p.rows.length vd3) _ T [x] rfl HOR.out rfl HBS.out (by have := HTLN.out; simp; omega) (by have := HTLN.out; simp; omega) (by have := HGS.out; have := HS4.out; omega) (by simp) ?_
  intro rv' w6 h1 h2 h3
  have hG6 : Gr w w6 := OwnL.gr (OwnL.low HOR.out HGS.out.2) G.out h2
  have c8 := ξE T8.out (h2.block b8 T8.out.lt (fun e => by have := (HLR.out _ e.symm).2; omega))
  have c4 := ξE T4.out (h2.block b4 T4.out.lt (fun e => by have := (HLR.out _ e.symm).1; have := HLW.out; have := HL1.out; omega))
  have k0 : OwnL w6 w2.heap.size 62 5 encVar (.slice va3 p.vars.length vc3) p.vars := OwnL.keptR HO.out h2 fun b hb => (HSEP.out b hb).1
  have k1 : ∀ y ∈ T, ξ0z w6 w2.heap.size y := fun y hy => OwnL.keptR (HTT.out y hy) h2 fun b hb => (HSEP.out b hb).2 y hy
  have k2 : OwnL w6 W.heap.size 75 2 encTerm (.slice x.tp x.terms.length x.tc) x.terms := OwnL.keptR HXT.out h2 fun b hb e => by have := (HLR.out _ hb).1; have := (HXB.out _ e).2; have := HL1.out; omega
  have hbr : ∀ k, rv'.ownBlock = some k → w2.heap.size ≤ k ∧ k ≠ b8 := fun k hk' => by
   rcases h3 with h3 | h3
   ·rw [h3] at hk'
    have := HLR.out _ hk'
    exact ⟨this.1, by omega⟩
   ·rw [h3] at hk'
    obtain rfl := Option.some.inj hk'
    have := HS4.out
    have := HGS.out
    exact ⟨by omega, by omega⟩
  obtain ⟨pr, cr, hrv, -, -⟩ := h1.read.parts
  rw [show (T ++ [x]).length = p.rows.length + 1 from by have := HTLN.out; simp; omega] at hrv
  subst hrv
  have q1 := c8.at 1 rfl
  have q2 := ξ0.f c8 1
  have hu := ξx w6 b8 1 (.slice pr (p.rows.length + 1) cr)
  have H7 := ξ (show Gr w (w6.setCell ⟨b8, 1, none⟩ (.slice pr (p.rows.length + 1) cr)) ∧ ξ0 (w6.setCell ⟨b8, 1, none⟩ (.slice pr (p.rows.length + 1) cr)) b8 #[.slice va3 p.vars.length vc3, .slice pr (p.rows.length + 1) cr] ∧ ξ0 (w6.setCell ⟨b8, 1, none⟩ (.slice pr (p.rows.length + 1) cr)) b4 #[.slice none 0 0, .slice none 0 0] ∧
    OwnL (w6.setCell ⟨b8, 1, none⟩ (.slice pr (p.rows.length + 1) cr)) w2.heap.size 62 5 encVar (.slice va3 p.vars.length vc3) p.vars ∧ OwnL (w6.setCell ⟨b8, 1, none⟩ (.slice pr (p.rows.length + 1) cr)) w2.heap.size 42 5 encRow (.slice pr (p.rows.length + 1) cr) (T ++ [x]) ∧
    (∀ y ∈ T, ξ0z (w6.setCell ⟨b8, 1, none⟩ (.slice pr (p.rows.length + 1) cr)) w2.heap.size y) ∧ OwnL (w6.setCell ⟨b8, 1, none⟩ (.slice pr (p.rows.length + 1) cr)) W.heap.size 75 2 encTerm (.slice x.tp x.terms.length x.tc) x.terms from by
   have n8 := HGS.out
   have nl := HLW.out
   have n1 := HL1.out
   have o8x : (Value.slice x.tp x.terms.length x.tc).ownBlock ≠ some b8 := fun e => by have h := HXB.out _ e; have n0 := HL0.out; omega
   refine ⟨Gr.set hG6 (by omega) _, ?_, c4.upd hu (by omega), k0.other (fun e => by have := (HLV.out _ e).2; omega), h1.other (fun e => (hbr _ e).2 rfl), fun y hy => OwnL.other (k1 y hy) (fun e => by have := (HLT.out y hy _ e).2; omega), k2.other o8x⟩
   have := c8.set 1 (.slice pr (p.rows.length + 1) cr)
   simpa using this)
  clear h1 h2 h3 hG6 c8 c4 k0 k1 k2 hu
  have HBR := ξ hbr
  clear hbr
  refine hK _ _ ?_
  clear hK K
  have hne1 : ¬ b4 = b8 := by have := HGS.out; have := HLW.out; have := HL1.out; omega
  have hne2 : ¬ b8 = b4 := fun e => hne1 e.symm
  have d0 := H7.out.2.1.at 0 rfl
  have d1 := H7.out.2.1.at 1 rfl
  have e0 := H7.out.2.2.1.at 0 rfl
  have e1 := H7.out.2.2.1.at 1 rfl
  have f0 := ξ0.f H7.out.2.2.1 0
  have f1 := ξ0.f H7.out.2.2.1 1
  have hf := fill2 (.slice va3 p.vars.length vc3) (.slice pr (p.rows.length + 1) cr) H7.out.2.2.1 H7.out.1 HB4.out
  have o4v : (Value.slice va3 p.vars.length vc3).ownBlock ≠ some b4 := fun e => by have := (HLV.out _ e).1; have := HLW.out; have := HL1.out; omega
  have o4r : (Value.slice pr (p.rows.length + 1) cr).ownBlock ≠ some b4 := fun e => by have := (HBR.out _ e).1; have := HLW.out; have := HL1.out; omega
  have o4x : (Value.slice x.tp x.terms.length x.tc).ownBlock ≠ some b4 := fun e => by have := (HXB.out _ e).1; have := HLW.out; omega
  have o4t : ∀ y ∈ T, (tv y).ownBlock ≠ some b4 := fun y hy e => by have h0 := (HLT.out y hy _ e).1; have h1 := HLW.out; have h2 := HL1.out; omega
  have H8 := ξ (And.intro hf.1 (And.intro hf.2.1 (And.intro (OwnL.fill H7.out.2.2.2.1 o4v (.slice va3 p.vars.length vc3) (.slice pr (p.rows.length + 1) cr)) (And.intro (OwnL.fill H7.out.2.2.2.2.1 o4r (.slice va3 p.vars.length vc3) (.slice pr (p.rows.length + 1) cr)) (And.intro (show ∀ y ∈ T, ξ0z _ w2.heap.size y from fun y hy => OwnL.fill (H7.out.2.2.2.2.2.1 y hy) (o4t y hy) (.slice va3 p.vars.length vc3) (.slice pr (p.rows.length + 1) cr)) (OwnL.fill H7.out.2.2.2.2.2.2 o4x (.slice va3 p.vars.length vc3) (.slice pr (p.rows.length + 1) cr)))))))
  clear hf o4v o4r o4x o4t
  go_wp2_with fail
  clear d0 d1 e0 e1 f0 f1 q1 q2 hne1 hne2
  try rw [Exit.noGoto_ret]
  generalize ((w6.setCell _ _).setCell _ _).setCell _ _ = W9 at H8 ⊢
  have z0 := H8.out.2.1.at 0 rfl
  have z1 := H8.out.2.1.at 1 rfl
  refine bodyPost_ret (by simp [results, Tryz.results49, go_sem, z0, z1]; rfl) rfl ?_
  have el : (addRow p rs).rows.length = p.rows.length + 1 := by simp [addRow]
  refine ⟨_, rfl, H8.out.1, .inl ⟨rs, _, HD.out.1, rfl, va3, vc3, pr, cr, T ++ [x], ?_, OwnL.low H8.out.2.2.1 HGS.out.2, ?_, ?_, fun y hy => ?_⟩⟩
  ·unfold prgV; rw [el]; rfl
  ·rw [el]; exact OwnL.low H8.out.2.2.2.1 HGS.out.2
  ·rw [List.map_append, HTM.out, List.map_cons, List.map_nil, HD.out.2]; rfl
  ·rcases List.mem_append.1 hy with hy | hy
   ·exact OwnL.low (H8.out.2.2.2.2.1 y hy) HGS.out.2
   ·obtain rfl := List.mem_singleton.1 hy
    exact OwnL.low H8.out.2.2.2.2.2 HLW.out.2.1
theorem ξ5r (w : World) (u : Value) (c : CutS) (L : Nat) (hc : ξ1j w u c L) : Calls Tryz.prog 99 #[u] w (Ret w fun r _ => ξ1 (ξ0e c) r) := by
 obtain ⟨pm, nm, cm, pv, nv, cv, rfl, -, -, rfl, rfl⟩ := hc.parts
 clear hc
 have HI := ξ (ξ5P (c := c))
 obtain ⟨k, hk⟩ : ∃ z, c.kind = z := ⟨_, rfl⟩
 obtain ⟨rw', hrw⟩ : ∃ z, c.row = z := ⟨_, rfl⟩
 obtain ⟨nv, hnv⟩ : ∃ z, c.vars.length = z := ⟨_, rfl⟩
 obtain ⟨nm, hnm⟩ : ∃ z, c.mult.length = z := ⟨_, rfl⟩
 have HE := ξ (show ξ0e c ↔ k = 0 ∧ rw' = 0 ∧ nm = 0 ∧ nv = 0 from by rw [HI.out, hk, hrw, hnv, hnm])
 rw [hk, hrw, hnv, hnm]
 have HB := ξ (show Gr w (w.alloc (.cells #[.int .i64 k, .slice pm nm cm, .int .i64 rw', .slice pv nv cv] 45)) from (Gr.refl _).alloc _)
 clear hk hrw hnv hnm
 by_cases h0 : k = 0
 ·subst h0
  by_cases h1 : nm = 0
  ·subst h1
   by_cases h2 : rw' = 0
   ·subst h2
    by_cases h3 : nv = 0
    ·subst h3
     have H := ξ (show ξ0e c from HE.out.2 ⟨rfl, rfl, rfl, rfl⟩)
     go_enter Tryz.func99, Tryz.ntmps99
     go_wp2_with fail
     go_ret
     exact ⟨_, rfl, HB.out, ξ1.yes H.out⟩
    ·have e1 : ((nv : Int) == 0) = false := by simpa using h3
     have H := ξ (show ¬ ξ0e c from fun h => h3 (HE.out.1 h).2.2.2)
     go_enter Tryz.func99, Tryz.ntmps99
     go_wp2_with fail
     go_ret
     exact ⟨_, rfl, HB.out, ξ1.no H.out⟩
   ·have e1 : (rw' == 0) = false := by simpa using h2
    have H := ξ (show ¬ ξ0e c from fun h => h2 (HE.out.1 h).2.1)
    go_enter Tryz.func99, Tryz.ntmps99
    go_wp2_with fail
    go_ret
    exact ⟨_, rfl, HB.out, ξ1.no H.out⟩
  ·have e1 : ((nm : Int) == 0) = false := by simpa using h1
   have H := ξ (show ¬ ξ0e c from fun h => h1 (HE.out.1 h).2.2.1)
   go_enter Tryz.func99, Tryz.ntmps99
   go_wp2_with fail
   go_ret
   exact ⟨_, rfl, HB.out, ξ1.no H.out⟩
 ·have e1 : (k == 0) = false := by simpa using h0
  have H := ξ (show ¬ ξ0e c from fun h => h0 (HE.out.1 h).1)
  go_enter Tryz.func99, Tryz.ntmps99
  go_wp2_with fail
  go_ret
  exact ⟨_, rfl, HB.out, ξ1.no H.out⟩
def ξJ (n : ξ6) (a b c d : Bool) : Prop := (a = true ∨ n.mult.length = 0) ∧ (b = true ∨ n.var = 0) ∧ (c = true ∨ n.pos = 0) ∧ (d = true ∨ ξ0e n.cut)
abbrev nodeA (x : ξb) : Array Value := #[.int .i64 x.kind, .slice x.mp x.mn x.mc, .int .i64 x.var, .int .i64 x.pos, .int .i64 x.ck, .slice x.cp x.cn x.cc, .int .i64 x.row, .slice x.vp x.vn x.vc]
theorem ξdb (w : World) (b : Nat) (x : ξb) (n : ξ6) (L : Nat) (hc : ξ0 w b (nodeA x)) (hn : ξS w x n L) :
  Calls Tryz.prog 98 #[.bool true, .bool false, .bool false, .bool false, .pointer (some ⟨b, 0, none⟩)] w (Ret w fun r _ => ξ1 (ξJ n true false false false) r) := by
 obtain ⟨mn, hmn⟩ : ∃ z, n.mult.length = z := ⟨_, rfl⟩
 obtain ⟨vr, hvr⟩ : ∃ z, n.var = z := ⟨_, rfl⟩
 obtain ⟨ps, hps⟩ : ∃ z, n.pos = z := ⟨_, rfl⟩
 have HMN := ξ hmn
 have HVR := ξ hvr
 have HPS := ξ hps
 have HCU := ξ hn.cut
 unfold ξb.cutV at HCU
 have q1 : w.cell? ⟨b, 1, none⟩ = some (.slice x.mp mn x.mc) := by rw [← hmn, ← hn.mn]; exact hc.at 1 rfl
 have q2 : w.cell? ⟨b, 2, none⟩ = some (.int .i64 vr) := by rw [← hvr, ← hn.var]; exact hc.at 2 rfl
 have q3 : w.cell? ⟨b, 3, none⟩ = some (.int .i64 ps) := by rw [← hps, ← hn.pos]; exact hc.at 3 rfl
 have q4 := hc.at 4 rfl
 have q5 := hc.at 5 rfl
 have q6 := hc.at 6 rfl
 have q7 := hc.at 7 rfl
 clear hc hn hmn hvr hps
 by_cases h0 : vr = 0
 ·subst h0
  by_cases h1 : ps = 0
  ·subst h1
   have HQ := ξ (show (ξ0e n.cut → ξJ n true false false false) from fun k => ⟨.inl rfl, .inr HVR.out, .inr HPS.out, .inr k⟩)
   go_enter Tryz.func98, Tryz.ntmps98
   go_wp2_with fail
   refine (ξ5r w _ n.cut L HCU.out).mono ?_
   rintro _ w2 ⟨r2, rfl, g2, h2⟩
   have G := ξ g2
   clear g2
   rcases h2.cases with ⟨rfl, k2⟩ | ⟨rfl, k2⟩
   ·have H := ξ (show ξJ n true false false false from HQ.out k2)
    clear h2 k2
    go_wp2_with fail
    go_ret
    exact ⟨_, rfl, G.out, ξ1.yes H.out⟩
   ·have H := ξ (show ¬ ξJ n true false false false from fun h => h.2.2.2.elim (fun h => by cases h) k2)
    clear h2 k2
    go_wp2_with fail
    go_ret
    exact ⟨_, rfl, G.out, ξ1.no H.out⟩
  ·have e1 : (ps == 0) = false := by simpa using h1
   have H := ξ (show ¬ ξJ n true false false false from fun h => h1 (by rw [← HPS.out]; exact h.2.2.1.resolve_left (by decide)))
   go_enter Tryz.func98, Tryz.ntmps98
   go_wp2_with fail
   go_ret
   exact ⟨_, rfl, Gr.refl _, ξ1.no H.out⟩
 ·have e1 : (vr == 0) = false := by simpa using h0
  have H := ξ (show ¬ ξJ n true false false false from fun h => h0 (by rw [← HVR.out]; exact h.2.1.resolve_left (by decide)))
  go_enter Tryz.func98, Tryz.ntmps98
  go_wp2_with fail
  go_ret
  exact ⟨_, rfl, Gr.refl _, ξ1.no H.out⟩
theorem ξd2 (w : World) (b : Nat) (x : ξb) (n : ξ6) (L : Nat) (hc : ξ0 w b (nodeA x)) (hn : ξS w x n L) :
  Calls Tryz.prog 98 #[.bool false, .bool true, .bool false, .bool false, .pointer (some ⟨b, 0, none⟩)] w (Ret w fun r _ => ξ1 (ξJ n false true false false) r) := by
 obtain ⟨mn, hmn⟩ : ∃ z, n.mult.length = z := ⟨_, rfl⟩
 obtain ⟨vr, hvr⟩ : ∃ z, n.var = z := ⟨_, rfl⟩
 obtain ⟨ps, hps⟩ : ∃ z, n.pos = z := ⟨_, rfl⟩
 have HMN := ξ hmn
 have HVR := ξ hvr
 have HPS := ξ hps
 have HCU := ξ hn.cut
 unfold ξb.cutV at HCU
 have q1 : w.cell? ⟨b, 1, none⟩ = some (.slice x.mp mn x.mc) := by rw [← hmn, ← hn.mn]; exact hc.at 1 rfl
 have q2 : w.cell? ⟨b, 2, none⟩ = some (.int .i64 vr) := by rw [← hvr, ← hn.var]; exact hc.at 2 rfl
 have q3 : w.cell? ⟨b, 3, none⟩ = some (.int .i64 ps) := by rw [← hps, ← hn.pos]; exact hc.at 3 rfl
 have q4 := hc.at 4 rfl
 have q5 := hc.at 5 rfl
 have q6 := hc.at 6 rfl
 have q7 := hc.at 7 rfl
 clear hc hn hmn hvr hps
 by_cases h0 : mn = 0
 ·subst h0
  by_cases h1 : ps = 0
  ·subst h1
   have HQ := ξ (show (ξ0e n.cut → ξJ n false true false false) from fun k => ⟨.inr HMN.out, .inl rfl, .inr HPS.out, .inr k⟩)
   go_enter Tryz.func98, Tryz.ntmps98
   go_wp2_with fail
   refine (ξ5r w _ n.cut L HCU.out).mono ?_
   rintro _ w2 ⟨r2, rfl, g2, h2⟩
   have G := ξ g2
   clear g2
   rcases h2.cases with ⟨rfl, k2⟩ | ⟨rfl, k2⟩
   ·have H := ξ (show ξJ n false true false false from HQ.out k2)
    clear h2 k2
    go_wp2_with fail
    go_ret
    exact ⟨_, rfl, G.out, ξ1.yes H.out⟩
   ·have H := ξ (show ¬ ξJ n false true false false from fun h => h.2.2.2.elim (fun h => by cases h) k2)
    clear h2 k2
    go_wp2_with fail
    go_ret
    exact ⟨_, rfl, G.out, ξ1.no H.out⟩
  ·have e1 : (ps == 0) = false := by simpa using h1
   have H := ξ (show ¬ ξJ n false true false false from fun h => h1 (by rw [← HPS.out]; exact h.2.2.1.resolve_left (by decide)))
   go_enter Tryz.func98, Tryz.ntmps98
   go_wp2_with fail
   go_ret
   exact ⟨_, rfl, Gr.refl _, ξ1.no H.out⟩
 ·have e1 : ((mn : Int) == 0) = false := by simpa using h0
  have H := ξ (show ¬ ξJ n false true false false from fun h => h0 (by rw [← HMN.out]; exact h.1.resolve_left (by decide)))
  go_enter Tryz.func98, Tryz.ntmps98
  go_wp2_with fail
  go_ret
  exact ⟨_, rfl, Gr.refl _, ξ1.no H.out⟩
theorem ξd8 (w : World) (b : Nat) (x : ξb) (n : ξ6) (L : Nat) (hc : ξ0 w b (nodeA x)) (hn : ξS w x n L) :
  Calls Tryz.prog 98 #[.bool false, .bool true, .bool true, .bool false, .pointer (some ⟨b, 0, none⟩)] w (Ret w fun r _ => ξ1 (ξJ n false true true false) r) := by
 obtain ⟨mn, hmn⟩ : ∃ z, n.mult.length = z := ⟨_, rfl⟩
 obtain ⟨vr, hvr⟩ : ∃ z, n.var = z := ⟨_, rfl⟩
 obtain ⟨ps, hps⟩ : ∃ z, n.pos = z := ⟨_, rfl⟩
 have HMN := ξ hmn
 have HVR := ξ hvr
 have HPS := ξ hps
 have HCU := ξ hn.cut
 unfold ξb.cutV at HCU
 have q1 : w.cell? ⟨b, 1, none⟩ = some (.slice x.mp mn x.mc) := by rw [← hmn, ← hn.mn]; exact hc.at 1 rfl
 have q2 : w.cell? ⟨b, 2, none⟩ = some (.int .i64 vr) := by rw [← hvr, ← hn.var]; exact hc.at 2 rfl
 have q3 : w.cell? ⟨b, 3, none⟩ = some (.int .i64 ps) := by rw [← hps, ← hn.pos]; exact hc.at 3 rfl
 have q4 := hc.at 4 rfl
 have q5 := hc.at 5 rfl
 have q6 := hc.at 6 rfl
 have q7 := hc.at 7 rfl
 clear hc hn hmn hvr hps
 by_cases h0 : mn = 0
 ·subst h0
  have HQ := ξ (show (ξ0e n.cut → ξJ n false true true false) from fun k => ⟨.inr HMN.out, .inl rfl, .inl rfl, .inr k⟩)
  go_enter Tryz.func98, Tryz.ntmps98
  go_wp2_with fail
  refine (ξ5r w _ n.cut L HCU.out).mono ?_
  rintro _ w2 ⟨r2, rfl, g2, h2⟩
  have G := ξ g2
  clear g2
  rcases h2.cases with ⟨rfl, k2⟩ | ⟨rfl, k2⟩
  ·have H := ξ (show ξJ n false true true false from HQ.out k2)
   clear h2 k2
   go_wp2_with fail
   go_ret
   exact ⟨_, rfl, G.out, ξ1.yes H.out⟩
  ·have H := ξ (show ¬ ξJ n false true true false from fun h => h.2.2.2.elim (fun h => by cases h) k2)
   clear h2 k2
   go_wp2_with fail
   go_ret
   exact ⟨_, rfl, G.out, ξ1.no H.out⟩
 ·have e1 : ((mn : Int) == 0) = false := by simpa using h0
  have H := ξ (show ¬ ξJ n false true true false from fun h => h0 (by rw [← HMN.out]; exact h.1.resolve_left (by decide)))
  go_enter Tryz.func98, Tryz.ntmps98
  go_wp2_with fail
  go_ret
  exact ⟨_, rfl, Gr.refl _, ξ1.no H.out⟩
theorem ξd1 (w : World) (b : Nat) (x : ξb) (n : ξ6) (L : Nat) (hc : ξ0 w b (nodeA x)) (hn : ξS w x n L) :
  Calls Tryz.prog 98 #[.bool false, .bool false, .bool false, .bool true, .pointer (some ⟨b, 0, none⟩)] w (Ret w fun r _ => ξ1 (ξJ n false false false true) r) := by
 obtain ⟨mn, hmn⟩ : ∃ z, n.mult.length = z := ⟨_, rfl⟩
 obtain ⟨vr, hvr⟩ : ∃ z, n.var = z := ⟨_, rfl⟩
 obtain ⟨ps, hps⟩ : ∃ z, n.pos = z := ⟨_, rfl⟩
 have HMN := ξ hmn
 have HVR := ξ hvr
 have HPS := ξ hps
 have HCU := ξ hn.cut
 unfold ξb.cutV at HCU
 have q1 : w.cell? ⟨b, 1, none⟩ = some (.slice x.mp mn x.mc) := by rw [← hmn, ← hn.mn]; exact hc.at 1 rfl
 have q2 : w.cell? ⟨b, 2, none⟩ = some (.int .i64 vr) := by rw [← hvr, ← hn.var]; exact hc.at 2 rfl
 have q3 : w.cell? ⟨b, 3, none⟩ = some (.int .i64 ps) := by rw [← hps, ← hn.pos]; exact hc.at 3 rfl
 have q4 := hc.at 4 rfl
 have q5 := hc.at 5 rfl
 have q6 := hc.at 6 rfl
 have q7 := hc.at 7 rfl
 clear hc hn hmn hvr hps
 by_cases h0 : mn = 0
 ·subst h0
  by_cases h1 : vr = 0
  ·subst h1
   by_cases h2 : ps = 0
   ·subst h2
    have H := ξ (show ξJ n false false false true from ⟨.inr HMN.out, .inr HVR.out, .inr HPS.out, .inl rfl⟩)
    go_enter Tryz.func98, Tryz.ntmps98
    go_wp2_with fail
    go_ret
    exact ⟨_, rfl, Gr.refl _, ξ1.yes H.out⟩
   ·have e1 : (ps == 0) = false := by simpa using h2
    have H := ξ (show ¬ ξJ n false false false true from fun h => h2 (by rw [← HPS.out]; exact h.2.2.1.resolve_left (by decide)))
    go_enter Tryz.func98, Tryz.ntmps98
    go_wp2_with fail
    go_ret
    exact ⟨_, rfl, Gr.refl _, ξ1.no H.out⟩
  ·have e1 : (vr == 0) = false := by simpa using h1
   have H := ξ (show ¬ ξJ n false false false true from fun h => h1 (by rw [← HVR.out]; exact h.2.1.resolve_left (by decide)))
   go_enter Tryz.func98, Tryz.ntmps98
   go_wp2_with fail
   go_ret
   exact ⟨_, rfl, Gr.refl _, ξ1.no H.out⟩
 ·have e1 : ((mn : Int) == 0) = false := by simpa using h0
  have H := ξ (show ¬ ξJ n false false false true from fun h => h0 (by rw [← HMN.out]; exact h.1.resolve_left (by decide)))
  go_enter Tryz.func98, Tryz.ntmps98
  go_wp2_with fail
  go_ret
  exact ⟨_, rfl, Gr.refl _, ξ1.no H.out⟩
theorem ξc0 {n : ξ6} (h : n.kind = 0) : ξT n ↔ ξJ n true false false false := by
 rw [ξ01]; unfold ξJ
 constructor
 ·rintro (a | a | a | a)
  ·exact ⟨.inl rfl, .inr a.2.2.1, .inr a.2.2.2, .inr a.2.1⟩
  all_goals omega
 ·rintro ⟨_, b, c, d⟩
  exact .inl ⟨h, d.resolve_left (by decide), b.resolve_left (by decide), c.resolve_left (by decide)⟩
theorem ξbC {n : ξ6} (h : n.kind = 1) : ξT n ↔ ξJ n false true false false := by
 rw [ξ01]; unfold ξJ
 constructor
 ·rintro (a | a | a | a)
  ·omega
  ·exact ⟨.inr (by rw [a.2.2.2]; rfl), .inl rfl, .inr a.2.2.1, .inr a.2.1⟩
  all_goals omega
 ·rintro ⟨a, b, c, d⟩
  exact .inr (.inl ⟨h, d.resolve_left (by decide), c.resolve_left (by decide), List.eq_nil_of_length_eq_zero (a.resolve_left (by decide))⟩)
theorem ξbU {n : ξ6} (h : n.kind = 2) : ξT n ↔ ξJ n false true true false := by
 rw [ξ01]; unfold ξJ
 constructor
 ·rintro (a | a | a | a)
  ·omega
  ·omega
  ·exact ⟨.inr (by rw [a.2.2]; rfl), .inl rfl, .inl rfl, .inr a.2.1⟩
  ·omega
 ·rintro ⟨a, b, c, d⟩
  exact .inr (.inr (.inl ⟨h, d.resolve_left (by decide), List.eq_nil_of_length_eq_zero (a.resolve_left (by decide))⟩))
theorem ξbF {n : ξ6} (h : n.kind = 3) : ξT n ↔ ξJ n false false false true := by
 rw [ξ01]; unfold ξJ
 constructor
 ·rintro (a | a | a | a)
  ·omega
  ·omega
  ·omega
  ·exact ⟨.inr (by rw [a.2.2.2]; rfl), .inr a.2.1, .inr a.2.2.1, .inl rfl⟩
 ·rintro ⟨a, b, c, d⟩
  exact .inr (.inr (.inr ⟨h, b.resolve_left (by decide), c.resolve_left (by decide), List.eq_nil_of_length_eq_zero (a.resolve_left (by decide))⟩))
theorem ξ5q {n : ξ6} (h0 : n.kind ≠ 0) (h1 : n.kind ≠ 1) (h2 : n.kind ≠ 2) (h3 : n.kind ≠ 3) : ¬ ξT n := by
 rw [ξ01]
 rintro (a | a | a | a)
 ·exact h0 a.1
 ·exact h1 a.1
 ·exact h2 a.1
 ·exact h3 a.1
theorem ξ0E (w : World) (x : ξb) (n : ξ6) (L : Nat) (hn : ξS w x n L) :
  Calls Tryz.prog 51 #[.agg (nodeA x)] w (Ret w fun r _ => ξ1 (ξT n) r) := by
 have B := ξ0.new w (nodeA x) 47
 have HB := ξ (show Gr w (w.alloc (.cells (nodeA x) 47)) ∧ ξ0 _ w.heap.size (nodeA x) ∧ ξS _ x n L from ⟨B.1, B.2, hn.grow B.1⟩)
 have hkx := hn.kind
 clear B
 obtain ⟨kd, mp, mn, mc, var, pos, ck, cp, cn, cc, row, vp, vn, vc⟩ := x
 dsimp only at hkx
 clear hn
 unfold nodeA at HB ⊢
 dsimp only at HB ⊢
 by_cases h0 : kd = 0
 ·subst h0
  have hkd : n.kind = 0 := hkx.symm
  clear hkx
  have HK := ξ hkd
  go_enter Tryz.func51, Tryz.ntmps51
  go_wp2_with fail
  generalize w.heap.size = b at HB ⊢
  generalize w.alloc _ = W at HB ⊢
  refine (ξdb W b ⟨0, mp, mn, mc, var, pos, ck, cp, cn, cc, row, vp, vn, vc⟩ n L HB.out.2.1 HB.out.2.2).mono ?_
  rintro _ w2 ⟨r2, rfl, g2, h2⟩
  have G := ξ (HB.out.1.trans g2)
  have H2 := ξ (show ξ1 (ξT n) r2 from h2.iff (ξc0 HK.out).symm)
  clear g2 h2
  rcases H2.out.cases with ⟨rfl, _⟩ | ⟨rfl, _⟩
  ·go_wp2_with fail
   try rw [Exit.noGoto_ret]
   go_ret
   exact ⟨_, rfl, G.out, H2.out⟩
  ·go_wp2_with fail
   try rw [Exit.noGoto_ret]
   go_ret
   exact ⟨_, rfl, G.out, H2.out⟩
 have e0 : (kd == 0) = false := by simpa using h0
 by_cases h1 : kd = 1
 ·subst h1
  have hkd : n.kind = 1 := hkx.symm
  clear hkx e0 h0
  have HK := ξ hkd
  go_enter Tryz.func51, Tryz.ntmps51
  go_wp2_with fail
  generalize w.heap.size = b at HB ⊢
  generalize w.alloc _ = W at HB ⊢
  refine (ξd2 W b ⟨1, mp, mn, mc, var, pos, ck, cp, cn, cc, row, vp, vn, vc⟩ n L HB.out.2.1 HB.out.2.2).mono ?_
  rintro _ w2 ⟨r2, rfl, g2, h2⟩
  have G := ξ (HB.out.1.trans g2)
  have H2 := ξ (show ξ1 (ξT n) r2 from h2.iff (ξbC HK.out).symm)
  clear g2 h2
  rcases H2.out.cases with ⟨rfl, _⟩ | ⟨rfl, _⟩
  ·go_wp2_with fail
   try rw [Exit.noGoto_ret]
   go_ret
   exact ⟨_, rfl, G.out, H2.out⟩
  ·go_wp2_with fail
   try rw [Exit.noGoto_ret]
   go_ret
   exact ⟨_, rfl, G.out, H2.out⟩
 have e1 : (kd == 1) = false := by simpa using h1
 by_cases h2 : kd = 2
 ·subst h2
  have hkd : n.kind = 2 := hkx.symm
  clear hkx e0 h0 e1 h1
  have HK := ξ hkd
  go_enter Tryz.func51, Tryz.ntmps51
  go_wp2_with fail
  generalize w.heap.size = b at HB ⊢
  generalize w.alloc _ = W at HB ⊢
  refine (ξd8 W b ⟨2, mp, mn, mc, var, pos, ck, cp, cn, cc, row, vp, vn, vc⟩ n L HB.out.2.1 HB.out.2.2).mono ?_
  rintro _ w2 ⟨r2, rfl, g2, h2⟩
  have G := ξ (HB.out.1.trans g2)
  have H2 := ξ (show ξ1 (ξT n) r2 from h2.iff (ξbU HK.out).symm)
  clear g2 h2
  rcases H2.out.cases with ⟨rfl, _⟩ | ⟨rfl, _⟩
  ·go_wp2_with fail
   try rw [Exit.noGoto_ret]
   go_ret
   exact ⟨_, rfl, G.out, H2.out⟩
  ·go_wp2_with fail
   try rw [Exit.noGoto_ret]
   go_ret
   exact ⟨_, rfl, G.out, H2.out⟩
 have e2 : (kd == 2) = false := by simpa using h2
 by_cases h3 : kd = 3
 ·subst h3
  have hkd : n.kind = 3 := hkx.symm
  clear hkx e0 h0 e1 h1 e2 h2
  have HK := ξ hkd
  go_enter Tryz.func51, Tryz.ntmps51
  go_wp2_with fail
  generalize w.heap.size = b at HB ⊢
  generalize w.alloc _ = W at HB ⊢
  refine (ξd1 W b ⟨3, mp, mn, mc, var, pos, ck, cp, cn, cc, row, vp, vn, vc⟩ n L HB.out.2.1 HB.out.2.2).mono ?_
  rintro _ w2 ⟨r2, rfl, g2, h2⟩
  have G := ξ (HB.out.1.trans g2)
  have H2 := ξ (show ξ1 (ξT n) r2 from h2.iff (ξbF HK.out).symm)
  clear g2 h2
  rcases H2.out.cases with ⟨rfl, _⟩ | ⟨rfl, _⟩
  ·go_wp2_with fail
   try rw [Exit.noGoto_ret]
   go_ret
   exact ⟨_, rfl, G.out, H2.out⟩
  ·go_wp2_with fail
   try rw [Exit.noGoto_ret]
   go_ret
   exact ⟨_, rfl, G.out, H2.out⟩
 have e3 : (kd == 3) = false := by simpa using h3
 have H := ξ (show ¬ ξT n from ξ5q (by rw [← hkx]; exact h0) (by rw [← hkx]; exact h1) (by rw [← hkx]; exact h2) (by rw [← hkx]; exact h3))
 clear hkx h0 h1 h2 h3
 go_enter Tryz.func51, Tryz.ntmps51
 go_wp2_with fail
 go_ret
 exact ⟨_, rfl, HB.out.1, ξ1.no H.out⟩
end Prf
end Go.Proofs.YtcjgimlcefhhmaaGreatDoor
namespace Go.Proofs.YtcjgimlcefhhmaaGreatDoor
namespace Inv
open Go.RowKit
section steps
variable {P : Program} {ops : Array Oper} {Q : Exit → Act → World → Prop} {B : World → Prop} {i : Nat} {t : Tr} {a : Act} {w : World} {o : Oper}
end steps
end Inv
namespace Prf
open Go.RowKit Go.Lib
theorem ξ7N {n : Nat} : ∀ (l : List ξ8) (last : Int), -1 ≤ last → last < (n : Int) → Inc n last l → (l.length : Int) ≤ (n : Int) - 1 - last
 | [], last, h1, h2, _ => by simp; omega
 | t :: l, last, h1, h2, h => by
  have h3 := h.1
  have := ξ7N l t.v (by omega) (by omega) h.2
  rw [List.length_cons]
  omega
theorem ξr.tl {p : Prg} (h : ξr p) : ∀ r ∈ p.rows, r.terms.length ≤ 1000000 := fun r hr => by
 have h1 := (h.2.2.2 r hr).2.2.2.2.2
 have hn := h.1
 by_cases hv : p.vars.length = 0
 ·cases ht : r.terms with
  | nil => simp
  | cons t l =>
   rw [ht, hv] at h1
   have := h1.1
   omega
 ·have := ξ7N r.terms (-1) (by decide) (by omega) h1
  omega
theorem ξ9y (w : World) (va vb : Option Addr) (vc vd k : Nat) (vs : List VarM) (n jn : Nat) (m : Int) (low : Bool) (hv : ξ06 w (.slice va n vc) vs) (hn : vs.length = n) (hj : jn < n) (hm : -1099511627776 ≤ m ∧ m < 1099511627776) (hn2 : n ≤ 1000000) :
  Calls Tryz.prog 47 #[.agg #[.slice va n vc, .slice vb k vd], .int .i64 (jn : Int), .int .i64 m, .bool low] w (Ret w fun r w' => ∃ pv cv, r = .agg #[.slice pv n cv, .slice vb k vd] ∧ OwnL w' w.heap.size 62 5 encVar (.slice pv n cv) (if low = true then setUp vs (jn : Int) m else setLo vs (jn : Int) (m + 1))) := by
 have HV := ξ hv
 have HVN := ξ hn
 have B0 := ξ0.new w #[.slice va n vc, .slice vb k vd] 25
 have B1 := ξ0.new (w.alloc (.cells #[.slice va n vc, .slice vb k vd] 25)) #[.slice none 0 0, .slice none 0 0] 25
 simp only [World.size_alloc] at B1
 have HB := ξ (show Gr w _ ∧ ξ0 _ w.heap.size #[.slice va n vc, .slice vb k vd] ∧ ξ0 _ (w.heap.size + 1) #[.slice none 0 0, .slice none 0 0] from ⟨B0.1.trans B1.1, B0.2.grow B1.1, B1.2⟩)
 have hj' : (jn : Int) < (n : Int) := by omega
 have hm1 : IntKind.i64.wrap (m + 1) = m + 1 := by rw [IntKind.wrap_i64]; omega
 clear hv hn B0 B1
 go_enter Tryz.func47, Tryz.ntmps47
 go_wp2_with fail
 generalize hb8 : w.heap.size + 1 = b8 at HB ⊢
 generalize hbp : w.heap.size = bp at HB ⊢
 generalize (w.alloc _).alloc _ = W at HB ⊢
 have HN := ξ (show w.heap.size ≤ b8 ∧ bp ≠ b8 from by omega)
 clear hb8 hbp
 refine (ξ3s W va n vc vs (SlL.grow HV.out HB.out.1) HVN.out hn2).mono ?_
 rintro _ w2 ⟨_, rfl, g2, pg, cg, rfl, ho2⟩
 obtain ⟨bg, cap, hvg, hbg, hbg2, hcg, hcg2⟩ := OwnL.made ho2 (by rw [HVN.out]; omega)
 injection hvg with e1 e2 e3
 subst e1 e3
 have HL := ξ (show bp ≠ bg ∧ b8 ≠ bg ∧ w.heap.size ≤ bg from by
  have h1 := HB.out.2.1.lt
  have h2 := HB.out.2.2.lt
  have h3 := HB.out.1.size
  exact ⟨by omega, by omega, by omega⟩)
 have G := ξ (HB.out.1.trans g2)
 have TP := ξ (HB.out.2.1.grow g2)
 have T8 := ξ (HB.out.2.2.grow g2)
 have HO := ξ (OwnL.low ho2 HB.out.1.size)
 clear ho2 g2 HB hbg hbg2
 obtain ⟨x, hx⟩ : ∃ x, vs[jn]? = some x := ⟨_, List.getElem?_eq_getElem (by rw [HVN.out]; exact hj)⟩
 have HX := ξ hx
 clear hx
 have hne1 : ¬ bp = bg := HL.out.1
 have hne2 : ¬ b8 = bg := HL.out.2.1
 have hne3 : ¬ bp = b8 := HN.out.2
 have y1 := TP.out.at 1 rfl
 have d0 := T8.out.at 0 rfl
 have d1 := T8.out.at 1 rfl
 have f0 := ξ0.f T8.out 0
 have f1 := ξ0.f T8.out 1
 cases low
 ·obtain ⟨mu, hmu⟩ : ∃ z, max x.lo (m + 1) = z := ⟨_, rfl⟩
  have HMU := ξ hmu
  obtain ⟨-, -, q0a, q1, q2⟩ := OwnL.putS ξ0D HO.out { x with lo := mu } 0 (.int .i64 mu) HX.out (by decide) rfl
  rw [Nat.add_zero] at q0a q1 q2
  have q0 : w2.cell? ⟨bg, jn * 5, none⟩ = some (.int .i64 x.lo) := q0a
  have HQ := ξ q2
  have hf := fill2 (.slice (some ⟨bg, 0, none⟩) vs.length cg) (.slice vb k vd) (T8.out.upd (ξx w2 bg (jn * 5) (.int .i64 mu)) hne2) (Gr.set G.out (by have := HL.out.2.2; omega) (.int .i64 mu)) HN.out.1
  have HX2 := ξ (And.intro hf.1 (And.intro hf.2.1 (OwnL.fill HQ.out (b := b8) (fun e => hne2 (Option.some.inj e).symm) (.slice (some ⟨bg, 0, none⟩) vs.length cg) (.slice vb k vd))))
  clear q0a q2 hf hmu
  have hq := HMU.out
  go_wp2_with fail
  clear q0 q1 y1 d0 d1 f0 f1 hq
  try rw [Exit.noGoto_ret]
  generalize ((w2.setCell _ _).setCell _ _).setCell _ _ = W5 at HX2 ⊢
  have z0 := HX2.out.2.1.at 0 rfl
  have z1 := HX2.out.2.1.at 1 rfl
  refine bodyPost_ret (by simp [results, Tryz.results47, go_sem, z0, z1]; rfl) rfl ?_
  refine ⟨_, rfl, HX2.out.1, some ⟨bg, 0, none⟩, cg, rfl, ?_⟩
  rw [ξ9e HX.out, HMU.out]; have h := HX2.out.2.2; rw [← HVN.out] at h; exact h
 ·obtain ⟨mu, hmu⟩ : ∃ z, min x.up m = z := ⟨_, rfl⟩
  have HMU := ξ hmu
  obtain ⟨-, -, q0a, q1, q2⟩ := OwnL.putS ξ0D HO.out { x with up := mu } 1 (.int .i64 mu) HX.out (by decide) rfl
  skip
  have q0 : w2.cell? ⟨bg, jn * 5 + 1, none⟩ = some (.int .i64 x.up) := q0a
  have HQ := ξ q2
  have hf := fill2 (.slice (some ⟨bg, 0, none⟩) vs.length cg) (.slice vb k vd) (T8.out.upd (ξx w2 bg (jn * 5 + 1) (.int .i64 mu)) hne2) (Gr.set G.out (by have := HL.out.2.2; omega) (.int .i64 mu)) HN.out.1
  have HX2 := ξ (And.intro hf.1 (And.intro hf.2.1 (OwnL.fill HQ.out (b := b8) (fun e => hne2 (Option.some.inj e).symm) (.slice (some ⟨bg, 0, none⟩) vs.length cg) (.slice vb k vd))))
  clear q0a q2 hf hmu
  have hq := HMU.out
  go_wp2_with fail
  clear q0 q1 y1 d0 d1 f0 f1 hq
  try rw [Exit.noGoto_ret]
  generalize ((w2.setCell _ _).setCell _ _).setCell _ _ = W5 at HX2 ⊢
  have z0 := HX2.out.2.1.at 0 rfl
  have z1 := HX2.out.2.1.at 1 rfl
  refine bodyPost_ret (by simp [results, Tryz.results47, go_sem, z0, z1]; rfl) rfl ?_
  refine ⟨_, rfl, HX2.out.1, some ⟨bg, 0, none⟩, cg, rfl, ?_⟩
  rw [ξ9N HX.out, HMU.out]; have h := HX2.out.2.2; rw [← HVN.out] at h; exact h
end Prf
end Go.Proofs.YtcjgimlcefhhmaaGreatDoor

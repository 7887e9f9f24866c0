/- Texts: PvG. -/
import Derived.Test.YtcjgimlcefhhmaaGreatDoorW44
set_option linter.unusedVariables false
set_option linter.unusedSimpArgs false
set_option maxRecDepth 100000
set_option maxHeartbeats 12800000
namespace Go.Proofs.YtcjgimlcefhhmaaGreatDoor
namespace Prf
open Go.RowKit Go.Lib
theorem ξ9g (bv : Nat) : fkv (.int .i64) (.int .i64 0) (stepsL bv) = some (some (.func (.func 43) #[] #[])) := rfl
theorem ξ9p (bv : Nat) : fkv (.int .i64) (.int .i64 1) (stepsL bv) = some (some (.func (.func 45) #[] #[])) := rfl
theorem ξ96 (bv : Nat) : fkv (.int .i64) (.int .i64 2) (stepsL bv) = some (some (.func (.func 46) #[] #[.pointer (some ⟨bv, 0, none⟩)])) := rfl
theorem ξ9C (bv : Nat) : fkv (.int .i64) (.int .i64 3) (stepsL bv) = some (some (.func (.func 48) #[] #[.pointer (some ⟨bv, 0, none⟩)])) := rfl
theorem ξ9w (bv : Nat) {n : Int} (h0 : n ≠ 0) (h1 : n ≠ 1) (h2 : n ≠ 2) (h3 : n ≠ 3) : fkv (.int .i64) (.int .i64 n) (stepsL bv) = some none := by
 unfold stepsL fkv
 rw [ξ2v h0]
 simp only []
 unfold fkv
 rw [ξ2v h1]
 simp only []
 unfold fkv
 rw [ξ2v h2]
 simp only []
 unfold fkv
 rw [ξ2v h3]
 rfl
theorem VisC.less {k k' : Nat} {W0 : World} {bt bv bs bm : Nat} (h : VisC k W0 bt bv bs bm) (hk : k' ≤ k) : VisC k' W0 bt bv bs bm := fun w v p N pt ct nt hl => h w v p N pt ct nt (by omega)
theorem VisR.from {p : Prg} {N : List ξ6} {W0 w w1 w' : World} {bt bv bs bm : Nat} {r : Value} (g : w.grownBy w1 (some bt)) (h : VisR p N W0 w1 bt bv bs bm r w') : VisR p N W0 w bt bv bs bm r w' := ⟨ξf g h.1, h.2⟩
theorem VisR.bool {p : Prg} {N : List ξ6} {W0 w w' : World} {bt bv bs bm : Nat} {r : Value} (h : VisR p N W0 w bt bv bs bm r w') : ∃ t, r = .bool t := by
 rcases h.2 with ⟨S, pt, nt, ct, _, rfl, _⟩ | ⟨_, rfl, _⟩
 ·exact ⟨_, rfl⟩
 ·exact ⟨_, rfl⟩
theorem ξbr (W0 : World) (bt bv bs bm : Nat) : ∀ k, VisC k W0 bt bv bs bm := by
 intro k
 induction k with
 | zero => intro w v p N pt ct nt hk; omega
 | succ k IH =>
  intro w v p N pt ct nt hk hnt he hno hs hp hf
  have HIH := ξ IH
  have HE := ξ he
  have HPV := ξ hp
  have HF := ξ hf
  have HS := ξ hs
  obtain ⟨va, vc, vb, vd, rfl, hv, hr⟩ := hs.at
  unfold prgV at HS ⊢
  clear IH hs hp hf hv hr
  cases N with
  | nil =>
   obtain rfl : nt = 0 := hnt
   have T := ξ0.new w #[.slice va p.vars.length vc, .slice vb p.rows.length vd] 25
   have HT := ξ T
   have t0 := (he.grow T.1).t.at 0 rfl
   clear he T hno
   go_enter Tryz.func50, Tryz.ntmps50
   go_wp2_with fail
   go_ret
   exact ⟨_, rfl, ξq bt HT.out.1, .inr ⟨fun ⟨S, h⟩ => ξcb h, rfl, _, HE.out.grow HT.out.1⟩⟩
  | cons n N =>
   obtain ⟨b, o, x, rfl, hx, hc, hrest⟩ := ξ3y hno
   have HX := ξ hx
   have HRE := ξ hrest
   have HFN := ξ (HF.out n (List.mem_cons_self ..))
   have HFR := ξ (fun m hm => HF.out m (List.mem_cons_of_mem n hm))
   have HNT := ξ hnt
   have T := ξ0.new w #[.slice va p.vars.length vc, .slice vb p.rows.length vd] 25
   have HT := ξ T
   have t0 := (he.grow T.1).t.at 0 rfl
   have hnt0 : ((nt : Int) == 0) = false := by simp; simp at hnt; omega
   have hcx := fun j u hj => hc _ ((he.g.trans T.1)) j u hj
   obtain ⟨kd, mp, mn, mc, var, pos, ck, cp, cn, cc, row, vp, vn, vc2⟩ := x
   have c0 := hcx 0 _ rfl
   have c1 := hcx 1 _ rfl
   have c2 := hcx 2 _ rfl
   have c3 := hcx 3 _ rfl
   have c4 := hcx 4 _ rfl
   have c5 := hcx 5 _ rfl
   have c6 := hcx 6 _ rfl
   have c7 := hcx 7 _ rfl
   have hlt : 0 < nt := by simp at hnt; omega
   have hlt' : (0 : Int) < (nt : Int) := by omega
   have hlt2 : (1 : Int) ≤ (nt : Int) := by omega
   obtain ⟨W2, hW2⟩ : ∃ z, (w.alloc (.cells #[.slice va p.vars.length vc, .slice vb p.rows.length vd] 25)).alloc (.cells (nodeA ⟨kd, mp, mn, mc, var, pos, ck, cp, cn, cc, row, vp, vn, vc2⟩) 47) = z := ⟨_, rfl⟩
   have T2 := ξ0.new (w.alloc (.cells #[.slice va p.vars.length vc, .slice vb p.rows.length vd] 25)) (nodeA ⟨kd, mp, mn, mc, var, pos, ck, cp, cn, cc, row, vp, vn, vc2⟩) 47
   rw [hW2, World.size_alloc] at T2
   have G2 := ξ (T.1.trans T2.1)
   have t1 : W2.cell? ⟨bt, 0, none⟩ = some (.slice (some ⟨b, o, none⟩) nt ct) := (he.grow G2.out).t.at 0 rfl
   have HP2 := ξ (T.2.grow T2.1)
   have HN2 := ξ T2.2
   have f1 := ξ0.f (he.grow G2.out).t 0
   unfold nodeA at hW2
   dsimp only at hW2
   clear he T hno hx hc hrest hcx hnt T2
   dsimp only at c0 c1 c2 c3 c4 c5 c6 c7
   rw [Nat.add_zero] at c0
   have HK := ξ hk
   clear hk
   by_cases hct : ct = 1
   ·subst hct
    obtain ⟨W3, hW3⟩ : ∃ z, W2.setCell ⟨bt, 0, none⟩ (.slice (some ⟨b, o, none⟩) (nt - 1) 0) = z := ⟨_, rfl⟩
    have HE3 := ξ0N.set (HE.out.grow G2.out) (.slice (some ⟨b, o, none⟩) (nt - 1) 0)
    rw [hW3] at HE3
    have HE3 := ξ HE3
    have HBT := ξ (show bt < w.heap.size from HE.out.t.lt)
    have HU3 := ξ (show Upd bt W2 W3 from by rw [← hW3]; exact ξx W2 bt 0 _)
    have HN3 := ξ (HN2.out.upd HU3.out (by have := HBT.out; omega))
    have HP3 := ξ (HP2.out.upd HU3.out (by have := HBT.out; omega))
    have HR3 := ξ (show ξu W0 (.slice (some ⟨b, o, none⟩) (nt - 1) 0) N 4 from (by have := HRE.out (some ⟨b, o, none⟩) (.inr rfl); exact this))
    have GG := ξ (ξf (ξq bt G2.out) HE3.out.2)
    have HLN := ξ (show nt - 1 = N.length from by have := HNT.out; simp at this; omega)
    have s0 : W3.cell? ⟨bs, 0, none⟩ = some (.map (some bm)) := HE3.out.1.s.at 0 rfl
    unfold nodeA at HN3
    dsimp only at HN3
    have m0 := HN3.out.at 0 rfl
    have m1 := HN3.out.at 1 rfl
    have m2 := HN3.out.at 2 rfl
    have m3 := HN3.out.at 3 rfl
    have m4 := HN3.out.at 4 rfl
    have m5 := HN3.out.at 5 rfl
    have m6 := HN3.out.at 6 rfl
    have m7 := HN3.out.at 7 rfl
    by_cases k0 : kd = 0
    ·subst k0
     have hl := (ξz HE3.out.1.m Tryz.underlying95 Tryz.underlying3 ξG (ξ9g bv)).1
     have hq := fun w => ξ1r (w := w)
     go_enter Tryz.func50, Tryz.ntmps50
     go_wp2_with fail
     clear hl hq s0 hW2 hW3 t0 t1 f1 c0 c1 c2 c3 c4 c5 c6 c7 hnt0 hlt hlt' hlt2
     clear m0 m1 m2 m3 m4 m5 m6 m7
     refine (ξ0E W3 ⟨0, mp, mn, mc, var, pos, ck, cp, cn, cc, row, vp, vn, vc2⟩ n 4 (HX.out.grow HE3.out.1.g)).mono ?_
     rintro _ w4 ⟨r4, rfl, g4, h4⟩
     have HN4 := ξ (HN3.out.grow g4)
     have HP4 := ξ (HP3.out.grow g4)
     have HE4 := ξ (HE3.out.1.grow g4)
     have GG := ξ (ξf GG.out (ξq bt g4))
     clear g4
     rcases h4.cases with ⟨rfl, k4⟩ | ⟨rfl, k4⟩
     rotate_left
     ·have H := ξ (show ¬ ∃ S, ξa p (n :: N) S from fun ⟨S, h⟩ => k4 (ξ00 h))
      clear h4 k4
      go_wp2_with fail
      go_ret
      exact ⟨_, rfl, GG.out, .inr ⟨H.out, rfl, _, HE4.out⟩⟩
     have HPL := ξ k4
     have HKN := ξ (show n.kind = 0 from HX.out.kind.symm)
     clear h4 k4
     have HN3 := HN4
     have m0 := HN3.out.at 0 rfl
     have m1 := HN3.out.at 1 rfl
     have m2 := HN3.out.at 2 rfl
     have m3 := HN3.out.at 3 rfl
     have m4 := HN3.out.at 4 rfl
     have m5 := HN3.out.at 5 rfl
     have m6 := HN3.out.at 6 rfl
     have m7 := HN3.out.at 7 rfl
     have p0 := HP4.out.at 0 rfl
     have p1 := HP4.out.at 1 rfl
     go_wp2_with fail
     clear m0 m1 m2 m3 m4 m5 m6 m7
     clear p0 p1 HN3
     refine (ξ86 w4 _ p ⟨0, mp, mn, mc, var, pos, ck, cp, cn, cc, row, vp, vn, vc2⟩ n (HS.out.go GG.out).at (HX.out.grow HE4.out.g) HPV.out.ok HPV.out.wh HPV.out.n (by have := HPV.out.m; omega) HFN.out).mono ?_
     rintro _ w5 ⟨r5, rfl, g5, h5⟩
     have HRB := ξ (show VisR p (n :: N) W0 w bt bv bs bm r5 w5 from VisR.from GG.out (VisR.leaf (fun S => ξ5W HPL.out HKN.out) h5 g5 HE4.out HR3.out HLN.out))
     clear h5 g5
     obtain ⟨t5, rfl⟩ := HRB.out.bool
     go_wp2_with fail
     go_ret
     exact ⟨_, rfl, HRB.out⟩
    by_cases k1 : kd = 1
    ·subst k1
     have hl := (ξz HE3.out.1.m Tryz.underlying95 Tryz.underlying3 ξG (ξ9p bv)).1
     clear k0
     have hq := fun w => ξ1r (w := w)
     go_enter Tryz.func50, Tryz.ntmps50
     go_wp2_with fail
     clear hl hq s0 hW2 hW3 t0 t1 f1 c0 c1 c2 c3 c4 c5 c6 c7 hnt0 hlt hlt' hlt2
     clear m0 m1 m2 m3 m4 m5 m6 m7
     refine (ξ0E W3 ⟨1, mp, mn, mc, var, pos, ck, cp, cn, cc, row, vp, vn, vc2⟩ n 4 (HX.out.grow HE3.out.1.g)).mono ?_
     rintro _ w4 ⟨r4, rfl, g4, h4⟩
     have HN4 := ξ (HN3.out.grow g4)
     have HP4 := ξ (HP3.out.grow g4)
     have HE4 := ξ (HE3.out.1.grow g4)
     have GG := ξ (ξf GG.out (ξq bt g4))
     clear g4
     rcases h4.cases with ⟨rfl, k4⟩ | ⟨rfl, k4⟩
     rotate_left
     ·have H := ξ (show ¬ ∃ S, ξa p (n :: N) S from fun ⟨S, h⟩ => k4 (ξ00 h))
      clear h4 k4
      go_wp2_with fail
      go_ret
      exact ⟨_, rfl, GG.out, .inr ⟨H.out, rfl, _, HE4.out⟩⟩
     have HPL := ξ k4
     have HKN := ξ (show n.kind = 1 from HX.out.kind.symm)
     clear h4 k4
     have HN3 := HN4
     have m0 := HN3.out.at 0 rfl
     have m1 := HN3.out.at 1 rfl
     have m2 := HN3.out.at 2 rfl
     have m3 := HN3.out.at 3 rfl
     have m4 := HN3.out.at 4 rfl
     have m5 := HN3.out.at 5 rfl
     have m6 := HN3.out.at 6 rfl
     have m7 := HN3.out.at 7 rfl
     have p0 := HP4.out.at 0 rfl
     have p1 := HP4.out.at 1 rfl
     go_wp2_with fail
     clear m0 m1 m2 m3 m4 m5 m6 m7
     clear p0 p1 HN3
     refine (ξ85 w4 _ p ⟨1, mp, mn, mc, var, pos, ck, cp, cn, cc, row, vp, vn, vc2⟩ n (HS.out.go GG.out).at (HX.out.grow HE4.out.g) (by have := HPV.out.n; omega)).mono ?_
     rintro _ w5 ⟨r5, rfl, g5, h5⟩
     have HRB := ξ (show VisR p (n :: N) W0 w bt bv bs bm r5 w5 from VisR.from GG.out (VisR.leaf (fun S => ξ5T HPL.out HKN.out) h5 g5 HE4.out HR3.out HLN.out))
     clear h5 g5
     obtain ⟨t5, rfl⟩ := HRB.out.bool
     go_wp2_with fail
     go_ret
     exact ⟨_, rfl, HRB.out⟩
    by_cases k2 : kd = 2
    ·subst k2
     have hl := (ξz HE3.out.1.m Tryz.underlying95 Tryz.underlying3 ξG (ξ96 bv)).1
     clear k0 k1
     have hq := fun w => ξ1r (w := w)
     go_enter Tryz.func50, Tryz.ntmps50
     go_wp2_with fail
     clear hl hq s0 hW2 hW3 t0 t1 f1 c0 c1 c2 c3 c4 c5 c6 c7 hnt0 hlt hlt' hlt2
     clear m0 m1 m2 m3 m4 m5 m6 m7
     refine (ξ0E W3 ⟨2, mp, mn, mc, var, pos, ck, cp, cn, cc, row, vp, vn, vc2⟩ n 4 (HX.out.grow HE3.out.1.g)).mono ?_
     rintro _ w4 ⟨r4, rfl, g4, h4⟩
     have HN4 := ξ (HN3.out.grow g4)
     have HP4 := ξ (HP3.out.grow g4)
     have HE4 := ξ (HE3.out.1.grow g4)
     have GG := ξ (ξf GG.out (ξq bt g4))
     clear g4
     rcases h4.cases with ⟨rfl, k4⟩ | ⟨rfl, k4⟩
     rotate_left
     ·have H := ξ (show ¬ ∃ S, ξa p (n :: N) S from fun ⟨S, h⟩ => k4 (ξ00 h))
      clear h4 k4
      go_wp2_with fail
      go_ret
      exact ⟨_, rfl, GG.out, .inr ⟨H.out, rfl, _, HE4.out⟩⟩
     have HPL := ξ k4
     have HKN := ξ (show n.kind = 2 from HX.out.kind.symm)
     clear h4 k4
     have HN3 := HN4
     have m0 := HN3.out.at 0 rfl
     have m1 := HN3.out.at 1 rfl
     have m2 := HN3.out.at 2 rfl
     have m3 := HN3.out.at 3 rfl
     have m4 := HN3.out.at 4 rfl
     have m5 := HN3.out.at 5 rfl
     have m6 := HN3.out.at 6 rfl
     have m7 := HN3.out.at 7 rfl
     have p0 := HP4.out.at 0 rfl
     have p1 := HP4.out.at 1 rfl
     go_wp2_with fail
     clear m0 m1 m2 m3 m4 m5 m6 m7
     clear p0 p1 HN3
     refine (ξ84 W0 w4 bt bv bs bm (some ⟨b, o, none⟩) 0 _ p ⟨2, mp, mn, mc, var, pos, ck, cp, cn, cc, row, vp, vn, vc2⟩ n N (nt - 1) HLN.out (HIH.out.less (by have := HK.out; simp at this; omega)) HE4.out HR3.out (HS.out.go GG.out) (HX.out.grow HE4.out.g) HPV.out HFR.out HKN.out HPL.out).mono ?_
     rintro _ w5 ⟨r5, rfl, h5⟩
     have HRB := ξ (show VisR p (n :: N) W0 w bt bv bs bm r5 w5 from VisR.from GG.out h5)
     clear h5
     obtain ⟨t5, rfl⟩ := HRB.out.bool
     go_wp2_with fail
     go_ret
     exact ⟨_, rfl, HRB.out⟩
    by_cases k3 : kd = 3
    ·subst k3
     have hl := (ξz HE3.out.1.m Tryz.underlying95 Tryz.underlying3 ξG (ξ9C bv)).1
     clear k0 k1 k2
     have hq := fun w => ξ1r (w := w)
     go_enter Tryz.func50, Tryz.ntmps50
     go_wp2_with fail
     clear hl hq s0 hW2 hW3 t0 t1 f1 c0 c1 c2 c3 c4 c5 c6 c7 hnt0 hlt hlt' hlt2
     clear m0 m1 m2 m3 m4 m5 m6 m7
     refine (ξ0E W3 ⟨3, mp, mn, mc, var, pos, ck, cp, cn, cc, row, vp, vn, vc2⟩ n 4 (HX.out.grow HE3.out.1.g)).mono ?_
     rintro _ w4 ⟨r4, rfl, g4, h4⟩
     have HN4 := ξ (HN3.out.grow g4)
     have HP4 := ξ (HP3.out.grow g4)
     have HE4 := ξ (HE3.out.1.grow g4)
     have GG := ξ (ξf GG.out (ξq bt g4))
     clear g4
     rcases h4.cases with ⟨rfl, k4⟩ | ⟨rfl, k4⟩
     rotate_left
     ·have H := ξ (show ¬ ∃ S, ξa p (n :: N) S from fun ⟨S, h⟩ => k4 (ξ00 h))
      clear h4 k4
      go_wp2_with fail
      go_ret
      exact ⟨_, rfl, GG.out, .inr ⟨H.out, rfl, _, HE4.out⟩⟩
     have HPL := ξ k4
     have HKN := ξ (show n.kind = 3 from HX.out.kind.symm)
     clear h4 k4
     have HN3 := HN4
     have m0 := HN3.out.at 0 rfl
     have m1 := HN3.out.at 1 rfl
     have m2 := HN3.out.at 2 rfl
     have m3 := HN3.out.at 3 rfl
     have m4 := HN3.out.at 4 rfl
     have m5 := HN3.out.at 5 rfl
     have m6 := HN3.out.at 6 rfl
     have m7 := HN3.out.at 7 rfl
     have p0 := HP4.out.at 0 rfl
     have p1 := HP4.out.at 1 rfl
     go_wp2_with fail
     clear m0 m1 m2 m3 m4 m5 m6 m7
     clear p0 p1 HN3
     refine (ξ8c W0 w4 bt bv bs bm (some ⟨b, o, none⟩) 0 _ p ⟨3, mp, mn, mc, var, pos, ck, cp, cn, cc, row, vp, vn, vc2⟩ n N (nt - 1) HLN.out (HIH.out.less (by have := HK.out; simp at this; omega)) HE4.out HR3.out (HS.out.go GG.out) (HX.out.grow HE4.out.g) HPV.out HFR.out HFN.out HKN.out HPL.out).mono ?_
     rintro _ w5 ⟨r5, rfl, h5⟩
     have HRB := ξ (show VisR p (n :: N) W0 w bt bv bs bm r5 w5 from VisR.from GG.out h5)
     clear h5
     obtain ⟨t5, rfl⟩ := HRB.out.bool
     go_wp2_with fail
     go_ret
     exact ⟨_, rfl, HRB.out⟩
    have hl := (ξ1P (P := Tryz.prog) (z := .nilFunc) HE3.out.1.m Tryz.underlying95 Tryz.underlying3 (ξG (n := kd)) (by kernel_rfl) (ξ9w bv k0 k1 k2 k3)).1
    have H := ξ (show ¬ ∃ S, ξa p (n :: N) S from fun ⟨S, h⟩ => ξ5q (by rw [← HX.out.kind]; exact k0) (by rw [← HX.out.kind]; exact k1) (by rw [← HX.out.kind]; exact k2) (by rw [← HX.out.kind]; exact k3) (ξ00 h))
    have hq := fun w => ξ6D (w := w)
    clear k0 k1 k2 k3
    go_enter Tryz.func50, Tryz.ntmps50
    go_wp2_with fail
    go_ret
    exact ⟨_, rfl, GG.out, .inr ⟨H.out, rfl, _, HE3.out.1⟩⟩
   ·have hct' : (ct == 1) = false := by simpa using hct
    obtain ⟨W3, hW3⟩ : ∃ z, W2.setCell ⟨bt, 0, none⟩ (.slice (some ⟨b, o + 8, none⟩) (nt - 1) (ct - 1)) = z := ⟨_, rfl⟩
    have HE3 := ξ0N.set (HE.out.grow G2.out) (.slice (some ⟨b, o + 8, none⟩) (nt - 1) (ct - 1))
    rw [hW3] at HE3
    have HE3 := ξ HE3
    have HBT := ξ (show bt < w.heap.size from HE.out.t.lt)
    have HU3 := ξ (show Upd bt W2 W3 from by rw [← hW3]; exact ξx W2 bt 0 _)
    have HN3 := ξ (HN2.out.upd HU3.out (by have := HBT.out; omega))
    have HP3 := ξ (HP2.out.upd HU3.out (by have := HBT.out; omega))
    have HR3 := ξ (show ξu W0 (.slice (some ⟨b, o + 8, none⟩) (nt - 1) (ct - 1)) N 4 from (HRE.out _ (.inl rfl)))
    have GG := ξ (ξf (ξq bt G2.out) HE3.out.2)
    have HLN := ξ (show nt - 1 = N.length from by have := HNT.out; simp at this; omega)
    have s0 : W3.cell? ⟨bs, 0, none⟩ = some (.map (some bm)) := HE3.out.1.s.at 0 rfl
    unfold nodeA at HN3
    dsimp only at HN3
    have m0 := HN3.out.at 0 rfl
    have m1 := HN3.out.at 1 rfl
    have m2 := HN3.out.at 2 rfl
    have m3 := HN3.out.at 3 rfl
    have m4 := HN3.out.at 4 rfl
    have m5 := HN3.out.at 5 rfl
    have m6 := HN3.out.at 6 rfl
    have m7 := HN3.out.at 7 rfl
    by_cases k0 : kd = 0
    ·subst k0
     have hl := (ξz HE3.out.1.m Tryz.underlying95 Tryz.underlying3 ξG (ξ9g bv)).1
     have hq := fun w => ξ1r (w := w)
     go_enter Tryz.func50, Tryz.ntmps50
     go_wp2_with fail
     clear hl hq s0 hW2 hW3 t0 t1 f1 c0 c1 c2 c3 c4 c5 c6 c7 hnt0 hlt hlt' hlt2
     clear m0 m1 m2 m3 m4 m5 m6 m7
     refine (ξ0E W3 ⟨0, mp, mn, mc, var, pos, ck, cp, cn, cc, row, vp, vn, vc2⟩ n 4 (HX.out.grow HE3.out.1.g)).mono ?_
     rintro _ w4 ⟨r4, rfl, g4, h4⟩
     have HN4 := ξ (HN3.out.grow g4)
     have HP4 := ξ (HP3.out.grow g4)
     have HE4 := ξ (HE3.out.1.grow g4)
     have GG := ξ (ξf GG.out (ξq bt g4))
     clear g4
     rcases h4.cases with ⟨rfl, k4⟩ | ⟨rfl, k4⟩
     rotate_left
     ·have H := ξ (show ¬ ∃ S, ξa p (n :: N) S from fun ⟨S, h⟩ => k4 (ξ00 h))
      clear h4 k4
      go_wp2_with fail
      go_ret
      exact ⟨_, rfl, GG.out, .inr ⟨H.out, rfl, _, HE4.out⟩⟩
     have HPL := ξ k4
     have HKN := ξ (show n.kind = 0 from HX.out.kind.symm)
     clear h4 k4
     have HN3 := HN4
     have m0 := HN3.out.at 0 rfl
     have m1 := HN3.out.at 1 rfl
     have m2 := HN3.out.at 2 rfl
     have m3 := HN3.out.at 3 rfl
     have m4 := HN3.out.at 4 rfl
     have m5 := HN3.out.at 5 rfl
     have m6 := HN3.out.at 6 rfl
     have m7 := HN3.out.at 7 rfl
     have p0 := HP4.out.at 0 rfl
     have p1 := HP4.out.at 1 rfl
     go_wp2_with fail
     clear m0 m1 m2 m3 m4 m5 m6 m7
     clear p0 p1 HN3
     refine (ξ86 w4 _ p ⟨0, mp, mn, mc, var, pos, ck, cp, cn, cc, row, vp, vn, vc2⟩ n (HS.out.go GG.out).at (HX.out.grow HE4.out.g) HPV.out.ok HPV.out.wh HPV.out.n (by have := HPV.out.m; omega) HFN.out).mono ?_
     rintro _ w5 ⟨r5, rfl, g5, h5⟩
     have HRB := ξ (show VisR p (n :: N) W0 w bt bv bs bm r5 w5 from VisR.from GG.out (VisR.leaf (fun S => ξ5W HPL.out HKN.out) h5 g5 HE4.out HR3.out HLN.out))
     clear h5 g5
     obtain ⟨t5, rfl⟩ := HRB.out.bool
     go_wp2_with fail
     go_ret
     exact ⟨_, rfl, HRB.out⟩
    by_cases k1 : kd = 1
    ·subst k1
     have hl := (ξz HE3.out.1.m Tryz.underlying95 Tryz.underlying3 ξG (ξ9p bv)).1
     clear k0
     have hq := fun w => ξ1r (w := w)
     go_enter Tryz.func50, Tryz.ntmps50
     go_wp2_with fail
     clear hl hq s0 hW2 hW3 t0 t1 f1 c0 c1 c2 c3 c4 c5 c6 c7 hnt0 hlt hlt' hlt2
     clear m0 m1 m2 m3 m4 m5 m6 m7
     refine (ξ0E W3 ⟨1, mp, mn, mc, var, pos, ck, cp, cn, cc, row, vp, vn, vc2⟩ n 4 (HX.out.grow HE3.out.1.g)).mono ?_
     rintro _ w4 ⟨r4, rfl, g4, h4⟩
     have HN4 := ξ (HN3.out.grow g4)
     have HP4 := ξ (HP3.out.grow g4)
     have HE4 := ξ (HE3.out.1.grow g4)
     have GG := ξ (ξf GG.out (ξq bt g4))
     clear g4
     rcases h4.cases with ⟨rfl, k4⟩ | ⟨rfl, k4⟩
     rotate_left
     ·have H := ξ (show ¬ ∃ S, ξa p (n :: N) S from fun ⟨S, h⟩ => k4 (ξ00 h))
      clear h4 k4
      go_wp2_with fail
      go_ret
      exact ⟨_, rfl, GG.out, .inr ⟨H.out, rfl, _, HE4.out⟩⟩
     have HPL := ξ k4
     have HKN := ξ (show n.kind = 1 from HX.out.kind.symm)
     clear h4 k4
     have HN3 := HN4
     have m0 := HN3.out.at 0 rfl
     have m1 := HN3.out.at 1 rfl
     have m2 := HN3.out.at 2 rfl
     have m3 := HN3.out.at 3 rfl
     have m4 := HN3.out.at 4 rfl
     have m5 := HN3.out.at 5 rfl
     have m6 := HN3.out.at 6 rfl
     have m7 := HN3.out.at 7 rfl
     have p0 := HP4.out.at 0 rfl
     have p1 := HP4.out.at 1 rfl
     go_wp2_with fail
     clear m0 m1 m2 m3 m4 m5 m6 m7
     clear p0 p1 HN3
     refine (ξ85 w4 _ p ⟨1, mp, mn, mc, var, pos, ck, cp, cn, cc, row, vp, vn, vc2⟩ n (HS.out.go GG.out).at (HX.out.grow HE4.out.g) (by have := HPV.out.n; omega)).mono ?_
     rintro _ w5 ⟨r5, rfl, g5, h5⟩
     have HRB := ξ (show VisR p (n :: N) W0 w bt bv bs bm r5 w5 from VisR.from GG.out (VisR.leaf (fun S => ξ5T HPL.out HKN.out) h5 g5 HE4.out HR3.out HLN.out))
     clear h5 g5
     obtain ⟨t5, rfl⟩ := HRB.out.bool
     go_wp2_with fail
     go_ret
     exact ⟨_, rfl, HRB.out⟩
    by_cases k2 : kd = 2
    ·subst k2
     have hl := (ξz HE3.out.1.m Tryz.underlying95 Tryz.underlying3 ξG (ξ96 bv)).1
     clear k0 k1
     have hq := fun w => ξ1r (w := w)
     go_enter Tryz.func50, Tryz.ntmps50
     go_wp2_with fail
     clear hl hq s0 hW2 hW3 t0 t1 f1 c0 c1 c2 c3 c4 c5 c6 c7 hnt0 hlt hlt' hlt2
     clear m0 m1 m2 m3 m4 m5 m6 m7
     refine (ξ0E W3 ⟨2, mp, mn, mc, var, pos, ck, cp, cn, cc, row, vp, vn, vc2⟩ n 4 (HX.out.grow HE3.out.1.g)).mono ?_
     rintro _ w4 ⟨r4, rfl, g4, h4⟩
     have HN4 := ξ (HN3.out.grow g4)
     have HP4 := ξ (HP3.out.grow g4)
     have HE4 := ξ (HE3.out.1.grow g4)
     have GG := ξ (ξf GG.out (ξq bt g4))
     clear g4
     rcases h4.cases with ⟨rfl, k4⟩ | ⟨rfl, k4⟩
     rotate_left
     ·have H := ξ (show ¬ ∃ S, ξa p (n :: N) S from fun ⟨S, h⟩ => k4 (ξ00 h))
      clear h4 k4
      go_wp2_with fail
      go_ret
      exact ⟨_, rfl, GG.out, .inr ⟨H.out, rfl, _, HE4.out⟩⟩
     have HPL := ξ k4
     have HKN := ξ (show n.kind = 2 from HX.out.kind.symm)
     clear h4 k4
     have HN3 := HN4
     have m0 := HN3.out.at 0 rfl
     have m1 := HN3.out.at 1 rfl
     have m2 := HN3.out.at 2 rfl
     have m3 := HN3.out.at 3 rfl
     have m4 := HN3.out.at 4 rfl
     have m5 := HN3.out.at 5 rfl
     have m6 := HN3.out.at 6 rfl
     have m7 := HN3.out.at 7 rfl
     have p0 := HP4.out.at 0 rfl
     have p1 := HP4.out.at 1 rfl
     go_wp2_with fail
     clear m0 m1 m2 m3 m4 m5 m6 m7
     clear p0 p1 HN3
     refine (ξ84 W0 w4 bt bv bs bm (some ⟨b, o + 8, none⟩) (ct - 1) _ p ⟨2, mp, mn, mc, var, pos, ck, cp, cn, cc, row, vp, vn, vc2⟩ n N (nt - 1) HLN.out (HIH.out.less (by have := HK.out; simp at this; omega)) HE4.out HR3.out (HS.out.go GG.out) (HX.out.grow HE4.out.g) HPV.out HFR.out HKN.out HPL.out).mono ?_
     rintro _ w5 ⟨r5, rfl, h5⟩
     have HRB := ξ (show VisR p (n :: N) W0 w bt bv bs bm r5 w5 from VisR.from GG.out h5)
     clear h5
     obtain ⟨t5, rfl⟩ := HRB.out.bool
     go_wp2_with fail
     go_ret
     exact ⟨_, rfl, HRB.out⟩
    by_cases k3 : kd = 3
    ·subst k3
     have hl := (ξz HE3.out.1.m Tryz.underlying95 Tryz.underlying3 ξG (ξ9C bv)).1
     clear k0 k1 k2
     have hq := fun w => ξ1r (w := w)
     go_enter Tryz.func50, Tryz.ntmps50
     go_wp2_with fail
     clear hl hq s0 hW2 hW3 t0 t1 f1 c0 c1 c2 c3 c4 c5 c6 c7 hnt0 hlt hlt' hlt2
     clear m0 m1 m2 m3 m4 m5 m6 m7
     refine (ξ0E W3 ⟨3, mp, mn, mc, var, pos, ck, cp, cn, cc, row, vp, vn, vc2⟩ n 4 (HX.out.grow HE3.out.1.g)).mono ?_
     rintro _ w4 ⟨r4, rfl, g4, h4⟩
     have HN4 := ξ (HN3.out.grow g4)
     have HP4 := ξ (HP3.out.grow g4)
     have HE4 := ξ (HE3.out.1.grow g4)
     have GG := ξ (ξf GG.out (ξq bt g4))
     clear g4
     rcases h4.cases with ⟨rfl, k4⟩ | ⟨rfl, k4⟩
     rotate_left
     ·have H := ξ (show ¬ ∃ S, ξa p (n :: N) S from fun ⟨S, h⟩ => k4 (ξ00 h))
      clear h4 k4
      go_wp2_with fail
      go_ret
      exact ⟨_, rfl, GG.out, .inr ⟨H.out, rfl, _, HE4.out⟩⟩
     have HPL := ξ k4
     have HKN := ξ (show n.kind = 3 from HX.out.kind.symm)
     clear h4 k4
     have HN3 := HN4
     have m0 := HN3.out.at 0 rfl
     have m1 := HN3.out.at 1 rfl
     have m2 := HN3.out.at 2 rfl
     have m3 := HN3.out.at 3 rfl
     have m4 := HN3.out.at 4 rfl
     have m5 := HN3.out.at 5 rfl
     have m6 := HN3.out.at 6 rfl
     have m7 := HN3.out.at 7 rfl
     have p0 := HP4.out.at 0 rfl
     have p1 := HP4.out.at 1 rfl
     go_wp2_with fail
     clear m0 m1 m2 m3 m4 m5 m6 m7
     clear p0 p1 HN3
     refine (ξ8c W0 w4 bt bv bs bm (some ⟨b, o + 8, none⟩) (ct - 1) _ p ⟨3, mp, mn, mc, var, pos, ck, cp, cn, cc, row, vp, vn, vc2⟩ n N (nt - 1) HLN.out (HIH.out.less (by have := HK.out; simp at this; omega)) HE4.out HR3.out (HS.out.go GG.out) (HX.out.grow HE4.out.g) HPV.out HFR.out HFN.out HKN.out HPL.out).mono ?_
     rintro _ w5 ⟨r5, rfl, h5⟩
     have HRB := ξ (show VisR p (n :: N) W0 w bt bv bs bm r5 w5 from VisR.from GG.out h5)
     clear h5
     obtain ⟨t5, rfl⟩ := HRB.out.bool
     go_wp2_with fail
     go_ret
     exact ⟨_, rfl, HRB.out⟩
    have hl := (ξ1P (P := Tryz.prog) (z := .nilFunc) HE3.out.1.m Tryz.underlying95 Tryz.underlying3 (ξG (n := kd)) (by kernel_rfl) (ξ9w bv k0 k1 k2 k3)).1
    have H := ξ (show ¬ ∃ S, ξa p (n :: N) S from fun ⟨S, h⟩ => ξ5q (by rw [← HX.out.kind]; exact k0) (by rw [← HX.out.kind]; exact k1) (by rw [← HX.out.kind]; exact k2) (by rw [← HX.out.kind]; exact k3) (ξ00 h))
    have hq := fun w => ξ6D (w := w)
    clear k0 k1 k2 k3
    go_enter Tryz.func50, Tryz.ntmps50
    go_wp2_with fail
    go_ret
    exact ⟨_, rfl, GG.out, .inr ⟨H.out, rfl, _, HE3.out.1⟩⟩
end Prf
end Go.Proofs.YtcjgimlcefhhmaaGreatDoor

/- Texts: PvE PvF. -/
import Derived.Test.YtcjgimlcefhhmaaGreatDoorW43
set_option linter.unusedVariables false
set_option linter.unusedSimpArgs false
set_option maxRecDepth 100000
set_option maxHeartbeats 12800000
namespace Go.Proofs.YtcjgimlcefhhmaaGreatDoor
namespace Prf
open Go.RowKit Go.Lib
theorem ξ79 {w : World} {bt : Nat} {va vb : Option Addr} {vc vd n k : Nat} {p : Prg} (hn : p.vars.length = n) (hk : p.rows.length = k) (h : ξK w bt (.agg #[.slice va n vc, .slice vb k vd]) p) : ξ06 w (.slice va n vc) p.vars := by
 subst hn hk
 exact h.vars
theorem ξ84 (W0 w : World) (bt bv bs bm : Nat) (pt : Option Addr) (ct : Nat) (v : Value) (p : Prg) (x : ξb) (n : ξ6) (N : List ξ6) (nt : Nat) (hnt : nt = N.length) (IH : VisC (N.length + 1) W0 bt bv bs bm) (he : ξ0N W0 w bt bv bs bm (.slice pt nt ct)) (hno : ξu W0 (.slice pt nt ct) N 4)
  (hs : ξK w bt v p) (hx : ξS w x n 4) (hp : PvP p (N.length + 1)) (hf : ∀ n ∈ N, ξ08 n) (h2 : n.kind = 2) (h3 : ξT n) :
  Calls Tryz.prog 46 #[v, .agg (nodeA x), .pointer (some ⟨bv, 0, none⟩)] w (fun e w' => ∃ r, e = .returned r ∧ VisR p (n :: N) W0 w bt bv bs bm r w') := by
 have HIH := ξ IH
 have HE := ξ he
 have HNO := ξ (And.intro hno hnt)
 have HPV := ξ hp
 have HF := ξ hf
 have HK := ξ (fun s => ξ9J (p := p) (n := n) (t := N) (s := s) h3 h2)
 have HVP := ξ (And.intro hx.var hx.pos)
 obtain ⟨va, vc, vb, vd, rfl, hv, hr⟩ := hs.at
 have HS := ξ hs
 unfold prgV at HS ⊢
 obtain ⟨lv, hlv⟩ : ∃ z, p.vars.length = z := ⟨_, rfl⟩
 obtain ⟨lr, hlr⟩ : ∃ z, p.rows.length = z := ⟨_, rfl⟩
 have HLV := ξ (And.intro hlv hlr)
 rw [hlv, hlr] at HS ⊢
 have HB := ξ (ξ2l w va vb vc vd lv lr x)
 clear IH he hno hnt hs hp hf h2 h3 hv hr hx hlv hlr
 obtain ⟨kd, mp, mn, mc, var, pos, ck, cp, cn, cc, row, vp, vn, vc2⟩ := x
 dsimp only at HVP
 unfold nodeA at HB ⊢
 dsimp only at HB ⊢
 go_enter Tryz.func46, Tryz.ntmps46
 go_wp2_with fail
 have HSZ := ξ (show bt < w.heap.size ∧ bv < w.heap.size from ⟨HE.out.t.lt, HE.out.v.lt⟩)
 generalize hbn : w.heap.size + 1 = bn at HB ⊢
 generalize hbp : w.heap.size = bp at HB HSZ ⊢
 generalize (w.alloc _).alloc _ = W at HB ⊢
 have HNE := ξ (show bt < bp ∧ bv < bp ∧ bt < bn ∧ bp < W.heap.size ∧ bn < W.heap.size from by
  have := HSZ.out
  have h1 := HB.out.2.1.lt
  have h2 := HB.out.2.2.lt
  omega)
 clear hbn hbp
 have hB0 : ξ0 W.drew bv #[visitF bt bs] ∧ ξ0 W.drew bp #[.slice va lv vc, .slice vb lr vd] ∧ ξ0 W.drew bn (nodeA ⟨kd, mp, mn, mc, var, pos, ck, cp, cn, cc, row, vp, vn, vc2⟩) :=
  have g0 : Gr W W.drew := (Gr.refl _).drew
  ⟨HE.out.v.grow (HB.out.1.trans g0), HB.out.2.1.grow g0, HB.out.2.2.grow g0⟩
 have x2 : ∀ w', (ξ0 w' bv #[visitF bt bs] ∧ ξ0 w' bp #[.slice va lv vc, .slice vb lr vd] ∧ ξ0 w' bn (nodeA ⟨kd, mp, mn, mc, var, pos, ck, cp, cn, cc, row, vp, vn, vc2⟩)) → w'.cell? ⟨bn, 2, none⟩ = some (.int .i64 var) := fun w' h => h.2.2.at 2 rfl
 have x3 : ∀ w', (ξ0 w' bv #[visitF bt bs] ∧ ξ0 w' bp #[.slice va lv vc, .slice vb lr vd] ∧ ξ0 w' bn (nodeA ⟨kd, mp, mn, mc, var, pos, ck, cp, cn, cc, row, vp, vn, vc2⟩)) → w'.cell? ⟨bn, 3, none⟩ = some (.int .i64 pos) := fun w' h => h.2.2.at 3 rfl
 have y0 : ∀ w', (ξ0 w' bv #[visitF bt bs] ∧ ξ0 w' bp #[.slice va lv vc, .slice vb lr vd] ∧ ξ0 w' bn (nodeA ⟨kd, mp, mn, mc, var, pos, ck, cp, cn, cc, row, vp, vn, vc2⟩)) → w'.cell? ⟨bp, 0, none⟩ = some (.slice va lv vc) := fun w' h => h.2.1.at 0 rfl
 have y1 : ∀ w', (ξ0 w' bv #[visitF bt bs] ∧ ξ0 w' bp #[.slice va lv vc, .slice vb lr vd] ∧ ξ0 w' bn (nodeA ⟨kd, mp, mn, mc, var, pos, ck, cp, cn, cc, row, vp, vn, vc2⟩)) → w'.cell? ⟨bp, 1, none⟩ = some (.slice vb lr vd) := fun w' h => h.2.1.at 1 rfl
 have z0 : ∀ w', (ξ0 w' bv #[visitF bt bs] ∧ ξ0 w' bp #[.slice va lv vc, .slice vb lr vd] ∧ ξ0 w' bn (nodeA ⟨kd, mp, mn, mc, var, pos, ck, cp, cn, cc, row, vp, vn, vc2⟩)) → w'.cell? ⟨bv, 0, none⟩ = some (.func (.func 50) #[] #[.pointer (some ⟨bt, 0, none⟩), .pointer (some ⟨bs, 0, none⟩)]) := fun w' h => h.1.at 0 rfl
 by_cases h0 : 0 ≤ var
 rotate_left
 ·have e2 : decide (0 ≤ var) = false := decide_eq_false h0
  have HX := ξ h0
  clear h0
  have H := ξ (show ¬ ∃ S, ξa p (n :: N) S from fun ⟨S, h⟩ => HX.out (by rw [HVP.out.1]; exact ((HK.out S).1 h).1.1))
  refine Inv.ξW (fun w' => ξ0 w' bv #[visitF bt bs] ∧ ξ0 w' bp #[.slice va lv vc, .slice vb lr vd] ∧ ξ0 w' bn (nodeA ⟨kd, mp, mn, mc, var, pos, ck, cp, cn, cc, row, vp, vn, vc2⟩)) (.read 0 (.read 1 (.read 2 (.read 3 (.read 4 (.read 5 (.read 6 (.read 7 (.read 8 (.read 9 (.read 10 (.read 11 (.read 12 (.read 13 (.read 14 (.read 15 (.read 16 (.read 17 (.read 18 (.read 19 (.read 20 (.read 21 (.read 22 (.read 23 (.read 24 (.read 25 (.read 26 (.read 27 (.one 28 (.one 29 (.read 30 (.read 31 (.read 32 (.read 33 (.read 34 (.read 35 (.read 36 (.read 37 (.one 38 (.one 39 (.read 40 (.read 41 .stop)))))))))))))))))))))))))))))))))))))))))) hB0 (by kernel_rfl) (by kernel_rfl) rfl (by kernel_rfl) (fun _ _ d _ _ h => by cases d <;> exact h) ?_
  generalize hWd : W.drew = Wd at hB0 ⊢
  have GD := ξ (show Gr w Wd from by rw [← hWd]; exact HB.out.1.trans (Gr.refl W).drew)
  clear hWd hB0
  repeat (first | (refine Inv.ξP (v := ?_) rfl rfl (fun w' hg => ?_) (fun K hK => ?_); rotate_left; (go_simp; rfl); go_simp; refine hK _ _ ?_; clear hK K) | (refine Inv.ξ1t rfl rfl (fun K hK => ?_); go_simp; refine hK _ _ ?_; clear hK K) | (refine Inv.ξ1w rfl rfl (fun K hK => ?_); go_simp; refine hK _ _ ?_; clear hK K))
  refine Inv.ξ0p ?_
  clear x2 x3 y0 y1 z0
  go_wp2_with fail
  go_ret
  exact ⟨_, rfl, ξq bt GD.out, .inr ⟨H.out, rfl, _, HE.out.grow GD.out⟩⟩
 by_cases h1 : var < (lv : Int)
 rotate_left
 ·have e2 : decide (var < (lv : Int)) = false := decide_eq_false h1
  have HX := ξ h1
  clear h1
  have H := ξ (show ¬ ∃ S, ξa p (n :: N) S from fun ⟨S, h⟩ => HX.out (by rw [HVP.out.1, ← HLV.out.1]; exact ((HK.out S).1 h).1.2))
  refine Inv.ξW (fun w' => ξ0 w' bv #[visitF bt bs] ∧ ξ0 w' bp #[.slice va lv vc, .slice vb lr vd] ∧ ξ0 w' bn (nodeA ⟨kd, mp, mn, mc, var, pos, ck, cp, cn, cc, row, vp, vn, vc2⟩)) (.read 0 (.read 1 (.read 2 (.read 3 (.read 4 (.read 5 (.read 6 (.read 7 (.read 8 (.read 9 (.read 10 (.read 11 (.read 12 (.read 13 (.read 14 (.read 15 (.read 16 (.read 17 (.read 18 (.read 19 (.read 20 (.read 21 (.read 22 (.read 23 (.read 24 (.read 25 (.read 26 (.read 27 (.one 28 (.one 29 (.read 30 (.read 31 (.read 32 (.read 33 (.read 34 (.read 35 (.read 36 (.read 37 (.one 38 (.one 39 (.read 40 (.read 41 .stop)))))))))))))))))))))))))))))))))))))))))) hB0 (by kernel_rfl) (by kernel_rfl) rfl (by kernel_rfl) (fun _ _ d _ _ h => by cases d <;> exact h) ?_
  generalize hWd : W.drew = Wd at hB0 ⊢
  have GD := ξ (show Gr w Wd from by rw [← hWd]; exact HB.out.1.trans (Gr.refl W).drew)
  clear hWd hB0
  repeat (first | (refine Inv.ξP (v := ?_) rfl rfl (fun w' hg => ?_) (fun K hK => ?_); rotate_left; (go_simp; rfl); go_simp; refine hK _ _ ?_; clear hK K) | (refine Inv.ξ1t rfl rfl (fun K hK => ?_); go_simp; refine hK _ _ ?_; clear hK K) | (refine Inv.ξ1w rfl rfl (fun K hK => ?_); go_simp; refine hK _ _ ?_; clear hK K))
  refine Inv.ξ0p ?_
  clear x2 x3 y0 y1 z0
  go_wp2_with fail
  go_ret
  exact ⟨_, rfl, ξq bt GD.out, .inr ⟨H.out, rfl, _, HE.out.grow GD.out⟩⟩
 by_cases h4 : -1099511627776 ≤ pos
 rotate_left
 ·have e2 : decide (-1099511627776 ≤ pos) = false := decide_eq_false h4
  have HX := ξ h4
  clear h4
  have H := ξ (show ¬ ∃ S, ξa p (n :: N) S from fun ⟨S, h⟩ => HX.out (by rw [HVP.out.2]; exact ((HK.out S).1 h).2.1.1))
  refine Inv.ξW (fun w' => ξ0 w' bv #[visitF bt bs] ∧ ξ0 w' bp #[.slice va lv vc, .slice vb lr vd] ∧ ξ0 w' bn (nodeA ⟨kd, mp, mn, mc, var, pos, ck, cp, cn, cc, row, vp, vn, vc2⟩)) (.read 0 (.read 1 (.read 2 (.read 3 (.read 4 (.read 5 (.read 6 (.read 7 (.read 8 (.read 9 (.read 10 (.read 11 (.read 12 (.read 13 (.read 14 (.read 15 (.read 16 (.read 17 (.read 18 (.read 19 (.read 20 (.read 21 (.read 22 (.read 23 (.read 24 (.read 25 (.read 26 (.read 27 (.one 28 (.one 29 (.read 30 (.read 31 (.read 32 (.read 33 (.read 34 (.read 35 (.read 36 (.read 37 (.one 38 (.one 39 (.read 40 (.read 41 .stop)))))))))))))))))))))))))))))))))))))))))) hB0 (by kernel_rfl) (by kernel_rfl) rfl (by kernel_rfl) (fun _ _ d _ _ h => by cases d <;> exact h) ?_
  generalize hWd : W.drew = Wd at hB0 ⊢
  have GD := ξ (show Gr w Wd from by rw [← hWd]; exact HB.out.1.trans (Gr.refl W).drew)
  clear hWd hB0
  repeat (first | (refine Inv.ξP (v := ?_) rfl rfl (fun w' hg => ?_) (fun K hK => ?_); rotate_left; (go_simp; rfl); go_simp; refine hK _ _ ?_; clear hK K) | (refine Inv.ξ1t rfl rfl (fun K hK => ?_); go_simp; refine hK _ _ ?_; clear hK K) | (refine Inv.ξ1w rfl rfl (fun K hK => ?_); go_simp; refine hK _ _ ?_; clear hK K))
  refine Inv.ξ0p ?_
  clear x2 x3 y0 y1 z0
  go_wp2_with fail
  go_ret
  exact ⟨_, rfl, ξq bt GD.out, .inr ⟨H.out, rfl, _, HE.out.grow GD.out⟩⟩
 by_cases h5 : pos < 1099511627776
 rotate_left
 ·have e2 : decide (pos < 1099511627776) = false := decide_eq_false h5
  have HX := ξ h5
  clear h5
  have H := ξ (show ¬ ∃ S, ξa p (n :: N) S from fun ⟨S, h⟩ => HX.out (by rw [HVP.out.2]; exact ((HK.out S).1 h).2.1.2))
  refine Inv.ξW (fun w' => ξ0 w' bv #[visitF bt bs] ∧ ξ0 w' bp #[.slice va lv vc, .slice vb lr vd] ∧ ξ0 w' bn (nodeA ⟨kd, mp, mn, mc, var, pos, ck, cp, cn, cc, row, vp, vn, vc2⟩)) (.read 0 (.read 1 (.read 2 (.read 3 (.read 4 (.read 5 (.read 6 (.read 7 (.read 8 (.read 9 (.read 10 (.read 11 (.read 12 (.read 13 (.read 14 (.read 15 (.read 16 (.read 17 (.read 18 (.read 19 (.read 20 (.read 21 (.read 22 (.read 23 (.read 24 (.read 25 (.read 26 (.read 27 (.one 28 (.one 29 (.read 30 (.read 31 (.read 32 (.read 33 (.read 34 (.read 35 (.read 36 (.read 37 (.one 38 (.one 39 (.read 40 (.read 41 .stop)))))))))))))))))))))))))))))))))))))))))) hB0 (by kernel_rfl) (by kernel_rfl) rfl (by kernel_rfl) (fun _ _ d _ _ h => by cases d <;> exact h) ?_
  generalize hWd : W.drew = Wd at hB0 ⊢
  have GD := ξ (show Gr w Wd from by rw [← hWd]; exact HB.out.1.trans (Gr.refl W).drew)
  clear hWd hB0
  repeat (first | (refine Inv.ξP (v := ?_) rfl rfl (fun w' hg => ?_) (fun K hK => ?_); rotate_left; (go_simp; rfl); go_simp; refine hK _ _ ?_; clear hK K) | (refine Inv.ξ1t rfl rfl (fun K hK => ?_); go_simp; refine hK _ _ ?_; clear hK K) | (refine Inv.ξ1w rfl rfl (fun K hK => ?_); go_simp; refine hK _ _ ?_; clear hK K))
  refine Inv.ξ0p ?_
  clear x2 x3 y0 y1 z0
  go_wp2_with fail
  go_ret
  exact ⟨_, rfl, ξq bt GD.out, .inr ⟨H.out, rfl, _, HE.out.grow GD.out⟩⟩
 obtain ⟨jn, rfl⟩ : ∃ j : Nat, var = (j : Int) := ⟨var.toNat, by omega⟩
 have hj : jn < lv := by omega
 have HM := ξ (show -1099511627776 ≤ pos ∧ pos < 1099511627776 from ⟨h4, h5⟩)
 have HVN := ξ (show p.vars.length = lv ∧ lv ≤ 1000000 from ⟨HLV.out.1, by have := HPV.out.n; have := HLV.out.1; omega⟩)
 refine Inv.ξW (fun w' => ξ0 w' bv #[visitF bt bs] ∧ ξ0 w' bp #[.slice va lv vc, .slice vb lr vd] ∧ ξ0 w' bn (nodeA ⟨kd, mp, mn, mc, (jn : Int), pos, ck, cp, cn, cc, row, vp, vn, vc2⟩)) (.read 0 (.read 1 (.read 2 (.read 3 (.read 4 (.read 5 (.read 6 (.read 7 (.read 8 (.read 9 (.read 10 (.read 11 (.read 12 (.read 13 (.read 14 (.read 15 (.read 16 (.read 17 (.read 18 (.read 19 (.read 20 (.read 21 (.read 22 (.read 23 (.read 24 (.read 25 (.read 26 (.read 27 (.one 28 (.one 29 (.read 30 (.read 31 (.read 32 (.read 33 (.read 34 (.read 35 (.read 36 (.read 37 (.one 38 (.one 39 (.read 40 (.read 41 .stop)))))))))))))))))))))))))))))))))))))))))) hB0 (by kernel_rfl) (by kernel_rfl) rfl (by kernel_rfl) (fun _ _ d _ _ h => by cases d <;> exact h) ?_
 generalize hWd : W.drew = Wd at hB0 ⊢
 have GD := ξ (show Gr w Wd ∧ W.heap.size ≤ Wd.heap.size from by rw [← hWd]; exact ⟨HB.out.1.trans (Gr.refl W).drew, ((Gr.refl W).drew).size⟩)
 have HJ := ξ hj
 clear hWd
 repeat (first | (refine Inv.ξP (v := ?_) rfl rfl (fun w' hg => ?_) (fun K hK => ?_); rotate_left; (go_simp; rfl); go_simp; refine hK _ _ ?_; clear hK K) | (refine Inv.ξ1t rfl rfl (fun K hK => ?_); go_simp; refine hK _ _ ?_; clear hK K) | (refine Inv.ξ1w rfl rfl (fun K hK => ?_); go_simp; refine hK _ _ ?_; clear hK K))
 clear h0 h1 h4 h5 hj
 refine Inv.ξ3i (args := ?_) rfl rfl rfl rfl rfl rfl (by kernel_rfl) (by kernel_rfl) ?_ (fun K hK => ?_)
 rotate_left
 ·go_simp; rfl
 refine (ξ9y Wd va vb vc vd lr p.vars lv jn pos true (ξ79 HLV.out.1 HLV.out.2 (HS.out.go (ξq bt GD.out.1))) HVN.out.1 HJ.out HM.out HVN.out.2).mono ?_
 rintro _ w1 ⟨_, rfl, g1, pv1, cv1, rfl, ho1⟩
 rw [if_pos rfl] at ho1
 have HS1 := ξ (ξK.low HLV.out.1 HLV.out.2 HS.out (ξq bt (GD.out.1.trans g1)) ho1 (by have := HNE.out; have := GD.out.2; omega))
 have hB1 : ξ0 w1 bv #[visitF bt bs] ∧ ξ0 w1 bp #[.slice va lv vc, .slice vb lr vd] ∧ ξ0 w1 bn (nodeA ⟨kd, mp, mn, mc, (jn : Int), pos, ck, cp, cn, cc, row, vp, vn, vc2⟩) := ⟨hB0.1.grow g1, hB0.2.1.grow g1, hB0.2.2.grow g1⟩
 have HE1 := ξ (HE.out.grow (GD.out.1.trans g1))
 have GG := ξ (ξq bt (GD.out.1.trans g1))
 clear ho1 hB0 g1
 refine ⟨_, rfl, hB1, ?_⟩
 go_simp
 refine hK _ _ ?_
 clear hK K
 refine Inv.ξ7U (args := ?_) rfl rfl rfl rfl rfl (enters_of Tryz.func50 (by kernel_rfl) rfl) ?_ (fun K hK => ?_)
 rotate_left
 ·go_simp; rfl
 refine (HIH.out w1 _ (lowPart p (jn : Int) pos) N pt ct nt (by omega) HNO.out.2 HE1.out HNO.out.1 HS1.out ((HPV.out.low HM.out).less (by omega)) HF.out).mono ?_
 rintro _ w2 ⟨r2, rfl, g2, hr2⟩
 have hB2 : ξ0 w2 bv #[visitF bt bs] ∧ ξ0 w2 bp #[.slice va lv vc, .slice vb lr vd] ∧ ξ0 w2 bn (nodeA ⟨kd, mp, mn, mc, (jn : Int), pos, ck, cp, cn, cc, row, vp, vn, vc2⟩) :=
  ⟨hB1.1.grown g2 (by have := HNE.out; have := HE.out.n; exact fun e => this.1 (Option.some.inj e).symm), hB1.2.1.grown g2 (fun e => by have := HNE.out; have := Option.some.inj e; omega), hB1.2.2.grown g2 (fun e => by have := HNE.out; have := Option.some.inj e; omega)⟩
 have GG := ξ (ξf GG.out g2)
 clear hB1 g2
 rcases hr2 with ⟨S, pt2, nt2, ct2, hpr, rfl, he2, hno2, hl2⟩ | ⟨hnp, rfl, tv2, he2⟩
 rotate_left
 ·have H := ξ (show ¬ ∃ S, ξa p (n :: N) S from fun ⟨S, h⟩ => by
   obtain ⟨-, -, r, k1, -⟩ := (HK.out S).1 h
   rw [← HVP.out.1, ← HVP.out.2] at k1
   exact hnp ⟨r, k1⟩)
  have HE2 := ξ he2
  clear hnp he2
  refine ⟨_, rfl, hB2, ?_⟩
  go_simp
  refine hK _ _ ?_
  clear hK K
  repeat (first | (refine Inv.ξP (v := ?_) rfl rfl (fun w' hg => ?_) (fun K hK => ?_); rotate_left; (go_simp; rfl); go_simp; refine hK _ _ ?_; clear hK K) | (refine Inv.ξ1t rfl rfl (fun K hK => ?_); go_simp; refine hK _ _ ?_; clear hK K) | (refine Inv.ξ1w rfl rfl (fun K hK => ?_); go_simp; refine hK _ _ ?_; clear hK K))
  refine Inv.ξ0p ?_
  clear x2 x3 y0 y1 z0
  go_wp2_with fail
  go_ret
  exact ⟨_, rfl, GG.out, .inr ⟨H.out, rfl, _, HE2.out⟩⟩
 have HPR := ξ hpr
 have HE2 := ξ he2
 have HNO2 := ξ (And.intro hno2 hl2)
 clear hpr he2 hno2 hl2
 refine ⟨_, rfl, hB2, ?_⟩
 go_simp
 refine hK _ _ ?_
 clear hK K
 repeat (first | (refine Inv.ξP (v := ?_) rfl rfl (fun w' hg => ?_) (fun K hK => ?_); rotate_left; (go_simp; rfl); go_simp; refine hK _ _ ?_; clear hK K) | (refine Inv.ξ1t rfl rfl (fun K hK => ?_); go_simp; refine hK _ _ ?_; clear hK K) | (refine Inv.ξ1w rfl rfl (fun K hK => ?_); go_simp; refine hK _ _ ?_; clear hK K))
 refine Inv.ξ3i (args := ?_) rfl rfl rfl rfl rfl rfl (by kernel_rfl) (by kernel_rfl) ?_ (fun K hK => ?_)
 rotate_left
 ·go_simp; rfl
 refine (ξ9y w2 va vb vc vd lr p.vars lv jn pos false (ξ79 HLV.out.1 HLV.out.2 (HS.out.go GG.out)) HVN.out.1 HJ.out HM.out HVN.out.2).mono ?_
 rintro _ w3 ⟨_, rfl, g3, pv3, cv3, rfl, ho3⟩
 rw [if_neg (by decide)] at ho3
 have HS3 := ξ (ξK.high HLV.out.1 HLV.out.2 HS.out (ξf GG.out (ξq bt g3)) ho3 (by have := HE2.out.t.lt; omega))
 have hB3 : ξ0 w3 bv #[visitF bt bs] ∧ ξ0 w3 bp #[.slice va lv vc, .slice vb lr vd] ∧ ξ0 w3 bn (nodeA ⟨kd, mp, mn, mc, (jn : Int), pos, ck, cp, cn, cc, row, vp, vn, vc2⟩) := ⟨hB2.1.grow g3, hB2.2.1.grow g3, hB2.2.2.grow g3⟩
 have HE3 := ξ (HE2.out.grow g3)
 have GG := ξ (ξf GG.out (ξq bt g3))
 clear ho3 hB2 g3
 refine ⟨_, rfl, hB3, ?_⟩
 go_simp
 refine hK _ _ ?_
 clear hK K
 refine Inv.ξ7U (args := ?_) rfl rfl rfl rfl rfl (enters_of Tryz.func50 (by kernel_rfl) rfl) ?_ (fun K hK => ?_)
 rotate_left
 ·go_simp; rfl
 have HSU := ξ (ξcO HPR.out)
 refine (HIH.out w3 _ (highPart p (jn : Int) pos) S pt2 ct2 nt2 (by have := HSU.out.1; omega) HNO2.out.2 HE3.out HNO2.out.1 HS3.out ((HPV.out.high HM.out).less (by have := HSU.out.1; omega)) (fun n hn => HF.out n (HSU.out.2 n hn))).mono ?_
 rintro _ w4 ⟨r4, rfl, g4, hr4⟩
 have hB4 : ξ0 w4 bv #[visitF bt bs] ∧ ξ0 w4 bp #[.slice va lv vc, .slice vb lr vd] ∧ ξ0 w4 bn (nodeA ⟨kd, mp, mn, mc, (jn : Int), pos, ck, cp, cn, cc, row, vp, vn, vc2⟩) :=
  ⟨hB3.1.grown g4 (by have := HNE.out; have := HE.out.n; exact fun e => this.1 (Option.some.inj e).symm), hB3.2.1.grown g4 (fun e => by have := HNE.out; have := Option.some.inj e; omega), hB3.2.2.grown g4 (fun e => by have := HNE.out; have := Option.some.inj e; omega)⟩
 have GG := ξ (ξf GG.out g4)
 clear hB3 g4
 have HRB := ξ (show (∃ t, r4 = .bool t) ∧ VisR p (n :: N) W0 w bt bv bs bm r4 w4 from by
  rcases hr4 with ⟨S', pt5, nt5, ct5, hp5, rfl, k1, k2, k3⟩ | ⟨hn5, rfl, tv5, k1⟩
  ·exact ⟨⟨_, rfl⟩, GG.out, .inl ⟨S', pt5, nt5, ct5, (HK.out S').2 ⟨by rw [← HVP.out.1]; exact ⟨by omega, by have := HJ.out; have := HLV.out.1; omega⟩, by rw [← HVP.out.2]; exact HM.out, S, by rw [← HVP.out.1, ← HVP.out.2]; exact ⟨HPR.out, hp5⟩⟩, rfl, k1, k2, k3⟩⟩
  ·refine ⟨⟨_, rfl⟩, GG.out, .inr ⟨fun ⟨S', h⟩ => ?_, rfl, tv5, k1⟩⟩
   obtain ⟨-, -, r, q1, q2⟩ := (HK.out S').1 h
   rw [← HVP.out.1, ← HVP.out.2] at q1 q2
   exact hn5 ⟨S', by rw [ξ2m HPR.out q1]; exact q2⟩)
 clear hr4
 obtain ⟨t4, rfl⟩ := HRB.out.1
 refine ⟨_, rfl, hB4, ?_⟩
 go_simp
 refine hK _ _ ?_
 clear hK K
 repeat (first | (refine Inv.ξP (v := ?_) rfl rfl (fun w' hg => ?_) (fun K hK => ?_); rotate_left; (go_simp; rfl); go_simp; refine hK _ _ ?_; clear hK K) | (refine Inv.ξ1t rfl rfl (fun K hK => ?_); go_simp; refine hK _ _ ?_; clear hK K) | (refine Inv.ξ1w rfl rfl (fun K hK => ?_); go_simp; refine hK _ _ ?_; clear hK K))
 refine Inv.ξ0p ?_
 clear x2 x3 y0 y1 z0
 go_wp2_with fail
 go_ret
 exact ⟨_, rfl, HRB.out.2⟩
theorem ξ8c (W0 w : World) (bt bv bs bm : Nat) (pt : Option Addr) (ct : Nat) (v : Value) (p : Prg) (x : ξb) (n : ξ6) (N : List ξ6) (nt : Nat) (hnt : nt = N.length) (IH : VisC (N.length + 1) W0 bt bv bs bm) (he : ξ0N W0 w bt bv bs bm (.slice pt nt ct)) (hno : ξu W0 (.slice pt nt ct) N 4)
  (hs : ξK w bt v p) (hx : ξS w x n 4) (hp : PvP p (N.length + 1)) (hf : ∀ n ∈ N, ξ08 n) (hfn : ξ08 n) (h2 : n.kind = 3) (h3 : ξT n) :
  Calls Tryz.prog 48 #[v, .agg (nodeA x), .pointer (some ⟨bv, 0, none⟩)] w (fun e w' => ∃ r, e = .returned r ∧ VisR p (n :: N) W0 w bt bv bs bm r w') := by
 have HIH := ξ IH
 have HE := ξ he
 have HNO := ξ (And.intro hno hnt)
 have HPV := ξ hp
 have HF := ξ hf
 have HFN := ξ hfn
 have HK := ξ (fun s => ξ95 (p := p) (n := n) (t := N) (s := s) h3 h2)
 have HCU := ξ hx.cut
 have HP := ξ hs.at
 obtain ⟨va, vc, vb, vd, rfl, hv, hr⟩ := hs.at
 unfold prgV at HP ⊢
 have HB := ξ (ξ2l w va vb vc vd p.vars.length p.rows.length x)
 clear IH he hno hnt hs hp hf hfn h2 h3 hv hr hx
 obtain ⟨kd, mp, mn, mc, var, pos, ck, cp, cn, cc, row, vp, vn, vc2⟩ := x
 unfold ξb.cutV at HCU
 dsimp only at HCU
 unfold nodeA at HB ⊢
 dsimp only at HB ⊢
 have z0 : ((w.alloc (.cells #[.slice va p.vars.length vc, .slice vb p.rows.length vd] 25)).alloc (.cells (nodeA ⟨kd, mp, mn, mc, var, pos, ck, cp, cn, cc, row, vp, vn, vc2⟩) 47)).cell? ⟨bv, 0, none⟩ = some (.func (.func 50) #[] #[.pointer (some ⟨bt, 0, none⟩), .pointer (some ⟨bs, 0, none⟩)]) := (HE.out.v.grow HB.out.1).at 0 rfl
 have HZ := ξ z0
 clear z0
 go_enter Tryz.func48, Tryz.ntmps48
 go_wp2_with fail
 have HSZ := ξ (show bt < w.heap.size from HE.out.t.lt)
 generalize hbn : w.heap.size + 1 = bn at HB ⊢
 generalize hbp : w.heap.size = bp at HB HSZ ⊢
 generalize (w.alloc _).alloc _ = W at HB HZ ⊢
 have HNE := ξ (show bt < W.heap.size from by have := HSZ.out; have h1 := HB.out.2.1.lt; omega)
 clear hbn hbp
 refine (ξd7 W _ _ p n.cut (HP.out.grow HB.out.1) (HCU.out.grow HB.out.1) HFN.out.c HFN.out.cs HFN.out.v HPV.out.ok HPV.out.wh HPV.out.n (by have := HPV.out.m; omega) HPV.out.ok.tl).mono ?_
 rintro _ w2 ⟨r2, rfl, g2, h2⟩
 have G := ξ (HB.out.1.trans g2)
 have HL2 := ξ (show bt < w2.heap.size from by have := g2.size; have := HNE.out; omega)
 rcases h2 with ⟨rs, q, hd, rfl, hq⟩ | ⟨hno, e, he0, rfl⟩
 rotate_left
 ·have heb : (e == 0) = false := by simpa using he0
  have H := ξ (show ¬ ∃ S, ξa p (n :: N) S from fun ⟨S, h⟩ => by
   obtain ⟨r, k1, -⟩ := (HK.out S).1 h
   exact hno r k1)
  clear hno he0 g2
  go_wp2_with fail
  go_ret
  exact ⟨_, rfl, ξq bt (G.out.trans ((Gr.refl _).alloc _)), .inr ⟨H.out, rfl, _, HE.out.grow (G.out.trans ((Gr.refl _).alloc _))⟩⟩
 have HD := ξ hd
 have HQ := ξ hq
 obtain ⟨va3, vc3, vb3, vd3, T, rfl, -⟩ := hq
 unfold prgV at HQ ⊢
 have g4 : Gr w2 (w2.alloc (.cells #[.slice va3 (addRow p rs).vars.length vc3, .slice vb3 (addRow p rs).rows.length vd3] 25)) := (Gr.refl _).alloc _
 have z0 := (HE.out.v.grow (G.out.trans g4)).at 0 rfl
 have HG4 := ξ g4
 clear hd g2 g4
 unfold visitF at z0
 go_wp2_with fail
 generalize (w2.alloc _) = w4 at HG4 z0 ⊢
 clear z0
 refine (HIH.out w4 _ (addRow p rs) N pt ct nt (by omega) HNO.out.2 (HE.out.grow (G.out.trans HG4.out)) HNO.out.1 ((ξK.new HQ.out HNE.out).go (ξq bt HG4.out)) (HPV.out.add HD.out) HF.out).mono ?_
 rintro _ w5 ⟨r5, rfl, g5, hr5⟩
 have GG := ξ (ξf (ξq bt (G.out.trans HG4.out)) g5)
 have HRB := ξ (show (∃ t, r5 = .bool t) ∧ VisR p (n :: N) W0 w bt bv bs bm r5 w5 from by
  rcases hr5 with ⟨S', pt5, nt5, ct5, hp5, rfl, k1, k2, k3⟩ | ⟨hn5, rfl, tv5, k1⟩
  ·exact ⟨⟨_, rfl⟩, GG.out, .inl ⟨S', pt5, nt5, ct5, (HK.out S').2 ⟨rs, HD.out, hp5⟩, rfl, k1, k2, k3⟩⟩
  ·refine ⟨⟨_, rfl⟩, GG.out, .inr ⟨fun ⟨S', h⟩ => ?_, rfl, tv5, k1⟩⟩
   obtain ⟨r, q1, q2⟩ := (HK.out S').1 h
   rw [← ξ4j HD.out q1] at q2
   exact hn5 ⟨S', q2⟩)
 clear hr5 g5
 obtain ⟨t5, rfl⟩ := HRB.out.1
 go_wp2_with fail
 go_ret
 exact ⟨_, rfl, HRB.out.2⟩
end Prf
end Go.Proofs.YtcjgimlcefhhmaaGreatDoor

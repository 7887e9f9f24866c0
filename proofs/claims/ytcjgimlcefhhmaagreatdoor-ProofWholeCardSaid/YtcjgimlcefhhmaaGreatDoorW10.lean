/- Texts: IntG. -/
import Derived.Test.YtcjgimlcefhhmaaGreatDoorW9
set_option linter.unusedVariables false
set_option linter.unusedSimpArgs false
set_option maxRecDepth 100000
set_option maxHeartbeats 12800000
namespace Go.Proofs.YtcjgimlcefhhmaaGreatDoor
open Go.RowKit
def quoZ (fl : Bool) (a b : Int) : Int :=
 let q : Nat := a.natAbs / b.natAbs + (if fl && (decide (sgn a * sgn b < 0) && decide (0 < a.natAbs % b.natAbs)) then 1 else 0)
 if sgn a * sgn b < 0 then -(q : Int) else q
theorem ξ6b (a : Int) : -1 ≤ sgn a ∧ sgn a ≤ 1 := by unfold sgn; split <;> (try split) <;> omega
theorem ξ3F (a b : Int) : -1 ≤ sgn a * sgn b ∧ sgn a * sgn b ≤ 1 := by
 have h1 := ξ6b a
 have h2 := ξ6b b
 have ha : sgn a = -1 ∨ sgn a = 0 ∨ sgn a = 1 := by omega
 rcases ha with h | h | h <;> rw [h] <;> omega
theorem ξ11 (n : Bool) (l : List Nat) : (zval n l).natAbs = nval l := by unfold zval; rcases n with _ | _ <;> simp
theorem ξbP (w : World) (a b : Bool) : Calls Tryz.prog 248 #[.bool a, .bool b] w fun e w' => e = .returned (.bool (false && (a && b))) ∧ w = w' := by
 go_enter Tryz.func248, Tryz.ntmps248
 go_wp2_with fail
 go_ret
 exact ⟨rfl, rfl⟩
theorem ξ9q (w : World) (a b : Bool) : Calls Tryz.prog 293 #[.bool a, .bool b] w fun e w' => e = .returned (.bool (true && (a && b))) ∧ w = w' := by
 rcases a with _ | _
 ·go_enter Tryz.func293, Tryz.ntmps293
  go_wp2_with fail
  go_ret
  exact ⟨rfl, rfl⟩
 ·go_enter Tryz.func293, Tryz.ntmps293
  go_wp2_with fail
  go_ret
  exact ⟨rfl, rfl⟩
theorem boxed4 (w : World) (x y x' y' x'' y'' x3 y3 : Value) (t t' t'' t3 : TypeId) : Gr w ((((w.alloc (.cells #[x, y] t)).alloc (.cells #[x', y'] t')).alloc (.cells #[x'', y''] t'')).alloc (.cells #[x3, y3] t3)) ∧
  Two ((((w.alloc (.cells #[x, y] t)).alloc (.cells #[x', y'] t')).alloc (.cells #[x'', y''] t'')).alloc (.cells #[x3, y3] t3)) w.heap.size x y ∧
  Two ((((w.alloc (.cells #[x, y] t)).alloc (.cells #[x', y'] t')).alloc (.cells #[x'', y''] t'')).alloc (.cells #[x3, y3] t3)) (w.heap.size + 1) x' y' ∧
  Two ((((w.alloc (.cells #[x, y] t)).alloc (.cells #[x', y'] t')).alloc (.cells #[x'', y''] t'')).alloc (.cells #[x3, y3] t3)) (w.heap.size + 1 + 1) x'' y'' ∧
  Two ((((w.alloc (.cells #[x, y] t)).alloc (.cells #[x', y'] t')).alloc (.cells #[x'', y''] t'')).alloc (.cells #[x3, y3] t3)) (w.heap.size + 1 + 1 + 1) x3 y3 := by
 obtain ⟨g, h1, h2, h3⟩ := boxed3 w x y x' y' x'' y'' t t' t''
 obtain ⟨g', h4⟩ := boxed1 (((w.alloc (.cells #[x, y] t)).alloc (.cells #[x', y'] t')).alloc (.cells #[x'', y''] t'')) x3 y3 t3
 rw [World.size_alloc, World.size_alloc, World.size_alloc] at h4
 exact ⟨g.trans g', h1.grow g', h2.grow g', h3.grow g', h4⟩
theorem ξ22 {w : World} {B : Nat} {n n' s s' : Bool} {pa pb p p' : Option Addr} {ka ca kb cb k c k' c' : Nat}
  (ta : Two w B (.bool n) (.slice pa ka ca)) (tb : Two w (B + 1) (.bool n') (.slice pb kb cb)) :
  Two ((((w.setCell ⟨B, 0, none⟩ (.bool s)).setCell ⟨B, 1, none⟩ (.slice p k c)).setCell ⟨B + 1, 0, none⟩ (.bool s')).setCell ⟨B + 1, 1, none⟩ (.slice p' k' c')) B (.bool s) (.slice p k c) ∧
  Two ((((w.setCell ⟨B, 0, none⟩ (.bool s)).setCell ⟨B, 1, none⟩ (.slice p k c)).setCell ⟨B + 1, 0, none⟩ (.bool s')).setCell ⟨B + 1, 1, none⟩ (.slice p' k' c')) (B + 1) (.bool s') (.slice p' k' c') ∧
  (∀ v l, NatL w v l → NatL ((((w.setCell ⟨B, 0, none⟩ (.bool s)).setCell ⟨B, 1, none⟩ (.slice p k c)).setCell ⟨B + 1, 0, none⟩ (.bool s')).setCell ⟨B + 1, 1, none⟩ (.slice p' k' c')) v l) ∧
  Own B w ((((w.setCell ⟨B, 0, none⟩ (.bool s)).setCell ⟨B, 1, none⟩ (.slice p k c)).setCell ⟨B + 1, 0, none⟩ (.bool s')).setCell ⟨B + 1, 1, none⟩ (.slice p' k' c')) := by
 have ta1 := ta.set (.bool s) (.slice p k c)
 have tb1 := tb.other (b' := B) (by omega) (.bool s) (.slice p k c)
 exact ⟨ta1.other (by omega) _ _, tb1.set _ _, fun v l h => (h.keepBox ta _ _).keepBox tb1 _ _, (ξ1x B w (Nat.le_refl _) _ _).trans (ξ1x B _ (by omega) _ _)⟩
theorem ξ4N (w : World) (va vb : Value) (n n' : Bool) (la lb : List Nat) (fl : Bool) (fn : Nat) (hfn : (fl = false ∧ fn = 248) ∨ (fl = true ∧ fn = 293)) (x y : Int) (hx : zval n la = x) (hy : zval n' lb = y)
  (ha : IntL w va n la) (hb : IntL w vb n' lb) (hla : la.length ≤ 274877906944) (hlb : lb.length ≤ 274877906944) (h0 : y ≠ 0) :
  Calls Tryz.prog 247 #[va, vb, .func (.func fn) #[] #[]] w (Ret w fun r w' => ∃ q s, r = .tuple #[q, s, .int .i64 0] ∧ IntC w' q (quoZ fl x y) ∧ IntC w' s (x - quoZ fl x y * y)) := by
 have hlan : nval la = x.natAbs := by rw [← hx, ξ11]
 have hlbn : nval lb = y.natAbs := by rw [← hy, ξ11]
 have HA0 := ξ ha
 have HB0 := ξ hb
 have HN := ξ hlan
 have HM := ξ hlbn
 have Hx := ξ hx
 have Hy := ξ hy
 have H0 := ξ (show nval lb ≠ 0 by rw [hlbn]; omega)
 have hLQ : (digs (x.natAbs / y.natAbs)).length ≤ 274877906944 := by
  refine Nat.le_trans (ξl (Nat.div_le_self _ _)) ?_
  rw [← hlan]; exact Nat.le_trans (ξm ha.dig) hla
 have HLQ := ξ hLQ
 obtain ⟨ng, hng⟩ : ∃ ng, decide (sgn x * sgn y < 0) = ng := ⟨_, rfl⟩
 obtain ⟨r', hr'⟩ : ∃ r', x.natAbs % y.natAbs = r' := ⟨_, rfl⟩
 obtain ⟨q', hq'⟩ : ∃ q', x.natAbs / y.natAbs = q' := ⟨_, rfl⟩
 obtain ⟨Q, hQ⟩ : ∃ Q, quoZ fl x y = Q := ⟨_, rfl⟩
 have hQ2 : (if ng then -((q' + (if fl && (ng && decide (0 < r')) then 1 else 0) : Nat) : Int) else ((q' + (if fl && (ng && decide (0 < r')) then 1 else 0) : Nat) : Int)) = Q := by
  rw [← hQ]; unfold quoZ; rw [hng, hr', hq']
  rw [← hng]
  by_cases h : sgn x * sgn y < 0 <;> simp [h]
 rw [hQ]
 have HQ2 := ξ hQ2
 have HRr := ξ hr'
 have HQq := ξ hq'
 obtain ⟨sx, hsx⟩ : ∃ sx, sgn x = sx := ⟨_, rfl⟩
 obtain ⟨sy, hsy⟩ : ∃ sy, sgn y = sy := ⟨_, rfl⟩
 have hr1 := (ξ3F x y).1
 have hr2 := (ξ3F x y).2
 rw [hsx, hsy] at hr1 hr2 hng
 have Hsx := ξ (show sgn (zval n la) = sx by rw [hx]; exact hsx)
 have Hsy := ξ (show sgn (zval n' lb) = sy by rw [hy]; exact hsy)
 obtain ⟨pa, ka, ca, rfl, ha⟩ := ha
 obtain ⟨pb, kb, cb, rfl, hb⟩ := hb
 have HA := ξ ha
 have HB := ξ hb
 clear ha hb h0 hQ hQ2 hlan hlbn hx hy hLQ hr' hq' hsx hsy
 have B4 := boxed4 w (.bool n) (.slice pa ka ca) (.bool n') (.slice pb kb cb) (.bool false) (.slice none 0 0) (.bool false) (.slice none 0 0) 66 66 66 66
 go_enter Tryz.func247, Tryz.ntmps247
 go_wp2_with fail
 generalize (((w.alloc _).alloc _).alloc _).alloc _ = W at B4 ⊢
 obtain ⟨G0, ta, tb, tr, tq⟩ := B4
 have HW := ξ G0
 have HTA := ξ ta
 have HTB := ξ tb
 have HTR := ξ tr
 have HTQ := ξ tq
 clear G0 ta tb tr tq
 refine (ξ5a _ _ _ la lb (HA.out.grow HW.out) (HB.out.grow HW.out) (by omega) (by omega) H0.out).mono ?_
 rintro _ w1 ⟨_, rfl, g1, q1, r1, rfl, hq1, hr1'⟩
 rw [HN.out, HM.out, HQq.out] at hq1
 rw [HN.out, HM.out, HRr.out] at hr1'
 have G1 := ξ g1
 have Hq1 := ξ hq1
 have Hr1 := ξ hr1'
 obtain ⟨p1, c1, rfl, -⟩ := hr1'.parts
 have hrl : (0 : Int) < ((digs r').length : Int) ↔ 0 < r' := by
  rw [show (0 : Int) < ((digs r').length : Int) ↔ 0 < (digs r').length from by omega, List.length_pos_iff, ne_eq, ξs]; omega
 obtain ⟨lr, hlr⟩ : ∃ lr, (digs r').length = lr := ⟨_, rfl⟩
 rw [hlr] at Hr1 hrl ⊢
 have Hrl := ξ hrl
 have a0 := HTA.out.c0 
 have a1 := HTA.out.c1
 have b0 := HTB.out.c0
 have b1 := HTB.out.c1
 have gW1 : Gr W w1 := g1
 clear g1 hq1 hr1' hlr hrl
 go_wp2_with fail
 have hwr : IntKind.i64.wrap (sx * sy) = sx * sy := IntWalk.i64_in _ (by omega)
 have g0 : Gr W w1.drew := gW1.drew
 clear gW1
 refine ξL [(0, true), (2, true), (1, false), (3, false), (4, true), (5, true), (6, true)] (by kernel_rfl) (by kernel_rfl) rfl (by kernel_rfl) (fun _ _ d _ _ h => by cases d <;> exact h) ?_
 repeat (refine ξ2 (v := ?_) g0 rfl rfl (fun w' hg => ?_) (fun K hK => ?_); rotate_left; (go_simp; rfl); go_simp; refine hK _ _ ?_; clear hK K)
 refine ξi rfl rfl (fun K hK => ?_)
 go_simp
 refine (ξ2A _ _ n la sx Hsx.out (HA0.out.grow (HW.out.trans g0)) (by omega)).mono ?_
 rintro _ w2 ⟨_, rfl, g2, rfl⟩
 refine ⟨fun _ => g2, hK _ _ ?_⟩
 clear hK K
 have g3 : Gr W w2 := g0.trans g2
 have G2 := ξ g2
 clear g2 g0
 refine ξi rfl rfl (fun K hK => ?_)
 go_simp
 refine (ξ2A _ _ n' lb sy Hsy.out (HB0.out.grow (HW.out.trans g3)) (by omega)).mono ?_
 rintro _ w3 ⟨_, rfl, g4, rfl⟩
 refine ⟨fun _ => g4, hK _ _ ?_⟩
 clear hK K
 have g5 : Gr W w3 := g3.trans g4
 have Hq3 := ξ (Hq1.out.grow (show Gr w1 w3 from Gr.trans ((Gr.refl w1).drew) (Gr.trans G2.out g4)))
 have Hr3 := ξ (Hr1.out.grow (show Gr w1 w3 from Gr.trans ((Gr.refl w1).drew) (Gr.trans G2.out g4)))
 clear g4 g3
 repeat (refine ξ2 (v := ?_) g5 rfl rfl (fun w' hg => ?_) (fun K hK => ?_); rotate_left; (go_simp; rfl); go_simp; refine hK _ _ ?_; clear hK K)
 refine ξ9 ?_
 have HG5 := ξ g5
 obtain ⟨inx, hinx⟩ : ∃ inx, decide (0 < lr) = inx := ⟨_, rfl⟩
 have Hinx := ξ (show decide (0 < r') = inx by
  rw [← hinx]; have := Hrl.out; exact decide_eq_decide.2 (by omega))
 have hrng : sx * sy < 0 ↔ ng = true := by rw [← hng]; simp
 clear a0 a1 b0 b1 g5 hr1 hr2
 obtain ⟨aw, haw⟩ : ∃ aw, (fl && (ng && inx)) = aw := ⟨_, rfl⟩
 have Haw := ξ haw
 have hcl : ∀ (w : World), Calls Tryz.prog fn #[.bool ng, .bool inx] w fun e w' => e = .returned (.bool aw) ∧ w = w' := by
  intro w
  rw [← haw]
  rcases hfn with ⟨rfl, rfl⟩ | ⟨rfl, rfl⟩
  ·exact ξbP w ng inx
  ·exact ξ9q w ng inx
 have Hcl := ξ hcl
 have hfn' : fn = 248 ∨ fn = 293 := by rcases hfn with ⟨_, h⟩ | ⟨_, h⟩; exact .inl h; exact .inr h
 clear hfn haw hcl hrng
 have HLQ' := ξ (show (digs q').length ≤ 274877906944 by rw [← HQq.out]; exact HLQ.out)
 have HLQ1 := ξ (show (digs (q' + 1)).length ≤ 274877906945 from ξ0A HLQ'.out (Nat.le_trans (ξ12 (by omega)) (by omega)))
 have HQabs : Q.natAbs ≤ q' + 1 := by
  rw [← HQ2.out]
  rcases ng with _ | _ <;> simp <;> split <;> omega
 have HLq := ξ (Nat.le_trans (ξl HQabs) HLQ1.out)
 have HLp := ξ (show (digs (Q * y).natAbs).length ≤ 549755813889 by
  rw [Int.natAbs_mul]
  exact Nat.le_trans (ξ1L HLq.out (k := 274877906945) (m := 274877906944) (by rw [← HM.out]; exact Nat.le_trans (ξm HB.out.dig) hlb)) (by omega))
 clear HQabs
 rcases hfn' with rfl | rfl
 all_goals
  go_wp2_with fail
  refine (Hcl.out _).mono ?_
  rintro _ _ ⟨rfl, rfl⟩
  rcases aw with _ | _
  ·go_wp2_with fail
   refine (ξ04 _ ng q1 _ Q Hq3.out (Nat.le_trans HLQ'.out (by omega)) (by rw [← HQ2.out, Hinx.out, Haw.out]; rfl)).mono ?_
   rintro _ w6 ⟨r6, rfl, g6, hr6⟩
   have Hr6 := ξ hr6
   obtain ⟨p6, k6, c6, rfl, hr6⟩ := hr6
   have G6 := ξ (Gr.trans HG5.out g6)
   obtain ⟨sg, hsg⟩ : ∃ sg, decide (Q < 0) = sg := ⟨_, rfl⟩
   rw [hsg] at Hr6 ⊢
   have Hsg := ξ hsg
   obtain ⟨G7, t7⟩ := boxed1 w6 (.bool sg) (.slice p6 k6 c6) 66
   clear g6 hr6 hsg
   go_wp2_with fail
   generalize w6.alloc _ = W7 at G7 t7 ⊢
   have HG7 := ξ (G6.out.trans G7)
   have Hr7 := ξ (Hr6.out.grow G7)
   have a0 := (HTA.out.grow HG7.out).c0
   have a1 := (HTA.out.grow HG7.out).c1
   have b0 := (HTB.out.grow HG7.out).c0
   have b1 := (HTB.out.grow HG7.out).c1
   have q0 := t7.c0
   have q1' := t7.c1
   have g7 : Gr W7 W7.drew := (Gr.refl W7).drew
   clear G7 t7
   refine ξL [(0, true), (1, true), (2, true), (3, true), (4, false), (5, false), (6, false), (7, false), (8, true)] (by kernel_rfl) (by kernel_rfl) rfl (by kernel_rfl) (fun _ _ d _ _ h => by cases d <;> exact h) ?_
   repeat (refine ξ2 (v := ?_) g7 rfl rfl (fun w' hg => ?_) (fun K hK => ?_); rotate_left; (go_simp; rfl); go_simp; refine hK _ _ ?_; clear hK K)
   refine ξi rfl rfl (fun K hK => ?_)
   go_simp
   refine (ξ5A _ _ _ _ n' _ lb (Q * y) (by rw [ξ16, Hy.out]) (Hr7.out.grow g7) (HB0.out.grow ((HW.out.trans HG7.out).trans g7)) (Nat.le_trans HLq.out (by omega)) (by omega)).mono ?_
   rintro _ w8 ⟨r8, rfl, g8, hr8⟩
   refine ⟨fun _ => g8, hK _ _ ?_⟩
   clear hK K
   have G8 := ξ (g7.trans g8)
   have Hr8 := ξ hr8
   clear g8 hr8
   refine ξi rfl rfl (fun K hK => ?_)
   go_simp
   refine (ξ5n _ _ _ n _ la _ (x - Q * y) (by rw [ξ16, Hx.out]) (HA0.out.grow ((HW.out.trans HG7.out).trans G8.out)) Hr8.out (by omega) (Nat.le_trans HLp.out (by omega))).mono ?_
   rintro _ w9 ⟨r9, rfl, g9, hr9⟩
   refine ⟨fun _ => g9, hK _ _ ?_⟩
   clear hK K
   obtain ⟨p9, k9, c9, rfl, hr9⟩ := hr9
   have G9 := ξ (G8.out.trans g9)
   have Hr9 := ξ hr9
   have Hq9 := ξ (Hr7.out.grow G9.out)
   obtain ⟨s9, hs9⟩ : ∃ s9, decide (x - Q * y < 0) = s9 := ⟨_, rfl⟩
   rw [hs9]
   have Hs9 := ξ hs9
   have tr := HTR.out.grow (HG7.out.trans G9.out)
   have tq := HTQ.out.grow (HG7.out.trans G9.out)
   have TW := ξ22 (s := sg) (s' := s9) (p := p6) (k := k6) (c := c6) (p' := p9) (k' := k9) (c' := c9) tr tq
   have f0 := tr.f0 0
   have f1 := tr.f0 1
   have f2 := tq.f0 0
   have f3 := tq.f0 1
   have r0 := tr.load.1
   have r1 := tr.load.2
   have u0 := tq.load.1
   have u1 := tq.load.2
   have gend : Gr W7 w9 := G9.out
   clear g9 hr9 a0 a1 b0 b1 q0 q1' g7 hs9 tr tq
   refine ξi rfl rfl (fun K hK => ?_)
   go_simp
   refine ⟨fun h => Bool.noConfusion h, hK _ _ ?_⟩
   clear hK K
   refine ξi rfl rfl (fun K hK => ?_)
   go_simp
   refine ⟨fun h => Bool.noConfusion h, hK _ _ ?_⟩
   clear hK K
   generalize (((w9.setCell _ _).setCell _ _).setCell _ _).setCell _ _ = W10 at TW ⊢
   obtain ⟨t1, t2, hkeep, hown⟩ := TW
   have x0 := t1.load.1
   have x1 := t1.load.2
   have y0 := t2.load.1
   have y1 := t2.load.2
   have gx : Gr W10 W10 := Gr.refl W10
   clear f0 f1 f2 f3 r0 r1 u0 u1 t1 t2
   repeat (refine ξ2 (v := ?_) gx rfl rfl (fun w' hg => ?_) (fun K hK => ?_); rotate_left; (go_simp; rfl); go_simp; refine hK _ _ ?_; clear hK K)
   refine ξ9 ?_
   go_wp2_with fail
   refine bodyPost_ret (v := .tuple #[.agg #[.bool sg, .slice p6 k6 c6], .agg #[.bool s9, .slice p9 k9 c9], .int .i64 0]) (by simp [results, Tryz.results247, go_sem, x0, x1, y0, y1]) rfl ?_
   refine ⟨_, rfl, Below.trans (HW.out.trans (HG7.out.trans G9.out)) (Below.mono hown (by omega)), _, _, rfl, ?_, ?_⟩
   ·obtain ⟨pp, kk, cc, he, hn⟩ := Hq9.out
    cases he
    rw [IntC, Hsg.out]
    exact ⟨_, _, _, rfl, hkeep _ _ hn⟩
   ·rw [IntC, Hs9.out]
    exact ⟨_, _, _, rfl, hkeep _ _ Hr9.out⟩
  ·go_wp2_with fail
   refine (ξ0q _ 1 (by omega)).mono ?_
   rintro _ w4 ⟨v4, rfl, g4, hv4⟩
   have Hv4 := ξ hv4
   have Hq4 := ξ (Hq3.out.grow g4)
   have G4 := ξ (HG5.out.trans g4)
   clear g4 hv4
   go_wp2_with fail
   refine (ξ3n _ _ _ _ _ Hq4.out Hv4.out (Nat.le_trans HLQ'.out (by omega)) (Nat.le_trans (ξ12 (by omega)) (by omega))).mono ?_
   rintro _ w5 ⟨v5, rfl, g5, hv5⟩
   rw [ξ4, ξ4] at hv5
   have Hv5 := ξ hv5
   have G5 := ξ (G4.out.trans g5)
   clear g5 hv5
   go_wp2_with fail
   refine (ξ04 _ ng v5 _ Q Hv5.out (Nat.le_trans HLQ1.out (by omega)) (by rw [← HQ2.out, Hinx.out, Haw.out]; rfl)).mono ?_
   rintro _ w6 ⟨r6, rfl, g6, hr6⟩
   have Hr6 := ξ hr6
   obtain ⟨p6, k6, c6, rfl, hr6⟩ := hr6
   have G6 := ξ (Gr.trans G5.out g6)
   obtain ⟨sg, hsg⟩ : ∃ sg, decide (Q < 0) = sg := ⟨_, rfl⟩
   rw [hsg] at Hr6 ⊢
   have Hsg := ξ hsg
   obtain ⟨G7, t7⟩ := boxed1 w6 (.bool sg) (.slice p6 k6 c6) 66
   clear g6 hr6 hsg
   go_wp2_with fail
   generalize w6.alloc _ = W7 at G7 t7 ⊢
   have HG7 := ξ (G6.out.trans G7)
   have Hr7 := ξ (Hr6.out.grow G7)
   have a0 := (HTA.out.grow HG7.out).c0
   have a1 := (HTA.out.grow HG7.out).c1
   have b0 := (HTB.out.grow HG7.out).c0
   have b1 := (HTB.out.grow HG7.out).c1
   have q0 := t7.c0
   have q1' := t7.c1
   have g7 : Gr W7 W7.drew := (Gr.refl W7).drew
   clear G7 t7
   refine ξL [(0, true), (1, true), (2, true), (3, true), (4, false), (5, false), (6, false), (7, false), (8, true)] (by kernel_rfl) (by kernel_rfl) rfl (by kernel_rfl) (fun _ _ d _ _ h => by cases d <;> exact h) ?_
   repeat (refine ξ2 (v := ?_) g7 rfl rfl (fun w' hg => ?_) (fun K hK => ?_); rotate_left; (go_simp; rfl); go_simp; refine hK _ _ ?_; clear hK K)
   refine ξi rfl rfl (fun K hK => ?_)
   go_simp
   refine (ξ5A _ _ _ _ n' _ lb (Q * y) (by rw [ξ16, Hy.out]) (Hr7.out.grow g7) (HB0.out.grow ((HW.out.trans HG7.out).trans g7)) (Nat.le_trans HLq.out (by omega)) (by omega)).mono ?_
   rintro _ w8 ⟨r8, rfl, g8, hr8⟩
   refine ⟨fun _ => g8, hK _ _ ?_⟩
   clear hK K
   have G8 := ξ (g7.trans g8)
   have Hr8 := ξ hr8
   clear g8 hr8
   refine ξi rfl rfl (fun K hK => ?_)
   go_simp
   refine (ξ5n _ _ _ n _ la _ (x - Q * y) (by rw [ξ16, Hx.out]) (HA0.out.grow ((HW.out.trans HG7.out).trans G8.out)) Hr8.out (by omega) (Nat.le_trans HLp.out (by omega))).mono ?_
   rintro _ w9 ⟨r9, rfl, g9, hr9⟩
   refine ⟨fun _ => g9, hK _ _ ?_⟩
   clear hK K
   obtain ⟨p9, k9, c9, rfl, hr9⟩ := hr9
   have G9 := ξ (G8.out.trans g9)
   have Hr9 := ξ hr9
   have Hq9 := ξ (Hr7.out.grow G9.out)
   obtain ⟨s9, hs9⟩ : ∃ s9, decide (x - Q * y < 0) = s9 := ⟨_, rfl⟩
   rw [hs9]
   have Hs9 := ξ hs9
   have tr := HTR.out.grow (HG7.out.trans G9.out)
   have tq := HTQ.out.grow (HG7.out.trans G9.out)
   have TW := ξ22 (s := sg) (s' := s9) (p := p6) (k := k6) (c := c6) (p' := p9) (k' := k9) (c' := c9) tr tq
   have f0 := tr.f0 0
   have f1 := tr.f0 1
   have f2 := tq.f0 0
   have f3 := tq.f0 1
   have r0 := tr.load.1
   have r1 := tr.load.2
   have u0 := tq.load.1
   have u1 := tq.load.2
   have gend : Gr W7 w9 := G9.out
   clear g9 hr9 a0 a1 b0 b1 q0 q1' g7 hs9 tr tq
   refine ξi rfl rfl (fun K hK => ?_)
   go_simp
   refine ⟨fun h => Bool.noConfusion h, hK _ _ ?_⟩
   clear hK K
   refine ξi rfl rfl (fun K hK => ?_)
   go_simp
   refine ⟨fun h => Bool.noConfusion h, hK _ _ ?_⟩
   clear hK K
   generalize (((w9.setCell _ _).setCell _ _).setCell _ _).setCell _ _ = W10 at TW ⊢
   obtain ⟨t1, t2, hkeep, hown⟩ := TW
   have x0 := t1.load.1
   have x1 := t1.load.2
   have y0 := t2.load.1
   have y1 := t2.load.2
   have gx : Gr W10 W10 := Gr.refl W10
   clear f0 f1 f2 f3 r0 r1 u0 u1 t1 t2
   repeat (refine ξ2 (v := ?_) gx rfl rfl (fun w' hg => ?_) (fun K hK => ?_); rotate_left; (go_simp; rfl); go_simp; refine hK _ _ ?_; clear hK K)
   refine ξ9 ?_
   go_wp2_with fail
   refine bodyPost_ret (v := .tuple #[.agg #[.bool sg, .slice p6 k6 c6], .agg #[.bool s9, .slice p9 k9 c9], .int .i64 0]) (by simp [results, Tryz.results247, go_sem, x0, x1, y0, y1]) rfl ?_
   refine ⟨_, rfl, Below.trans (HW.out.trans (HG7.out.trans G9.out)) (Below.mono hown (by omega)), _, _, rfl, ?_, ?_⟩
   ·obtain ⟨pp, kk, cc, he, hn⟩ := Hq9.out
    cases he
    rw [IntC, Hsg.out]
    exact ⟨_, _, _, rfl, hkeep _ _ hn⟩
   ·rw [IntC, Hs9.out]
    exact ⟨_, _, _, rfl, hkeep _ _ Hr9.out⟩
end Go.Proofs.YtcjgimlcefhhmaaGreatDoor

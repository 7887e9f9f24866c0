/- Texts: IntD IntE IntF IntG. -/
import Derived.Test.YtcjgimlcefhhmaaGreatDoorU7
set_option linter.unusedVariables false
set_option linter.unusedSimpArgs false
set_option maxRecDepth 100000
set_option maxHeartbeats 12800000
namespace Go.Proofs.YtcjgimlcefhhmaaGreatDoor
open Go.RowKit
theorem IntC.len {w:World}{v:Value}{z:Int}(h:IntC w v z):Dig (digs z.natAbs):=Dig.digs _
theorem Ou (w:World)(va:Value)(n:Bool)(la:List Nat)(z:Int)(hz:zval n la=z)(ha:IntL w va n la)(hla:la.length≤1099511627776):
  Calls Tryz.prog 165 #[va] w (Ret w fun r w'=>IntC w' r z):=by
 have Hz:=ξ hz
 clear hz
 obtain⟨pa,ka,ca,rfl,ha⟩:=ha
 have HA:=ξ ha
 clear ha
 obtain⟨G0,ta,tr⟩:=boxed2 w (.bool n) (.slice pa ka ca) (.bool false) (.slice none 0 0) 66 66
 have HW:=ξ G0
 have HR:=ξ tr
 clear G0 ta tr
 go_enter Tryz.func165,Tryz.ntmps165
 go_wp2_with fail
 refine(No _ n _ la z Hz.out (HA.out.grow HW.out) (by omega)).mono ?_
 rintro _ w3 ⟨r3,rfl,g3,hr3⟩
 obtain⟨p3,k3,c3,rfl,hr3⟩:=hr3
 obtain⟨sg,hsg⟩:∃ sg,sg=decide (z < 0):=⟨_,rfl⟩
 rw[← hsg]
 have Hsg:=ξ hsg
 have G3:=ξ g3
 have Hr3:=ξ hr3
 have HR3:=ξ (HR.out.grow G3.out)
 have r0:=HR3.out.load.1
 have r1:=HR3.out.load.2
 have f0:=HR3.out.f0 0
 have f1:=HR3.out.f0 1
 clear g3 hr3 hsg
 go_wp2_with fail
 refine bodyPost_ret (v:=.agg #[.bool sg,.slice p3 k3 c3]) (by simp[results,Tryz.results165,go_sem,r0,r1]) rfl ?_
 exact Kp (by omega) (HW.out.trans G3.out) HR3.out Hr3.out Hsg.out
theorem J5v (w:World)(va:Value)(n:Bool)(la:List Nat)(z:Int)(hz : - zval n la=z)(ha:IntL w va n la)(hla:la.length≤1099511627776):
  Calls Tryz.prog 166 #[va] w (Ret w fun r w'=>IntC w' r z):=by
 have Hz:=ξ (show zval (!n) la=z by rw[← hz];unfold zval;rcases n with _|_<;>simp)
 clear hz
 obtain⟨pa,ka,ca,rfl,ha⟩:=ha
 have HA:=ξ ha
 clear ha
 obtain⟨G0,ta,tr⟩:=boxed2 w (.bool n) (.slice pa ka ca) (.bool false) (.slice none 0 0) 66 66
 have HW:=ξ G0
 have HR:=ξ tr
 clear G0 ta tr
 go_enter Tryz.func166,Tryz.ntmps166
 go_wp2_with fail
 refine(No _ (!n) _ la z Hz.out (HA.out.grow HW.out) (by omega)).mono ?_
 rintro _ w3 ⟨r3,rfl,g3,hr3⟩
 obtain⟨p3,k3,c3,rfl,hr3⟩:=hr3
 obtain⟨sg,hsg⟩:∃ sg,sg=decide (z < 0):=⟨_,rfl⟩
 rw[← hsg]
 have Hsg:=ξ hsg
 have G3:=ξ g3
 have Hr3:=ξ hr3
 have HR3:=ξ (HR.out.grow G3.out)
 have r0:=HR3.out.load.1
 have r1:=HR3.out.load.2
 have f0:=HR3.out.f0 0
 have f1:=HR3.out.f0 1
 clear g3 hr3 hsg
 go_wp2_with fail
 refine bodyPost_ret (v:=.agg #[.bool sg,.slice p3 k3 c3]) (by simp[results,Tryz.results166,go_sem,r0,r1]) rfl ?_
 exact Kp (by omega) (HW.out.trans G3.out) HR3.out Hr3.out Hsg.out
theorem twice {w:World}{B:Nat}{n n' sr s s':Bool}{pa pb pr p p':Option Addr}{ka ca kb cb kr cr k c k' c':Nat}
  (ta:Two w B (.bool n) (.slice pa ka ca)) (tb:Two w (B+1) (.bool n') (.slice pb kb cb)) (tr:Two w (B+1+1) (.bool sr) (.slice pr kr cr)):
  Two ((((w.setCell ⟨B,0,none⟩ (.bool s)).setCell ⟨B,1,none⟩ (.slice p k c)).setCell ⟨B+1,0,none⟩ (.bool s')).setCell ⟨B+1,1,none⟩ (.slice p' k' c')) B (.bool s) (.slice p k c)∧
  Two ((((w.setCell ⟨B,0,none⟩ (.bool s)).setCell ⟨B,1,none⟩ (.slice p k c)).setCell ⟨B+1,0,none⟩ (.bool s')).setCell ⟨B+1,1,none⟩ (.slice p' k' c')) (B+1) (.bool s') (.slice p' k' c')∧
  Two ((((w.setCell ⟨B,0,none⟩ (.bool s)).setCell ⟨B,1,none⟩ (.slice p k c)).setCell ⟨B+1,0,none⟩ (.bool s')).setCell ⟨B+1,1,none⟩ (.slice p' k' c')) (B+1+1) (.bool sr) (.slice pr kr cr)∧
  (∀ v l,NatL w v l→NatL ((((w.setCell ⟨B,0,none⟩ (.bool s)).setCell ⟨B,1,none⟩ (.slice p k c)).setCell ⟨B+1,0,none⟩ (.bool s')).setCell ⟨B+1,1,none⟩ (.slice p' k' c')) v l)∧
  Own B w ((((w.setCell ⟨B,0,none⟩ (.bool s)).setCell ⟨B,1,none⟩ (.slice p k c)).setCell ⟨B+1,0,none⟩ (.bool s')).setCell ⟨B+1,1,none⟩ (.slice p' k' c')):=by
 have ta1:=ta.set (.bool s) (.slice p k c)
 have tb1:=tb.other (b':=B) (by omega) (.bool s) (.slice p k c)
 have tr1:=tr.other (b':=B) (by omega) (.bool s) (.slice p k c)
 refine⟨ta1.other (by omega) _ _,tb1.set _ _,tr1.other (by omega) _ _,fun v l h=>(h.keepBox ta _ _).keepBox tb1 _ _,(Np B w (Nat.le_refl _) _ _).trans (Np B _ (by omega) _ _)⟩
theorem J5w (w:World)(va:Value)(n:Bool)(la:List Nat)(z:Int)(hz:sgn (zval n la)=z)(ha:IntL w va n la)(hla:la.length≤1099511627776):
  Calls Tryz.prog 109 #[va] w (Ret w fun r w'=>r = .int .i64 z):=by
 have HA0:=ξ ha
 obtain⟨pa,ka,ca,rfl,ha⟩:=ha
 clear ha
 obtain⟨G0,ta⟩:=boxed1 w (.bool n) (.slice pa ka ca) 66
 have HG:=ξ G0
 have HT:=ξ ta
 have Hz:=ξ hz
 clear G0 hz ta
 go_enter Tryz.func109,Tryz.ntmps109
 go_wp2_with fail
 refine(Ou _ _ n la _ rfl (HA0.out.grow HG.out) hla).mono ?_
 rintro _ w3 ⟨r3,rfl,g3,hr3⟩
 obtain⟨p3,k3,c3,rfl,hr3⟩:=hr3
 have G3:=ξ g3
 have hk:=hr3.len
 have HR3:=ξ (HT.out.grow G3.out)
 have r0:=HR3.out.load.1
 have r1:=HR3.out.load.2
 have f0:=HR3.out.f0 0
 have f1:=HR3.out.f0 1
 obtain⟨y,hy⟩:∃ y,zval n la=y:=⟨_,rfl⟩
 rw[hy] at hk ⊢
 have Hy:=ξ (show sgn y=z by rw[← hy];exact Hz.out)
 have ho:=ξ (Np w.heap.size w3 (Nat.le_refl w.heap.size) (.bool (decide (y < 0))) (.slice p3 k3 c3))
 clear g3 hr3 hy
 rcases Int.lt_trichotomy y 0 with h|h|h
 ·have hk0:k3≠0:=by
   rw[← hk];intro e
   have:=J7.1 (List.eq_nil_of_length_eq_zero e);omega
  have t1:((k3:Int) == 0)=false:=by simpa using hk0
  have hs:decide (y < 0)=true:=by simpa using h
  rw[hs] at ho ⊢
  have hz1:=ξ (show z = -1 by rw[← Hy.out];unfold sgn;rw[if_pos h])
  clear hk hs h hk0
  go_wp2_with fail
  go_ret
  exact⟨_,rfl,Below.trans (HG.out.trans G3.out) ho.out,by rw[hz1.out];rfl⟩
 ·have hk0:k3=0:=by rw[← hk,h];simp[Kk]
  have hs:decide (y < 0)=false:=by simp;omega
  rw[hs] at ho ⊢
  have hz1:=ξ (show z=0 by rw[← Hy.out];unfold sgn;rw[if_neg (by omega),if_pos h])
  subst hk0
  clear hk hs h
  go_wp2_with fail
  go_ret
  exact⟨_,rfl,Below.trans (HG.out.trans G3.out) ho.out,by rw[hz1.out];rfl⟩
 ·have hk0:k3≠0:=by
   rw[← hk];intro e
   have:=J7.1 (List.eq_nil_of_length_eq_zero e);omega
  have t1:((k3:Int) == 0)=false:=by simpa using hk0
  have hs:decide (y < 0)=false:=by simp;omega
  rw[hs] at ho ⊢
  have hz1:=ξ (show z=1 by rw[← Hy.out];unfold sgn;rw[if_neg (by omega),if_neg (by omega)])
  clear hk hs h hk0
  go_wp2_with fail
  go_ret
  exact⟨_,rfl,Below.trans (HG.out.trans G3.out) ho.out,by rw[hz1.out];rfl⟩
theorem absmul (a b:Int):(if ((decide (a < 0)) != (decide (b < 0))) then -((a.natAbs * b.natAbs:Nat):Int) else ((a.natAbs * b.natAbs:Nat):Int))=a * b:=by
 have:=J1e (decide (a < 0)) (decide (b < 0)) (digs a.natAbs) (digs b.natAbs)
 rw[M5,M5,Je,Je] at this
 exact this
theorem J5u (w:World)(va vb:Value)(n n':Bool)(la lb:List Nat)(z:Int)(hz:zval n la * zval n' lb=z)(ha:IntL w va n la)(hb:IntL w vb n' lb)(hla:la.length≤1099511627776)(hlb:lb.length≤1099511627776):
  Calls Tryz.prog 159 #[va,vb] w (Ret w fun r w'=>IntC w' r z):=by
 have HA0:=ξ ha
 have HB0:=ξ hb
 obtain⟨x,hx⟩:∃ x,zval n la=x:=⟨_,rfl⟩
 obtain⟨y,hy⟩:∃ y,zval n' lb=y:=⟨_,rfl⟩
 have hxa:(digs x.natAbs).length≤1099511627776:=by
  have e:x.natAbs=nval la:=by rw[← hx];unfold zval;rcases n with _|_<;>simp
  rw[e];exact Nat.le_trans (Kg ha.dig) hla
 have hya:(digs y.natAbs).length≤1099511627776:=by
  have e:y.natAbs=nval lb:=by rw[← hy];unfold zval;rcases n' with _|_<;>simp
  rw[e];exact Nat.le_trans (Kg hb.dig) hlb
 have Hx:=ξ hx
 have Hy:=ξ hy
 have Hxa:=ξ hxa
 have Hya:=ξ hya
 have HL:=ξ (N2 hxa hya)
 have Hz:=ξ (show zval ((decide (x < 0)) != (decide (y < 0))) (digs (x.natAbs * y.natAbs))=z by
  rw[← hz,hx,hy];unfold zval;rw[Je];exact absmul x y)
 obtain⟨pa,ka,ca,rfl,ha⟩:=ha
 obtain⟨pb,kb,cb,rfl,hb⟩:=hb
 clear ha hb hz hx hy hxa hya
 have B3:=boxed3 w (.bool n) (.slice pa ka ca) (.bool n') (.slice pb kb cb) (.bool false) (.slice none 0 0) 66 66 66
 go_enter Tryz.func159,Tryz.ntmps159
 go_wp2_with fail
 generalize ((w.alloc _).alloc _).alloc _=W at B3 ⊢
 obtain⟨G0,ta,tb,tr⟩:=B3
 have HW:=ξ G0
 have HTA:=ξ ta
 have HTB:=ξ tb
 have HTR:=ξ tr
 have a0:=ta.c0
 have a1:=ta.c1
 have b0:=tb.c0
 have b1:=tb.c1
 have hsz:=tr.lt
 clear G0 ta tb tr
 have g0:Gr W W.drew:=(Gr.refl W).drew
 refine Ll [(0,true),(2,true),(1,false),(3,false),(4,false),(5,false)] (by kernel_rfl) (by kernel_rfl) rfl (by kernel_rfl) (fun _ _ d _ _ h=>by cases d<;>exact h) ?_
 repeat(refine Jf (v:=?_) g0 rfl rfl (fun w' hg=>?_) (fun K hK=>?_);rotate_left;(go_simp;rfl);go_simp;refine hK _ _ ?_;clear hK K)
 refine Jj rfl rfl (fun K hK=>?_)
 go_simp
 refine(Ou _ _ n la x Hx.out (HA0.out.grow (HW.out.trans g0)) hla).mono ?_
 rintro _ w2 ⟨r2,rfl,g2,hr2⟩
 refine⟨fun _=>g2,hK _ _ ?_⟩
 clear hK K
 obtain⟨p2,k2,c2,rfl,hr2⟩:=hr2
 have G2:=ξ (g0.trans g2)
 have Hr2:=ξ hr2
 clear g2 hr2
 refine Jj rfl rfl (fun K hK=>?_)
 go_simp
 refine(Ou _ _ n' lb y Hy.out (HB0.out.grow (HW.out.trans G2.out)) hlb).mono ?_
 rintro _ w3 ⟨r3,rfl,g3,hr3⟩
 refine⟨fun _=>g3,hK _ _ ?_⟩
 clear hK K
 obtain⟨p3,k3,c3,rfl,hr3⟩:=hr3
 have G3:=ξ (G2.out.trans g3)
 have Hr2':=ξ (Hr2.out.grow g3)
 have Hr3:=ξ hr3
 obtain⟨s,hs⟩:∃ s,decide (x < 0)=s:=⟨_,rfl⟩
 obtain⟨s',hs'⟩:∃ s',decide (y < 0)=s':=⟨_,rfl⟩
 rw[hs] at Hz ⊢
 rw[hs'] at Hz ⊢
 have ta:=HTA.out.grow G3.out
 have tb:=HTB.out.grow G3.out
 have tr:=HTR.out.grow G3.out
 have TW:=twice (s:=s) (s':=s') (p:=p2) (k:=k2) (c:=c2) (p':=p3) (k':=k3) (c':=c3) ta tb tr
 clear a0 a1 b0 b1
 have a0:=ta.load.1
 have a1:=ta.load.2
 have b0:=tb.load.1
 have b1:=tb.load.2
 have f1:=ta.f0 0
 have f2:=ta.f0 1
 have f3:=tb.f0 0
 have f4:=tb.f0 1
 clear g3 hr3 ta tb tr hs hs' g0
 refine Jj rfl rfl (fun K hK=>?_)
 go_simp
 refine⟨fun h=>Bool.noConfusion h,hK _ _ ?_⟩
 clear hK K
 refine Jj rfl rfl (fun K hK=>?_)
 go_simp
 refine⟨fun h=>Bool.noConfusion h,hK _ _ ?_⟩
 clear hK K
 refine Ji ?_
 generalize (((w3.setCell _ _).setCell _ _).setCell _ _).setCell _ _=W4 at TW ⊢
 obtain⟨ta,tb,tr,hkeep,hown⟩:=TW
 have HK2:=ξ (hkeep _ _ Hr2'.out)
 have HK3:=ξ (hkeep _ _ Hr3.out)
 have HO:=ξ (Below.trans (HW.out.trans G3.out) hown)
 have HR:=ξ tr
 have hsz4:=tr.lt
 clear a0 a1 b0 b1 f1 f2 f3 f4 hkeep hown hsz HTA HTB HTR
 have a0:=ta.c0
 have a1:=ta.c1
 have b0:=tb.c0
 have b1:=tb.c1
 clear ta tb tr
 go_wp2_with fail
 have g4:Gr W4 W4.drew:=(Gr.refl W4).drew
 refine Ll [(0,true),(1,true),(2,true),(3,true),(4,true),(5,true),(6,true),(7,true),(8,true),(9,false),(10,false),(11,false)] (by kernel_rfl) (by kernel_rfl) rfl (by kernel_rfl) (fun _ _ d _ _ h=>by cases d<;>exact h) ?_
 repeat(refine Jf (v:=?_) g4 rfl rfl (fun w' hg=>?_) (fun K hK=>?_);rotate_left;(go_simp;rfl);go_simp;refine hK _ _ ?_;clear hK K)
 refine Jj rfl rfl (fun K hK=>?_)
 go_simp
 refine(J0i _ _ _ _ _ (HK2.out.grow g4) (HK3.out.grow g4) (Nat.le_trans Hxa.out (by omega)) (Nat.le_trans Hya.out (by omega))).mono ?_
 rintro _ w5 ⟨r5,rfl,g5,hr5⟩
 refine⟨fun _=>g5,hK _ _ ?_⟩
 clear hK K
 rw[Je,Je] at hr5
 have G5:=ξ (g4.trans g5)
 have Hr5:=ξ hr5
 clear g5 hr5
 refine Jj rfl rfl (fun K hK=>?_)
 go_simp
 refine(No _ (s != s') r5 _ z Hz.out Hr5.out (Nat.le_trans HL.out (by omega))).mono ?_
 rintro _ w6 ⟨r6,rfl,g6,hr6⟩
 refine⟨fun _=>g6,hK _ _ ?_⟩
 clear hK K
 obtain⟨p6,k6,c6,rfl,hr6⟩:=hr6
 obtain⟨sg,hsg⟩:∃ sg,sg=decide (z < 0):=⟨_,rfl⟩
 rw[← hsg]
 have Hsg:=ξ hsg
 have G6:=ξ (G5.out.trans g6)
 have Hr6:=ξ hr6
 have HR6:=ξ (HR.out.grow G6.out)
 have r0:=HR6.out.load.1
 have r1:=HR6.out.load.2
 have f0:=HR6.out.f0 0
 have f1:=HR6.out.f0 1
 clear g6 hr6 a0 a1 b0 b1 g4 hsg
 refine Jj rfl rfl (fun K hK=>?_)
 go_simp
 refine⟨fun h=>Bool.noConfusion h,hK _ _ ?_⟩
 clear hK K
 refine Ji ?_
 go_wp2_with fail
 refine bodyPost_ret (v:=.agg #[.bool sg,.slice p6 k6 c6]) (by simp[results,Tryz.results159,go_sem,r0,r1]) rfl ?_
 exact Kp (by omega) (Gr.trans HO.out G6.out) HR6.out Hr6.out Hsg.out
theorem J5s (w:World)(va vb:Value)(n n':Bool)(la lb:List Nat)(z:Int)(hz:zval n la+zval n' lb=z)(ha:IntL w va n la)(hb:IntL w vb n' lb)(hla:la.length≤1099511627776)(hlb:lb.length≤1099511627776):
  Calls Tryz.prog 162 #[va,vb] w (Ret w fun r w'=>IntC w' r z):=by
 have HA0:=ξ ha
 have HB0:=ξ hb
 obtain⟨x,hx⟩:∃ x,zval n la=x:=⟨_,rfl⟩
 obtain⟨y,hy⟩:∃ y,zval n' lb=y:=⟨_,rfl⟩
 have hxa:(digs x.natAbs).length≤1099511627776:=by
  have e:x.natAbs=nval la:=by rw[← hx];unfold zval;rcases n with _|_<;>simp
  rw[e];exact Nat.le_trans (Kg ha.dig) hla
 have hya:(digs y.natAbs).length≤1099511627776:=by
  have e:y.natAbs=nval lb:=by rw[← hy];unfold zval;rcases n' with _|_<;>simp
  rw[e];exact Nat.le_trans (Kg hb.dig) hlb
 have Hx:=ξ hx
 have Hy:=ξ hy
 have Hxa:=ξ hxa
 have Hya:=ξ hya
 have HL:=ξ (N1 hxa hya)
 have Hz:=ξ (show x+y=z by rw[← hz,hx,hy])
 obtain⟨pa,ka,ca,rfl,ha⟩:=ha
 obtain⟨pb,kb,cb,rfl,hb⟩:=hb
 clear ha hb hz hx hy hxa hya
 have B3:=boxed3 w (.bool n) (.slice pa ka ca) (.bool n') (.slice pb kb cb) (.bool false) (.slice none 0 0) 66 66 66
 go_enter Tryz.func162,Tryz.ntmps162
 go_wp2_with fail
 generalize ((w.alloc _).alloc _).alloc _=W at B3 ⊢
 obtain⟨G0,ta,tb,tr⟩:=B3
 have HW:=ξ G0
 have HTA:=ξ ta
 have HTB:=ξ tb
 have HTR:=ξ tr
 have a0:=ta.c0
 have a1:=ta.c1
 have b0:=tb.c0
 have b1:=tb.c1
 have hsz:=tr.lt
 clear G0 ta tb tr
 have g0:Gr W W.drew:=(Gr.refl W).drew
 refine Ll [(0,true),(2,true),(1,false),(3,false),(4,false),(5,false)] (by kernel_rfl) (by kernel_rfl) rfl (by kernel_rfl) (fun _ _ d _ _ h=>by cases d<;>exact h) ?_
 repeat(refine Jf (v:=?_) g0 rfl rfl (fun w' hg=>?_) (fun K hK=>?_);rotate_left;(go_simp;rfl);go_simp;refine hK _ _ ?_;clear hK K)
 refine Jj rfl rfl (fun K hK=>?_)
 go_simp
 refine(Ou _ _ n la x Hx.out (HA0.out.grow (HW.out.trans g0)) hla).mono ?_
 rintro _ w2 ⟨r2,rfl,g2,hr2⟩
 refine⟨fun _=>g2,hK _ _ ?_⟩
 clear hK K
 obtain⟨p2,k2,c2,rfl,hr2⟩:=hr2
 have G2:=ξ (g0.trans g2)
 have Hr2:=ξ hr2
 clear g2 hr2
 refine Jj rfl rfl (fun K hK=>?_)
 go_simp
 refine(Ou _ _ n' lb y Hy.out (HB0.out.grow (HW.out.trans G2.out)) hlb).mono ?_
 rintro _ w3 ⟨r3,rfl,g3,hr3⟩
 refine⟨fun _=>g3,hK _ _ ?_⟩
 clear hK K
 obtain⟨p3,k3,c3,rfl,hr3⟩:=hr3
 have G3:=ξ (G2.out.trans g3)
 have Hr2':=ξ (Hr2.out.grow g3)
 have Hr3:=ξ hr3
 obtain⟨s,hs⟩:∃ s,decide (x < 0)=s:=⟨_,rfl⟩
 obtain⟨s',hs'⟩:∃ s',decide (y < 0)=s':=⟨_,rfl⟩
 rw[hs,hs']
 have Hs:=ξ hs
 have Hs':=ξ hs'
 have ta:=HTA.out.grow G3.out
 have tb:=HTB.out.grow G3.out
 have tr:=HTR.out.grow G3.out
 have TW:=twice (s:=s) (s':=s') (p:=p2) (k:=k2) (c:=c2) (p':=p3) (k':=k3) (c':=c3) ta tb tr
 clear a0 a1 b0 b1
 have a0:=ta.load.1
 have a1:=ta.load.2
 have b0:=tb.load.1
 have b1:=tb.load.2
 have f1:=ta.f0 0
 have f2:=ta.f0 1
 have f3:=tb.f0 0
 have f4:=tb.f0 1
 clear g3 hr3 ta tb tr hs hs' g0
 refine Jj rfl rfl (fun K hK=>?_)
 go_simp
 refine⟨fun h=>Bool.noConfusion h,hK _ _ ?_⟩
 clear hK K
 refine Jj rfl rfl (fun K hK=>?_)
 go_simp
 refine⟨fun h=>Bool.noConfusion h,hK _ _ ?_⟩
 clear hK K
 refine Ji ?_
 generalize (((w3.setCell _ _).setCell _ _).setCell _ _).setCell _ _=W4 at TW ⊢
 obtain⟨ta,tb,tr,hkeep,hown⟩:=TW
 have HK2:=ξ (hkeep _ _ Hr2'.out)
 have HK3:=ξ (hkeep _ _ Hr3.out)
 have HO:=ξ (Below.trans (HW.out.trans G3.out) hown)
 have HR:=ξ tr
 have hsz4:=tr.lt
 clear a0 a1 b0 b1 f1 f2 f3 f4 hkeep hown hsz HTA HTB HTR
 have HTA4:=ξ ta
 have HTB4:=ξ tb
 have a0:=ta.c0
 have a1:=ta.c1
 have b0:=tb.c0
 have b1:=tb.c1
 clear ta tb tr
 by_cases hss:s=s'
 ·subst hss
  have Hz2:=ξ (show zval s (digs (x.natAbs+y.natAbs))=z by
   rw[← Hz.out];unfold zval;rw[Je]
   have h1:=Hs.out
   have h2:=Hs'.out
   rcases s with _|_<;>simp at h1 h2 ⊢<;>omega)
  have gW4:Gr W4 W4:=Gr.refl W4
  go_wp2_with fail
  have g4:Gr W4 W4.drew:=(Gr.refl W4).drew
  refine Ll [(0,true),(1,true),(2,true),(3,true),(4,true),(5,true),(6,false),(7,false),(8,false)] (by kernel_rfl) (by kernel_rfl) rfl (by kernel_rfl) (fun _ _ d _ _ h=>by cases d<;>exact h) ?_
  repeat(refine Jf (v:=?_) g4 rfl rfl (fun w' hg=>?_) (fun K hK=>?_);rotate_left;(go_simp;rfl);go_simp;refine hK _ _ ?_;clear hK K)
  refine Jj rfl rfl (fun K hK=>?_)
  go_simp
  refine(Q4 _ _ _ _ _ (HK2.out.grow g4) (HK3.out.grow g4) (Nat.le_trans Hxa.out (by omega)) (Nat.le_trans Hya.out (by omega))).mono ?_
  rintro _ w5 ⟨r5,rfl,g5,hr5⟩
  refine⟨fun _=>g5,hK _ _ ?_⟩
  clear hK K
  rw[Je,Je] at hr5
  have G5:=ξ (g4.trans g5)
  have Hr5:=ξ hr5
  clear g5 hr5
  refine Jj rfl rfl (fun K hK=>?_)
  go_simp
  refine(No _ s r5 _ z Hz2.out Hr5.out (Nat.le_trans HL.out (by omega))).mono ?_
  rintro _ w6 ⟨r6,rfl,g6,hr6⟩
  refine⟨fun _=>g6,hK _ _ ?_⟩
  clear hK K
  obtain⟨p6,k6,c6,rfl,hr6⟩:=hr6
  obtain⟨sg,hsg⟩:∃ sg,sg=decide (z < 0):=⟨_,rfl⟩
  rw[← hsg]
  have Hsg:=ξ hsg
  have G6:=ξ (G5.out.trans g6)
  have Hr6:=ξ hr6
  have HR6:=ξ (HR.out.grow G6.out)
  have r0:=HR6.out.load.1
  have r1:=HR6.out.load.2
  have f0:=HR6.out.f0 0
  have f1:=HR6.out.f0 1
  clear g6 hr6 a0 a1 b0 b1 g4 hsg
  refine Jj rfl rfl (fun K hK=>?_)
  go_simp
  refine⟨fun h=>Bool.noConfusion h,hK _ _ ?_⟩
  clear hK K
  refine Ji ?_
  go_wp2_with fail
  refine bodyPost_ret (v:=.agg #[.bool sg,.slice p6 k6 c6]) (by simp[results,Tryz.results162,go_sem,r0,r1]) rfl ?_
  exact Kp (by omega) (Gr.trans HO.out G6.out) HR6.out Hr6.out Hsg.out
 ·have hsn:(s == s')=false:=by simpa using hss
  have gW4:Gr W4 W4:=Gr.refl W4
  have sx:=ξ hss
  clear hss
  go_wp2_with fail
  refine(Q5 _ _ _ _ _ HK2.out HK3.out (Nat.le_trans Hxa.out (by omega)) (Nat.le_trans Hya.out (by omega))).mono ?_
  rintro _ w4' ⟨_,rfl,g4,rfl⟩
  rw[Je,Je]
  have HK2':=ξ (HK2.out.grow g4)
  have HK3':=ξ (HK3.out.grow g4)
  have HR4:=ξ (HR.out.grow g4)
  have HA4:=ξ (HTA4.out.grow g4)
  have HB4:=ξ (HTB4.out.grow g4)
  have O4:=ξ (Gr.trans HO.out g4)
  clear a0 a1 b0 b1 gW4 hsz4 g4
  have hsz4:=HR4.out.lt
  have a0:=HA4.out.load.1
  have a1:=HA4.out.load.2
  have b0:=HB4.out.load.1
  have b1:=HB4.out.load.2
  rcases Nat.lt_or_ge x.natAbs y.natAbs with hlt|hlt
  ·have Hc:=ξ (Ok hlt)
   rw[Hc.out]
   have Hle:=ξ (Nat.le_of_lt hlt)
   have Hz2:=ξ (show zval s' (digs (y.natAbs - x.natAbs))=z by
    rw[← Hz.out];unfold zval;rw[Je]
    have h1:=Hs.out
    have h2:=Hs'.out
    have h3:=sx.out
    rcases s with _|_<;>rcases s' with _|_<;>simp at h1 h2 h3 ⊢<;>omega)
   have fa0:=HA4.out.f0 0
   have fa1:=HA4.out.f0 1
   have fb0:=HB4.out.f0 0
   have fb1:=HB4.out.f0 1
   have TW:=twice (s:=s') (s':=s) (p:=p3) (k:=k3) (c:=c3) (p':=p2) (k':=k2) (c':=c2) HA4.out HB4.out HR4.out
   clear hlt
   go_wp2_with fail
   generalize (((w4'.setCell _ _).setCell _ _).setCell _ _).setCell _ _=W5 at TW ⊢
   obtain⟨ta,tb,tr,hkeep,hown⟩:=TW
   have HK2'':=ξ (hkeep _ _ HK2'.out)
   have HK3'':=ξ (hkeep _ _ HK3'.out)
   have O5:=ξ (Below.trans O4.out hown)
   have HR5:=ξ tr
   have HA5:=ξ ta
   have hsz5:=tr.lt
   clear a0 a1 b0 b1 fa0 fa1 fb0 fb1 hkeep hown ta tb tr hsz4
   refine(J0j _ _ _ _ _ HK3''.out HK2''.out (Nat.le_trans Hya.out (by omega)) (Nat.le_trans Hxa.out (by omega)) (by rw[Je,Je];exact Hle.out)).mono ?_
   rintro _ w5 ⟨_,rfl,g5,r5,rfl,hr5⟩
   rw[Je,Je] at hr5
   have G5:=ξ g5
   have Hr5:=ξ hr5
   clear hr5
   have a0:=HA5.out.c0 w5 g5
   clear g5
   go_wp2_with fail
   refine(No _ s' r5 _ z Hz2.out Hr5.out (Nat.le_trans (Kn (Nat.sub_le _ _)) (Nat.le_trans Hya.out (by omega)))).mono ?_
   rintro _ w6 ⟨r6,rfl,g6,hr6⟩
   obtain⟨p6,k6,c6,rfl,hr6⟩:=hr6
   obtain⟨sg,hsg⟩:∃ sg,sg=decide (z < 0):=⟨_,rfl⟩
   rw[← hsg]
   have Hsg:=ξ hsg
   have G6:=ξ (G5.out.trans g6)
   have Hr6:=ξ hr6
   have HR6:=ξ (HR5.out.grow G6.out)
   have r0:=HR6.out.load.1
   have r1:=HR6.out.load.2
   have f0:=HR6.out.f0 0
   have f1:=HR6.out.f0 1
   clear g6 hr6 a0 hsg
   go_wp2_with fail
   refine bodyPost_ret (v:=.agg #[.bool sg,.slice p6 k6 c6]) (by simp[results,Tryz.results162,go_sem,r0,r1]) rfl ?_
   exact Kp (by omega) (Gr.trans O5.out G6.out) HR6.out Hr6.out Hsg.out
  ·have hc:=Nb x.natAbs y.natAbs
   obtain⟨cz,hcz⟩:∃ cz,cmpZ x.natAbs y.natAbs=cz:=⟨_,rfl⟩
   rw[hcz] at hc ⊢
   have hc0:¬ cz < 0:=by omega
   have Hle:=ξ (show y.natAbs≤x.natAbs by omega)
   have Hz2:=ξ (show zval s (digs (x.natAbs - y.natAbs))=z by
    rw[← Hz.out];unfold zval;rw[Je]
    have h1:=Hs.out
    have h2:=Hs'.out
    have h3:=sx.out
    rcases s with _|_<;>rcases s' with _|_<;>simp at h1 h2 h3 ⊢<;>omega)
   clear hc hcz hlt
   go_wp2_with fail
   refine(J0j _ _ _ _ _ HK2'.out HK3'.out (Nat.le_trans Hxa.out (by omega)) (Nat.le_trans Hya.out (by omega)) (by rw[Je,Je];exact Hle.out)).mono ?_
   rintro _ w5 ⟨_,rfl,g5,r5,rfl,hr5⟩
   rw[Je,Je] at hr5
   have G5:=ξ g5
   have Hr5:=ξ hr5
   clear a0 a1 b0 b1 hr5
   have a0:=HA4.out.c0 w5 g5
   clear g5
   go_wp2_with fail
   refine(No _ s r5 _ z Hz2.out Hr5.out (Nat.le_trans (Kn (Nat.sub_le _ _)) (Nat.le_trans Hxa.out (by omega)))).mono ?_
   rintro _ w6 ⟨r6,rfl,g6,hr6⟩
   obtain⟨p6,k6,c6,rfl,hr6⟩:=hr6
   obtain⟨sg,hsg⟩:∃ sg,sg=decide (z < 0):=⟨_,rfl⟩
   rw[← hsg]
   have Hsg:=ξ hsg
   have G6:=ξ (G5.out.trans g6)
   have Hr6:=ξ hr6
   have HR6:=ξ (HR4.out.grow G6.out)
   have r0:=HR6.out.load.1
   have r1:=HR6.out.load.2
   have f0:=HR6.out.f0 0
   have f1:=HR6.out.f0 1
   clear g6 hr6 a0 hsg
   go_wp2_with fail
   refine bodyPost_ret (v:=.agg #[.bool sg,.slice p6 k6 c6]) (by simp[results,Tryz.results162,go_sem,r0,r1]) rfl ?_
   exact Kp (by omega) (Gr.trans O4.out G6.out) HR6.out Hr6.out Hsg.out
theorem J71 (a:Nat):zval false (digs a)=a:=by unfold zval;rw[Je];simp
theorem J70 (a:Nat):zval true (digs a) = -a:=by unfold zval;rw[Je];simp
theorem N4 {a:Nat}(h:a < 18446744073709551616):(digs a).length≤2:=by
 refine Kf ?_
 rw[Jc];omega
theorem J5t (w:World)(z:Int)(h1 : -9223372036854775808≤z)(h2:z≤9223372036854775807):
  Calls Tryz.prog 54 #[.int .i64 z] w (Ret w fun r w'=>IntC w' r z):=by
 have HB1:=ξ (boxed1 w (.bool false) (.slice none 0 0) 66)
 by_cases hz:z < 0
 ·obtain⟨a,ha⟩:∃ a:Nat,z = -(a:Int) - 1:=⟨(-z - 1).toNat,by omega⟩
  have ha2:a≤9223372036854775807:=by omega
  have Ha:=ξ ha
  have E0 : -(z+1)=(a:Int):=by omega
  clear ha
  go_enter Tryz.func54,Tryz.ntmps54
  go_wp2_with fail
  refine(J0h _ a (by omega)).mono ?_
  rintro _ w1 ⟨r,rfl,g1,hr⟩
  have G1:=ξ g1
  have Hr:=ξ hr
  clear hr g1
  go_wp2_with fail
  refine(Q4 _ r (.slice (some ⟨w1.heap.size,0,none⟩) 1 1) _ [1] (Hr.out.grow ((Gr.refl w1).alloc _)) (NatL.one w1 _ 1 rfl (by rw[Jc];omega) _) (Nat.le_trans (N4 (by omega)) (by omega)) (by simp)).mono ?_
  rintro _ w2 ⟨r2,rfl,g2,hr2⟩
  rw[Je,show nval [1]=1 from rfl] at hr2
  have G2:=ξ (G1.out.trans (((Gr.refl w1).alloc _).trans g2))
  have Hr2:=ξ hr2
  clear hr2 g2
  go_wp2_with fail
  refine(No _ true r2 _ z (by rw[J70,Ha.out];omega) Hr2.out (Nat.le_trans (N4 (by omega)) (by omega))).mono ?_
  rintro _ w3 ⟨r3,rfl,g3,hr3⟩
  obtain⟨p3,k3,c3,rfl,hr3⟩:=hr3
  obtain⟨sg,hsg⟩:∃ sg,sg=decide (z < 0):=⟨_,rfl⟩
  rw[← hsg]
  have Hsg:=ξ hsg
  have G3:=ξ (G2.out.trans g3)
  have Hr3:=ξ hr3
  have HR3:=ξ (HB1.out.2.grow G3.out)
  have r0:=HR3.out.load.1
  have r1:=HR3.out.load.2
  have f0:=HR3.out.f0 0
  have f1:=HR3.out.f0 1
  clear g3 hr3 hsg
  go_wp2_with fail
  refine bodyPost_ret (v:=.agg #[.bool sg,.slice p3 k3 c3]) (by simp[results,Tryz.results54,go_sem,r0,r1]) rfl ?_
  exact Kp (by omega) (HB1.out.1.trans G3.out) HR3.out Hr3.out Hsg.out
 ·obtain⟨a,rfl⟩:∃ a:Nat,z=a:=⟨z.toNat,by omega⟩
  have ha2:a≤9223372036854775807:=by omega
  go_enter Tryz.func54,Tryz.ntmps54
  go_wp2_with fail
  refine(J0h _ a (by omega)).mono ?_
  rintro _ w1 ⟨r,rfl,g1,hr⟩
  have G1:=ξ g1
  have Hr:=ξ hr
  clear hr g1
  go_wp2_with fail
  refine(No _ false r _ _ (J71 a) Hr.out (Nat.le_trans (N4 (by omega)) (by omega))).mono ?_
  rintro _ w3 ⟨r3,rfl,g3,hr3⟩
  obtain⟨p3,k3,c3,rfl,hr3⟩:=hr3
  obtain⟨sg,hsg⟩:∃ sg,sg=decide ((a:Int) < 0):=⟨_,rfl⟩
  rw[← hsg]
  have Hsg:=ξ hsg
  have G3:=ξ (G1.out.trans g3)
  have Hr3:=ξ hr3
  have HR3:=ξ (HB1.out.2.grow G3.out)
  have r0:=HR3.out.load.1
  have r1:=HR3.out.load.2
  have f0:=HR3.out.f0 0
  have f1:=HR3.out.f0 1
  clear g3 hr3 hsg
  go_wp2_with fail
  refine bodyPost_ret (v:=.agg #[.bool sg,.slice p3 k3 c3]) (by simp[results,Tryz.results54,go_sem,r0,r1]) rfl ?_
  exact Kp (by omega) (HB1.out.1.trans G3.out) HR3.out Hr3.out Hsg.out
theorem Yb (w:World)(z:Int)(h1 : -9223372036854775808≤z)(h2:z≤9223372036854775807):
  Calls Tryz.prog 126 #[.int .i64 z] w (Ret w fun r w'=>IntC w' r z):=by
 have HB1:=ξ (boxed1 w (.bool false) (.slice none 0 0) 66)
 by_cases hz:z < 0
 ·obtain⟨a,ha⟩:∃ a:Nat,z = -(a:Int):=⟨(-z).toNat,by omega⟩
  have ha2:a≤9223372036854775808:=by omega
  have ha0:0 < a:=by omega
  have Ha:=ξ ha
  clear ha
  go_enter Tryz.func126,Tryz.ntmps126
  go_wp2_with fail
  have hneg:IntKind.u64.wrap (-IntKind.u64.wrap z)=(a:Int):=by
   rw[IntKind.wrap_u64,IntKind.wrap_u64,Ha.out];omega
  rw[hneg]
  refine(L3 _ a (by omega)).mono ?_
  rintro _ w1 ⟨r,rfl,g1,hr⟩
  have G1:=ξ g1
  have Hr:=ξ hr
  clear hr g1 hneg
  go_wp2_with fail
  refine(Mf _ true r _ z Hr.out (Nat.le_trans (N4 (by omega)) (by omega)) (by rw[Ha.out];simp)).mono ?_
  rintro _ w3 ⟨r3,rfl,g3,hr3⟩
  obtain⟨p3,k3,c3,rfl,hr3⟩:=hr3
  obtain⟨sg,hsg⟩:∃ sg,sg=decide (z < 0):=⟨_,rfl⟩
  rw[← hsg]
  have Hsg:=ξ hsg
  have G3:=ξ (G1.out.trans g3)
  have Hr3:=ξ hr3
  have HR3:=ξ (HB1.out.2.grow G3.out)
  have r0:=HR3.out.load.1
  have r1:=HR3.out.load.2
  have f0:=HR3.out.f0 0
  have f1:=HR3.out.f0 1
  clear g3 hr3 hsg
  go_wp2_with fail
  refine bodyPost_ret (v:=.agg #[.bool sg,.slice p3 k3 c3]) (by simp[results,Tryz.results126,go_sem,r0,r1]) rfl ?_
  exact Kp (by omega) (HB1.out.1.trans G3.out) HR3.out Hr3.out Hsg.out
 ·obtain⟨a,rfl⟩:∃ a:Nat,z=a:=⟨z.toNat,by omega⟩
  have ha2:a≤9223372036854775807:=by omega
  go_enter Tryz.func126,Tryz.ntmps126
  go_wp2_with fail
  refine(L3 _ a (by omega)).mono ?_
  rintro _ w1 ⟨r,rfl,g1,hr⟩
  have G1:=ξ g1
  have Hr:=ξ hr
  clear hr g1
  go_wp2_with fail
  refine(Mf _ false r _ _ Hr.out (Nat.le_trans (N4 (by omega)) (by omega)) (by simp;rfl)).mono ?_
  rintro _ w3 ⟨r3,rfl,g3,hr3⟩
  obtain⟨p3,k3,c3,rfl,hr3⟩:=hr3
  obtain⟨sg,hsg⟩:∃ sg,sg=decide ((a:Int) < 0):=⟨_,rfl⟩
  rw[← hsg]
  have Hsg:=ξ hsg
  have G3:=ξ (G1.out.trans g3)
  have Hr3:=ξ hr3
  have HR3:=ξ (HB1.out.2.grow G3.out)
  have r0:=HR3.out.load.1
  have r1:=HR3.out.load.2
  have f0:=HR3.out.f0 0
  have f1:=HR3.out.f0 1
  clear g3 hr3 hsg
  go_wp2_with fail
  refine bodyPost_ret (v:=.agg #[.bool sg,.slice p3 k3 c3]) (by simp[results,Tryz.results126,go_sem,r0,r1]) rfl ?_
  exact Kp (by omega) (HB1.out.1.trans G3.out) HR3.out Hr3.out Hsg.out
def quoZ (fl:Bool)(a b:Int):Int:=
 let q:Nat:=a.natAbs / b.natAbs+(if fl && (decide (sgn a * sgn b < 0) && decide (0 < a.natAbs % b.natAbs)) then 1 else 0)
 if sgn a * sgn b < 0 then -(q:Int) else q
theorem J0w (a:Int) : -1≤sgn a∧sgn a≤1:=by unfold sgn;split<;>(try split)<;>omega
theorem J0v (a b:Int) : -1≤sgn a * sgn b∧sgn a * sgn b≤1:=by
 have h1:=J0w a
 have h2:=J0w b
 have ha:sgn a = -1∨sgn a=0∨sgn a=1:=by omega
 rcases ha with h|h|h<;>rw[h]<;>omega
theorem O8 (n:Bool)(l:List Nat):(zval n l).natAbs=nval l:=by unfold zval;rcases n with _|_<;>simp
theorem J1Z (w:World)(a b:Bool):Calls Tryz.prog 248 #[.bool a,.bool b] w fun e w'=>e = .returned (.bool (false && (a && b)))∧w=w':=by
 go_enter Tryz.func248,Tryz.ntmps248
 go_wp2_with fail
 go_ret
 exact⟨rfl,rfl⟩
theorem J1X (w:World)(a b:Bool):Calls Tryz.prog 293 #[.bool a,.bool b] w fun e w'=>e = .returned (.bool (true && (a && b)))∧w=w':=by
 rcases a with _|_
 ·go_enter Tryz.func293,Tryz.ntmps293
  go_wp2_with fail
  go_ret
  exact⟨rfl,rfl⟩
 ·go_enter Tryz.func293,Tryz.ntmps293
  go_wp2_with fail
  go_ret
  exact⟨rfl,rfl⟩
theorem boxed4 (w:World)(x y x' y' x'' y'' x3 y3:Value)(t t' t'' t3:TypeId):Gr w ((((w.alloc (.cells #[x,y] t)).alloc (.cells #[x',y'] t')).alloc (.cells #[x'',y''] t'')).alloc (.cells #[x3,y3] t3))∧
  Two ((((w.alloc (.cells #[x,y] t)).alloc (.cells #[x',y'] t')).alloc (.cells #[x'',y''] t'')).alloc (.cells #[x3,y3] t3)) w.heap.size x y∧
  Two ((((w.alloc (.cells #[x,y] t)).alloc (.cells #[x',y'] t')).alloc (.cells #[x'',y''] t'')).alloc (.cells #[x3,y3] t3)) (w.heap.size+1) x' y'∧
  Two ((((w.alloc (.cells #[x,y] t)).alloc (.cells #[x',y'] t')).alloc (.cells #[x'',y''] t'')).alloc (.cells #[x3,y3] t3)) (w.heap.size+1+1) x'' y''∧
  Two ((((w.alloc (.cells #[x,y] t)).alloc (.cells #[x',y'] t')).alloc (.cells #[x'',y''] t'')).alloc (.cells #[x3,y3] t3)) (w.heap.size+1+1+1) x3 y3:=by
 obtain⟨g,h1,h2,h3⟩:=boxed3 w x y x' y' x'' y'' t t' t''
 obtain⟨g',h4⟩:=boxed1 (((w.alloc (.cells #[x,y] t)).alloc (.cells #[x',y'] t')).alloc (.cells #[x'',y''] t'')) x3 y3 t3
 rw[World.size_alloc,World.size_alloc,World.size_alloc] at h4
 exact⟨g.trans g',h1.grow g',h2.grow g',h3.grow g',h4⟩
theorem Rc {w:World}{B:Nat}{n n' s s':Bool}{pa pb p p':Option Addr}{ka ca kb cb k c k' c':Nat}
  (ta:Two w B (.bool n) (.slice pa ka ca)) (tb:Two w (B+1) (.bool n') (.slice pb kb cb)):
  Two ((((w.setCell ⟨B,0,none⟩ (.bool s)).setCell ⟨B,1,none⟩ (.slice p k c)).setCell ⟨B+1,0,none⟩ (.bool s')).setCell ⟨B+1,1,none⟩ (.slice p' k' c')) B (.bool s) (.slice p k c)∧
  Two ((((w.setCell ⟨B,0,none⟩ (.bool s)).setCell ⟨B,1,none⟩ (.slice p k c)).setCell ⟨B+1,0,none⟩ (.bool s')).setCell ⟨B+1,1,none⟩ (.slice p' k' c')) (B+1) (.bool s') (.slice p' k' c')∧
  (∀ v l,NatL w v l→NatL ((((w.setCell ⟨B,0,none⟩ (.bool s)).setCell ⟨B,1,none⟩ (.slice p k c)).setCell ⟨B+1,0,none⟩ (.bool s')).setCell ⟨B+1,1,none⟩ (.slice p' k' c')) v l)∧
  Own B w ((((w.setCell ⟨B,0,none⟩ (.bool s)).setCell ⟨B,1,none⟩ (.slice p k c)).setCell ⟨B+1,0,none⟩ (.bool s')).setCell ⟨B+1,1,none⟩ (.slice p' k' c')):=by
 have ta1:=ta.set (.bool s) (.slice p k c)
 have tb1:=tb.other (b':=B) (by omega) (.bool s) (.slice p k c)
 exact⟨ta1.other (by omega) _ _,tb1.set _ _,fun v l h=>(h.keepBox ta _ _).keepBox tb1 _ _,(Np B w (Nat.le_refl _) _ _).trans (Np B _ (by omega) _ _)⟩
theorem Ye (w:World)(va vb:Value)(n n':Bool)(la lb:List Nat)(fl:Bool)(fn:Nat)(hfn:(fl=false∧fn=248)∨(fl=true∧fn=293))(x y:Int)(hx:zval n la=x)(hy:zval n' lb=y)
  (ha:IntL w va n la) (hb:IntL w vb n' lb) (hla:la.length≤274877906944) (hlb:lb.length≤274877906944) (h0:y≠0):
  Calls Tryz.prog 247 #[va,vb,.func (.func fn) #[] #[]] w (Ret w fun r w'=>∃ q s,r = .tuple #[q,s,.int .i64 0]∧IntC w' q (quoZ fl x y)∧IntC w' s (x - quoZ fl x y * y)):=by
 have hlan:nval la=x.natAbs:=by rw[← hx,O8]
 have hlbn:nval lb=y.natAbs:=by rw[← hy,O8]
 have HA0:=ξ ha
 have HB0:=ξ hb
 have HN:=ξ hlan
 have HM:=ξ hlbn
 have Hx:=ξ hx
 have Hy:=ξ hy
 have H0:=ξ (show nval lb≠0 by rw[hlbn];omega)
 have hLQ:(digs (x.natAbs / y.natAbs)).length≤274877906944:=by
  refine Nat.le_trans (Kn (Nat.div_le_self _ _)) ?_
  rw[← hlan];exact Nat.le_trans (Kg ha.dig) hla
 have HLQ:=ξ hLQ
 obtain⟨ng,hng⟩:∃ ng,decide (sgn x * sgn y < 0)=ng:=⟨_,rfl⟩
 obtain⟨r',hr'⟩:∃ r',x.natAbs % y.natAbs=r':=⟨_,rfl⟩
 obtain⟨q',hq'⟩:∃ q',x.natAbs / y.natAbs=q':=⟨_,rfl⟩
 obtain⟨Q,hQ⟩:∃ Q,quoZ fl x y=Q:=⟨_,rfl⟩
 have hQ2:(if ng then -((q'+(if fl && (ng && decide (0 < r')) then 1 else 0):Nat):Int) else ((q'+(if fl && (ng && decide (0 < r')) then 1 else 0):Nat):Int))=Q:=by
  rw[← hQ];unfold quoZ;rw[hng,hr',hq']
  rw[← hng]
  by_cases h:sgn x * sgn y < 0<;>simp[h]
 rw[hQ]
 have HQ2:=ξ hQ2
 have HRr:=ξ hr'
 have HQq:=ξ hq'
 obtain⟨sx,hsx⟩:∃ sx,sgn x=sx:=⟨_,rfl⟩
 obtain⟨sy,hsy⟩:∃ sy,sgn y=sy:=⟨_,rfl⟩
 have hr1:=(J0v x y).1
 have hr2:=(J0v x y).2
 rw[hsx,hsy] at hr1 hr2 hng
 have Hsx:=ξ (show sgn (zval n la)=sx by rw[hx];exact hsx)
 have Hsy:=ξ (show sgn (zval n' lb)=sy by rw[hy];exact hsy)
 obtain⟨pa,ka,ca,rfl,ha⟩:=ha
 obtain⟨pb,kb,cb,rfl,hb⟩:=hb
 have HA:=ξ ha
 have HB:=ξ hb
 clear ha hb h0 hQ hQ2 hlan hlbn hx hy hLQ hr' hq' hsx hsy
 have B4:=boxed4 w (.bool n) (.slice pa ka ca) (.bool n') (.slice pb kb cb) (.bool false) (.slice none 0 0) (.bool false) (.slice none 0 0) 66 66 66 66
 go_enter Tryz.func247,Tryz.ntmps247
 go_wp2_with fail
 generalize (((w.alloc _).alloc _).alloc _).alloc _=W at B4 ⊢
 obtain⟨G0,ta,tb,tr,tq⟩:=B4
 have HW:=ξ G0
 have HTA:=ξ ta
 have HTB:=ξ tb
 have HTR:=ξ tr
 have HTQ:=ξ tq
 clear G0 ta tb tr tq
 refine(Y7 _ _ _ la lb (HA.out.grow HW.out) (HB.out.grow HW.out) (by omega) (by omega) H0.out).mono ?_
 rintro _ w1 ⟨_,rfl,g1,q1,r1,rfl,hq1,hr1'⟩
 rw[HN.out,HM.out,HQq.out] at hq1
 rw[HN.out,HM.out,HRr.out] at hr1'
 have G1:=ξ g1
 have Hq1:=ξ hq1
 have Hr1:=ξ hr1'
 obtain⟨p1,c1,rfl,-⟩:=hr1'.parts
 have hrl:(0:Int) < ((digs r').length:Int)↔0 < r':=by
  rw[show(0:Int) < ((digs r').length:Int)↔0 < (digs r').length from by omega,List.length_pos_iff,ne_eq,J7];omega
 obtain⟨lr,hlr⟩:∃ lr,(digs r').length=lr:=⟨_,rfl⟩
 rw[hlr] at Hr1 hrl ⊢
 have Hrl:=ξ hrl
 have a0:=HTA.out.c0
 have a1:=HTA.out.c1
 have b0:=HTB.out.c0
 have b1:=HTB.out.c1
 have gW1:Gr W w1:=g1
 clear g1 hq1 hr1' hlr hrl
 go_wp2_with fail
 have hwr:IntKind.i64.wrap (sx * sy)=sx * sy:=IntWalk.i64_in _ (by omega)
 have g0:Gr W w1.drew:=gW1.drew
 clear gW1
 refine Ll [(0,true),(2,true),(1,false),(3,false),(4,true),(5,true),(6,true)] (by kernel_rfl) (by kernel_rfl) rfl (by kernel_rfl) (fun _ _ d _ _ h=>by cases d<;>exact h) ?_
 repeat(refine Jf (v:=?_) g0 rfl rfl (fun w' hg=>?_) (fun K hK=>?_);rotate_left;(go_simp;rfl);go_simp;refine hK _ _ ?_;clear hK K)
 refine Jj rfl rfl (fun K hK=>?_)
 go_simp
 refine(Pn _ _ n la sx Hsx.out (HA0.out.grow (HW.out.trans g0)) (by omega)).mono ?_
 rintro _ w2 ⟨_,rfl,g2,rfl⟩
 refine⟨fun _=>g2,hK _ _ ?_⟩
 clear hK K
 have g3:Gr W w2:=g0.trans g2
 have G2:=ξ g2
 clear g2 g0
 refine Jj rfl rfl (fun K hK=>?_)
 go_simp
 refine(Pn _ _ n' lb sy Hsy.out (HB0.out.grow (HW.out.trans g3)) (by omega)).mono ?_
 rintro _ w3 ⟨_,rfl,g4,rfl⟩
 refine⟨fun _=>g4,hK _ _ ?_⟩
 clear hK K
 have g5:Gr W w3:=g3.trans g4
 have Hq3:=ξ (Hq1.out.grow (show Gr w1 w3 from Gr.trans ((Gr.refl w1).drew) (Gr.trans G2.out g4)))
 have Hr3:=ξ (Hr1.out.grow (show Gr w1 w3 from Gr.trans ((Gr.refl w1).drew) (Gr.trans G2.out g4)))
 clear g4 g3
 repeat(refine Jf (v:=?_) g5 rfl rfl (fun w' hg=>?_) (fun K hK=>?_);rotate_left;(go_simp;rfl);go_simp;refine hK _ _ ?_;clear hK K)
 refine Ji ?_
 have HG5:=ξ g5
 obtain⟨inx,hinx⟩:∃ inx,decide (0 < lr)=inx:=⟨_,rfl⟩
 have Hinx:=ξ (show decide (0 < r')=inx by
  rw[← hinx];have:=Hrl.out;exact decide_eq_decide.2 (by omega))
 have hrng:sx * sy < 0↔ng=true:=by rw[← hng];simp
 clear a0 a1 b0 b1 g5 hr1 hr2
 obtain⟨aw,haw⟩:∃ aw,(fl && (ng && inx))=aw:=⟨_,rfl⟩
 have Haw:=ξ haw
 have hcl:∀ (w:World),Calls Tryz.prog fn #[.bool ng,.bool inx] w fun e w'=>e = .returned (.bool aw)∧w=w':=by
  intro w
  rw[← haw]
  rcases hfn with⟨rfl,rfl⟩|⟨rfl,rfl⟩
  ·exact J1Z w ng inx
  ·exact J1X w ng inx
 have Hcl:=ξ hcl
 have hfn':fn=248∨fn=293:=by rcases hfn with⟨_,h⟩|⟨_,h⟩;exact .inl h;exact .inr h
 clear hfn haw hcl hrng
 have HLQ':=ξ (show(digs q').length≤274877906944 by rw[← HQq.out];exact HLQ.out)
 have HLQ1:=ξ (show(digs (q'+1)).length≤274877906945 from N1 HLQ'.out (Nat.le_trans (N4 (by omega)) (by omega)))
 have HQabs:Q.natAbs≤q'+1:=by
  rw[← HQ2.out]
  rcases ng with _|_<;>simp<;>split<;>omega
 have HLq:=ξ (Nat.le_trans (Kn HQabs) HLQ1.out)
 have HLp:=ξ (show(digs (Q * y).natAbs).length≤549755813889 by
  rw[Int.natAbs_mul]
  exact Nat.le_trans (N2 HLq.out (k:=274877906945) (m:=274877906944) (by rw[← HM.out];exact Nat.le_trans (Kg HB.out.dig) hlb)) (by omega))
 clear HQabs
 rcases hfn' with rfl|rfl
 all_goals
  go_wp2_with fail
  refine(Hcl.out _).mono ?_
  rintro _ _ ⟨rfl,rfl⟩
  rcases aw with _|_
  ·go_wp2_with fail
   refine(Mf _ ng q1 _ Q Hq3.out (Nat.le_trans HLQ'.out (by omega)) (by rw[← HQ2.out,Hinx.out,Haw.out];rfl)).mono ?_
   rintro _ w6 ⟨r6,rfl,g6,hr6⟩
   have Hr6:=ξ hr6
   obtain⟨p6,k6,c6,rfl,hr6⟩:=hr6
   have G6:=ξ (Gr.trans HG5.out g6)
   obtain⟨sg,hsg⟩:∃ sg,decide (Q < 0)=sg:=⟨_,rfl⟩
   rw[hsg] at Hr6 ⊢
   have Hsg:=ξ hsg
   obtain⟨G7,t7⟩:=boxed1 w6 (.bool sg) (.slice p6 k6 c6) 66
   clear g6 hr6 hsg
   go_wp2_with fail
   generalize w6.alloc _=W7 at G7 t7 ⊢
   have HG7:=ξ (G6.out.trans G7)
   have Hr7:=ξ (Hr6.out.grow G7)
   have a0:=(HTA.out.grow HG7.out).c0
   have a1:=(HTA.out.grow HG7.out).c1
   have b0:=(HTB.out.grow HG7.out).c0
   have b1:=(HTB.out.grow HG7.out).c1
   have q0:=t7.c0
   have q1':=t7.c1
   have g7:Gr W7 W7.drew:=(Gr.refl W7).drew
   clear G7 t7
   refine Ll [(0,true),(1,true),(2,true),(3,true),(4,false),(5,false),(6,false),(7,false),(8,true)] (by kernel_rfl) (by kernel_rfl) rfl (by kernel_rfl) (fun _ _ d _ _ h=>by cases d<;>exact h) ?_
   repeat(refine Jf (v:=?_) g7 rfl rfl (fun w' hg=>?_) (fun K hK=>?_);rotate_left;(go_simp;rfl);go_simp;refine hK _ _ ?_;clear hK K)
   refine Jj rfl rfl (fun K hK=>?_)
   go_simp
   refine(S2 _ _ _ _ n' _ lb (Q * y) (by rw[M5,Hy.out]) (Hr7.out.grow g7) (HB0.out.grow ((HW.out.trans HG7.out).trans g7)) (Nat.le_trans HLq.out (by omega)) (by omega)).mono ?_
   rintro _ w8 ⟨r8,rfl,g8,hr8⟩
   refine⟨fun _=>g8,hK _ _ ?_⟩
   clear hK K
   have G8:=ξ (g7.trans g8)
   have Hr8:=ξ hr8
   clear g8 hr8
   refine Jj rfl rfl (fun K hK=>?_)
   go_simp
   refine(S3 _ _ _ n _ la _ (x - Q * y) (by rw[M5,Hx.out]) (HA0.out.grow ((HW.out.trans HG7.out).trans G8.out)) Hr8.out (by omega) (Nat.le_trans HLp.out (by omega))).mono ?_
   rintro _ w9 ⟨r9,rfl,g9,hr9⟩
   refine⟨fun _=>g9,hK _ _ ?_⟩
   clear hK K
   obtain⟨p9,k9,c9,rfl,hr9⟩:=hr9
   have G9:=ξ (G8.out.trans g9)
   have Hr9:=ξ hr9
   have Hq9:=ξ (Hr7.out.grow G9.out)
   obtain⟨s9,hs9⟩:∃ s9,decide (x - Q * y < 0)=s9:=⟨_,rfl⟩
   rw[hs9]
   have Hs9:=ξ hs9
   have tr:=HTR.out.grow (HG7.out.trans G9.out)
   have tq:=HTQ.out.grow (HG7.out.trans G9.out)
   have TW:=Rc (s:=sg) (s':=s9) (p:=p6) (k:=k6) (c:=c6) (p':=p9) (k':=k9) (c':=c9) tr tq
   have f0:=tr.f0 0
   have f1:=tr.f0 1
   have f2:=tq.f0 0
   have f3:=tq.f0 1
   have r0:=tr.load.1
   have r1:=tr.load.2
   have u0:=tq.load.1
   have u1:=tq.load.2
   have gend:Gr W7 w9:=G9.out
   clear g9 hr9 a0 a1 b0 b1 q0 q1' g7 hs9 tr tq
   refine Jj rfl rfl (fun K hK=>?_)
   go_simp
   refine⟨fun h=>Bool.noConfusion h,hK _ _ ?_⟩
   clear hK K
   refine Jj rfl rfl (fun K hK=>?_)
   go_simp
   refine⟨fun h=>Bool.noConfusion h,hK _ _ ?_⟩
   clear hK K
   generalize (((w9.setCell _ _).setCell _ _).setCell _ _).setCell _ _=W10 at TW ⊢
   obtain⟨t1,t2,hkeep,hown⟩:=TW
   have x0:=t1.load.1
   have x1:=t1.load.2
   have y0:=t2.load.1
   have y1:=t2.load.2
   have gx:Gr W10 W10:=Gr.refl W10
   clear f0 f1 f2 f3 r0 r1 u0 u1 t1 t2
   repeat(refine Jf (v:=?_) gx rfl rfl (fun w' hg=>?_) (fun K hK=>?_);rotate_left;(go_simp;rfl);go_simp;refine hK _ _ ?_;clear hK K)
   refine Ji ?_
   go_wp2_with fail
   refine bodyPost_ret (v:=.tuple #[.agg #[.bool sg,.slice p6 k6 c6],.agg #[.bool s9,.slice p9 k9 c9],.int .i64 0]) (by simp[results,Tryz.results247,go_sem,x0,x1,y0,y1]) rfl ?_
   refine⟨_,rfl,Below.trans (HW.out.trans (HG7.out.trans G9.out)) (Below.mono hown (by omega)),_,_,rfl,?_,?_⟩
   ·obtain⟨pp,kk,cc,he,hn⟩:=Hq9.out
    cases he
    rw[IntC,Hsg.out]
    exact⟨_,_,_,rfl,hkeep _ _ hn⟩
   ·rw[IntC,Hs9.out]
    exact⟨_,_,_,rfl,hkeep _ _ Hr9.out⟩
  ·go_wp2_with fail
   refine(L3 _ 1 (by omega)).mono ?_
   rintro _ w4 ⟨v4,rfl,g4,hv4⟩
   have Hv4:=ξ hv4
   have Hq4:=ξ (Hq3.out.grow g4)
   have G4:=ξ (HG5.out.trans g4)
   clear g4 hv4
   go_wp2_with fail
   refine(Pq _ _ _ _ _ Hq4.out Hv4.out (Nat.le_trans HLQ'.out (by omega)) (Nat.le_trans (N4 (by omega)) (by omega))).mono ?_
   rintro _ w5 ⟨v5,rfl,g5,hv5⟩
   rw[Je,Je] at hv5
   have Hv5:=ξ hv5
   have G5:=ξ (G4.out.trans g5)
   clear g5 hv5
   go_wp2_with fail
   refine(Mf _ ng v5 _ Q Hv5.out (Nat.le_trans HLQ1.out (by omega)) (by rw[← HQ2.out,Hinx.out,Haw.out];rfl)).mono ?_
   rintro _ w6 ⟨r6,rfl,g6,hr6⟩
   have Hr6:=ξ hr6
   obtain⟨p6,k6,c6,rfl,hr6⟩:=hr6
   have G6:=ξ (Gr.trans G5.out g6)
   obtain⟨sg,hsg⟩:∃ sg,decide (Q < 0)=sg:=⟨_,rfl⟩
   rw[hsg] at Hr6 ⊢
   have Hsg:=ξ hsg
   obtain⟨G7,t7⟩:=boxed1 w6 (.bool sg) (.slice p6 k6 c6) 66
   clear g6 hr6 hsg
   go_wp2_with fail
   generalize w6.alloc _=W7 at G7 t7 ⊢
   have HG7:=ξ (G6.out.trans G7)
   have Hr7:=ξ (Hr6.out.grow G7)
   have a0:=(HTA.out.grow HG7.out).c0
   have a1:=(HTA.out.grow HG7.out).c1
   have b0:=(HTB.out.grow HG7.out).c0
   have b1:=(HTB.out.grow HG7.out).c1
   have q0:=t7.c0
   have q1':=t7.c1
   have g7:Gr W7 W7.drew:=(Gr.refl W7).drew
   clear G7 t7
   refine Ll [(0,true),(1,true),(2,true),(3,true),(4,false),(5,false),(6,false),(7,false),(8,true)] (by kernel_rfl) (by kernel_rfl) rfl (by kernel_rfl) (fun _ _ d _ _ h=>by cases d<;>exact h) ?_
   repeat(refine Jf (v:=?_) g7 rfl rfl (fun w' hg=>?_) (fun K hK=>?_);rotate_left;(go_simp;rfl);go_simp;refine hK _ _ ?_;clear hK K)
   refine Jj rfl rfl (fun K hK=>?_)
   go_simp
   refine(S2 _ _ _ _ n' _ lb (Q * y) (by rw[M5,Hy.out]) (Hr7.out.grow g7) (HB0.out.grow ((HW.out.trans HG7.out).trans g7)) (Nat.le_trans HLq.out (by omega)) (by omega)).mono ?_
   rintro _ w8 ⟨r8,rfl,g8,hr8⟩
   refine⟨fun _=>g8,hK _ _ ?_⟩
   clear hK K
   have G8:=ξ (g7.trans g8)
   have Hr8:=ξ hr8
   clear g8 hr8
   refine Jj rfl rfl (fun K hK=>?_)
   go_simp
   refine(S3 _ _ _ n _ la _ (x - Q * y) (by rw[M5,Hx.out]) (HA0.out.grow ((HW.out.trans HG7.out).trans G8.out)) Hr8.out (by omega) (Nat.le_trans HLp.out (by omega))).mono ?_
   rintro _ w9 ⟨r9,rfl,g9,hr9⟩
   refine⟨fun _=>g9,hK _ _ ?_⟩
   clear hK K
   obtain⟨p9,k9,c9,rfl,hr9⟩:=hr9
   have G9:=ξ (G8.out.trans g9)
   have Hr9:=ξ hr9
   have Hq9:=ξ (Hr7.out.grow G9.out)
   obtain⟨s9,hs9⟩:∃ s9,decide (x - Q * y < 0)=s9:=⟨_,rfl⟩
   rw[hs9]
   have Hs9:=ξ hs9
   have tr:=HTR.out.grow (HG7.out.trans G9.out)
   have tq:=HTQ.out.grow (HG7.out.trans G9.out)
   have TW:=Rc (s:=sg) (s':=s9) (p:=p6) (k:=k6) (c:=c6) (p':=p9) (k':=k9) (c':=c9) tr tq
   have f0:=tr.f0 0
   have f1:=tr.f0 1
   have f2:=tq.f0 0
   have f3:=tq.f0 1
   have r0:=tr.load.1
   have r1:=tr.load.2
   have u0:=tq.load.1
   have u1:=tq.load.2
   have gend:Gr W7 w9:=G9.out
   clear g9 hr9 a0 a1 b0 b1 q0 q1' g7 hs9 tr tq
   refine Jj rfl rfl (fun K hK=>?_)
   go_simp
   refine⟨fun h=>Bool.noConfusion h,hK _ _ ?_⟩
   clear hK K
   refine Jj rfl rfl (fun K hK=>?_)
   go_simp
   refine⟨fun h=>Bool.noConfusion h,hK _ _ ?_⟩
   clear hK K
   generalize (((w9.setCell _ _).setCell _ _).setCell _ _).setCell _ _=W10 at TW ⊢
   obtain⟨t1,t2,hkeep,hown⟩:=TW
   have x0:=t1.load.1
   have x1:=t1.load.2
   have y0:=t2.load.1
   have y1:=t2.load.2
   have gx:Gr W10 W10:=Gr.refl W10
   clear f0 f1 f2 f3 r0 r1 u0 u1 t1 t2
   repeat(refine Jf (v:=?_) gx rfl rfl (fun w' hg=>?_) (fun K hK=>?_);rotate_left;(go_simp;rfl);go_simp;refine hK _ _ ?_;clear hK K)
   refine Ji ?_
   go_wp2_with fail
   refine bodyPost_ret (v:=.tuple #[.agg #[.bool sg,.slice p6 k6 c6],.agg #[.bool s9,.slice p9 k9 c9],.int .i64 0]) (by simp[results,Tryz.results247,go_sem,x0,x1,y0,y1]) rfl ?_
   refine⟨_,rfl,Below.trans (HW.out.trans (HG7.out.trans G9.out)) (Below.mono hown (by omega)),_,_,rfl,?_,?_⟩
   ·obtain⟨pp,kk,cc,he,hn⟩:=Hq9.out
    cases he
    rw[IntC,Hsg.out]
    exact⟨_,_,_,rfl,hkeep _ _ hn⟩
   ·rw[IntC,Hs9.out]
    exact⟨_,_,_,rfl,hkeep _ _ Hr9.out⟩
end Go.Proofs.YtcjgimlcefhhmaaGreatDoor

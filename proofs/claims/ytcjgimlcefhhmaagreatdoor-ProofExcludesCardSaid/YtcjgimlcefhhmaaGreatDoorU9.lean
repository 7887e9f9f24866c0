/- Texts: IntH IntI Rat PrS. -/
import Derived.Test.YtcjgimlcefhhmaaGreatDoorU1
import Derived.Test.YtcjgimlcefhhmaaGreatDoorU8
set_option linter.unusedVariables false
set_option linter.unusedSimpArgs false
set_option maxRecDepth 100000
set_option maxHeartbeats 12800000
namespace Go.Proofs.YtcjgimlcefhhmaaGreatDoor
open Go.RowKit
theorem J3u (w:World)(va vb:Value)(n n':Bool)(la lb:List Nat)(x y Q R:Int)(hx:zval n la=x)(hy:zval n' lb=y)(hQ:quoZ false x y=Q)(hR:x - Q * y=R)
  (ha:IntL w va n la) (hb:IntL w vb n' lb) (hla:la.length≤274877906944) (hlb:lb.length≤274877906944) (h0:y≠0):
  Calls Tryz.prog 203 #[va,vb] w (Ret w fun r w'=>∃ q s,r = .tuple #[q,s,.int .i64 0]∧IntC w' q Q∧IntC w' s R):=by
 have HA0:=ξ ha
 have HB0:=ξ hb
 have H0:=ξ h0
 have Hx:=ξ hx
 have Hy:=ξ hy
 have HQ:=ξ hQ
 have HR:=ξ hR
 obtain⟨pa,ka,ca,rfl,ha⟩:=ha
 obtain⟨pb,kb,cb,rfl,hb⟩:=hb
 clear ha hb h0 hx hy hQ hR
 have B4:=boxed4 w (.bool n) (.slice pa ka ca) (.bool n') (.slice pb kb cb) (.bool false) (.slice none 0 0) (.bool false) (.slice none 0 0) 66 66 66 66
 go_enter Tryz.func203,Tryz.ntmps203
 go_wp2_with fail
 generalize (((w.alloc _).alloc _).alloc _).alloc _=W at B4 ⊢
 obtain⟨G0,ta,tb,tr,tq⟩:=B4
 have HW:=ξ G0
 refine(Ye _ _ _ n n' la lb false 248 (.inl ⟨rfl,rfl⟩) x y Hx.out Hy.out (HA0.out.grow HW.out) (HB0.out.grow HW.out) hla hlb H0.out).mono ?_
 rintro _ w9 ⟨_,rfl,g9,q,s,rfl,hq,hs⟩
 rw[HQ.out] at hq hs
 rw[HR.out] at hs
 have G9:=ξ g9
 obtain⟨p6,k6,c6,rfl,hq⟩:=hq
 obtain⟨p9,k9,c9,rfl,hs⟩:=hs
 have Hq:=ξ hq
 have Hs:=ξ hs
 obtain⟨sg,hsg⟩:∃ sg,decide (Q < 0)=sg:=⟨_,rfl⟩
 obtain⟨s9,hs9⟩:∃ s9,decide (R < 0)=s9:=⟨_,rfl⟩
 rw[hsg,hs9]
 have Hsg:=ξ hsg
 have Hs9:=ξ hs9
 have tr:=tr.grow g9
 have tq:=tq.grow g9
 have TW:=Rc (s:=sg) (s':=s9) (p:=p6) (k:=k6) (c:=c6) (p':=p9) (k':=k9) (c':=c9) tr tq
 have f0:=tr.f0 0
 have f1:=tr.f0 1
 have f2:=tq.f0 0
 have f3:=tq.f0 1
 have r0:=tr.load.1
 have r1:=tr.load.2
 have u0:=tq.load.1
 have u1:=tq.load.2
 clear G0 ta tb tr tq g9 hq hs hsg hs9
 go_wp2_with fail
 generalize (((w9.setCell _ _).setCell _ _).setCell _ _).setCell _ _=W10 at TW ⊢
 obtain⟨t1,t2,hkeep,hown⟩:=TW
 have x0:=t1.load.1
 have x1:=t1.load.2
 have y0:=t2.load.1
 have y1:=t2.load.2
 refine bodyPost_ret (v:=.tuple #[.agg #[.bool sg,.slice p6 k6 c6],.agg #[.bool s9,.slice p9 k9 c9],.int .i64 0]) (by simp[results,Tryz.results203,go_sem,x0,x1,y0,y1]) rfl ?_
 refine⟨_,rfl,Below.trans (HW.out.trans G9.out) (Below.mono hown (by omega)),_,_,rfl,?_,?_⟩
 ·rw[IntC,Hsg.out]
  exact⟨_,_,_,rfl,hkeep _ _ Hq.out⟩
 ·rw[IntC,Hs9.out]
  exact⟨_,_,_,rfl,hkeep _ _ Hs.out⟩
theorem J3r (w:World)(va vb:Value)(n n':Bool)(la lb:List Nat)(x y Q R:Int)(hx:zval n la=x)(hy:zval n' lb=y)(hQ:quoZ true x y=Q)(hR:x - Q * y=R)
  (ha:IntL w va n la) (hb:IntL w vb n' lb) (hla:la.length≤274877906944) (hlb:lb.length≤274877906944) (h0:y≠0):
  Calls Tryz.prog 286 #[va,vb] w (Ret w fun r w'=>∃ q s,r = .tuple #[q,s,.int .i64 0]∧IntC w' q Q∧IntC w' s R):=by
 have HA0:=ξ ha
 have HB0:=ξ hb
 have H0:=ξ h0
 have Hx:=ξ hx
 have Hy:=ξ hy
 have HQ:=ξ hQ
 have HR:=ξ hR
 obtain⟨pa,ka,ca,rfl,ha⟩:=ha
 obtain⟨pb,kb,cb,rfl,hb⟩:=hb
 clear ha hb h0 hx hy hQ hR
 have B4:=boxed4 w (.bool n) (.slice pa ka ca) (.bool n') (.slice pb kb cb) (.bool false) (.slice none 0 0) (.bool false) (.slice none 0 0) 66 66 66 66
 go_enter Tryz.func286,Tryz.ntmps286
 go_wp2_with fail
 generalize (((w.alloc _).alloc _).alloc _).alloc _=W at B4 ⊢
 obtain⟨G0,ta,tb,tr,tq⟩:=B4
 have HW:=ξ G0
 refine(Ye _ _ _ n n' la lb true 293 (.inr ⟨rfl,rfl⟩) x y Hx.out Hy.out (HA0.out.grow HW.out) (HB0.out.grow HW.out) hla hlb H0.out).mono ?_
 rintro _ w9 ⟨_,rfl,g9,q,s,rfl,hq,hs⟩
 rw[HQ.out] at hq hs
 rw[HR.out] at hs
 have G9:=ξ g9
 obtain⟨p6,k6,c6,rfl,hq⟩:=hq
 obtain⟨p9,k9,c9,rfl,hs⟩:=hs
 have Hq:=ξ hq
 have Hs:=ξ hs
 obtain⟨sg,hsg⟩:∃ sg,decide (Q < 0)=sg:=⟨_,rfl⟩
 obtain⟨s9,hs9⟩:∃ s9,decide (R < 0)=s9:=⟨_,rfl⟩
 rw[hsg,hs9]
 have Hsg:=ξ hsg
 have Hs9:=ξ hs9
 have tr:=tr.grow g9
 have tq:=tq.grow g9
 have TW:=Rc (s:=sg) (s':=s9) (p:=p6) (k:=k6) (c:=c6) (p':=p9) (k':=k9) (c':=c9) tr tq
 have f0:=tr.f0 0
 have f1:=tr.f0 1
 have f2:=tq.f0 0
 have f3:=tq.f0 1
 have r0:=tr.load.1
 have r1:=tr.load.2
 have u0:=tq.load.1
 have u1:=tq.load.2
 clear G0 ta tb tr tq g9 hq hs hsg hs9
 go_wp2_with fail
 generalize (((w9.setCell _ _).setCell _ _).setCell _ _).setCell _ _=W10 at TW ⊢
 obtain⟨t1,t2,hkeep,hown⟩:=TW
 have x0:=t1.load.1
 have x1:=t1.load.2
 have y0:=t2.load.1
 have y1:=t2.load.2
 refine bodyPost_ret (v:=.tuple #[.agg #[.bool sg,.slice p6 k6 c6],.agg #[.bool s9,.slice p9 k9 c9],.int .i64 0]) (by simp[results,Tryz.results286,go_sem,x0,x1,y0,y1]) rfl ?_
 refine⟨_,rfl,Below.trans (HW.out.trans G9.out) (Below.mono hown (by omega)),_,_,rfl,?_,?_⟩
 ·rw[IntC,Hsg.out]
  exact⟨_,_,_,rfl,hkeep _ _ Hq.out⟩
 ·rw[IntC,Hs9.out]
  exact⟨_,_,_,rfl,hkeep _ _ Hs.out⟩
theorem J4j {m:List Nat}(h:m.length≤2):gd m 1 * BB+gd m 0=nval m:=by
 match m,h with
 | [],_=>rfl
 | [a],_=>simp[gd,nval]
 | [a,b],_=>simp[gd,nval];rw[Nat.mul_comm];omega
theorem Ti (w:World)(v:Value)(l:List Nat)(t:Bool)(h:NatL w v l)(ht:decide ((digs (nval l)).length≤2)=t):
  Calls Tryz.prog 273 #[v] w fun e w'=>e = .returned (.tuple #[.int .u64 (if t then nval l else 0),.bool t])∧w=w':=by
 have HA:=ξ h
 have HT:=ξ ht
 clear h ht
 go_enter Tryz.func273,Tryz.ntmps273
 go_wp2_with fail
 refine(Lg _ v l HA.out).mono ?_
 rintro _ _ ⟨⟨p,k,rfl,hm⟩,rfl⟩
 have hk:=hm.len
 obtain⟨m,hmm⟩:∃ m,trimL l=m:=⟨_,rfl⟩
 rw[hmm] at hm hk
 have hm2:digs (nval l)=m:=by rw[← K7];exact hmm
 have hv:nval m=nval l:=by rw[← hm2,Je]
 have HM:=ξ hm
 have HV:=ξ hv
 have HT2:=ξ (show decide (m.length≤2)=t by rw[← hm2];exact HT.out)
 have Hk:=ξ hk
 clear hm hv hm2 hmm hk
 obtain⟨j,rfl⟩:∃ j:Nat,k=j:=⟨k,rfl⟩
 by_cases hj:k≤2
 ·have h2:t=true:=by rw[← HT2.out];exact decide_eq_true (by rw[Hk.out];exact hj)
  subst h2
  have g1:=HM.out.dig.gd 1
  have g0:=HM.out.dig.gd 0
  have hor:=Pf g1 g0
  rw[J4j (by rw[Hk.out];exact hj),HV.out] at hor
  rw[Jc] at g0 g1
  go_wp2_with fail
  refine(L4 _ _ m 1 HM.out (by decide)).mono ?_
  rintro _ _ ⟨rfl,rfl⟩
  go_wp2_with fail
  refine(L4 _ _ m 0 HM.out (by decide)).mono ?_
  rintro _ _ ⟨rfl,rfl⟩
  go_wp2_with fail
  go_ret2
  exact⟨by simp,rfl⟩
 ·have h2:t=false:=by rw[← HT2.out];exact decide_eq_false (by rw[Hk.out];exact hj)
  subst h2
  go_wp2_with fail
  go_ret2
  exact⟨by simp,rfl⟩
theorem N3 {v:Nat}:(digs v).length≤2↔v < 18446744073709551616:=by
 have e:BB ^ 2=18446744073709551616:=by decide
 rw[← e]
 exact⟨Kl,Kf⟩
def fits (z:Int):Bool:=decide (-9223372036854775808≤z∧z < 9223372036854775808)
theorem J6U {u:Int}(h0:0≤u)(h:u≤9223372036854775808):wrap64 (IntKind.u64.wrap (-u)) = -u:=by
 rw[IntKind.wrap_u64];unfold wrap64;omega
theorem J3s (w:World)(va:Value)(n:Bool)(la:List Nat)(z:Int)(t:Bool)(hz:zval n la=z)(ht:fits z=t)(ha:IntL w va n la):
  Calls Tryz.prog 292 #[va] w (Ret w fun r _=>r = .tuple #[.int .i64 (if t then z else 0),.bool t]):=by
 obtain⟨pa,ka,ca,rfl,ha⟩:=ha
 have HA:=ξ ha
 have HZ:=ξ hz
 have HT:=ξ ht
 have B:=boxed1 w (.bool n) (.slice pa ka ca) 66
 clear ha hz ht
 go_enter Tryz.func292,Tryz.ntmps292
 go_wp2_with fail
 generalize w.alloc _=W at B ⊢
 obtain⟨G0,ta⟩:=B
 generalize w.heap.size=b0 at ta ⊢
 have HW:=ξ G0
 have T0:=ξ ta
 have c0:=ta.c0 W (Gr.refl _)
 have c1:=ta.c1 W (Gr.refl _)
 clear ta G0
 go_wp2_with fail
 obtain⟨s,hs⟩:∃ s,decide ((digs (nval la)).length≤2)=s:=⟨_,rfl⟩
 have HS:=ξ hs
 refine(Ti _ _ la s (HA.out.grow HW.out) hs).mono ?_
 rintro _ _ ⟨rfl,rfl⟩
 clear hs
 have hz:=HZ.out
 unfold zval at hz
 have hs:=HS.out
 cases s
 ·have h2:¬ nval la < 18446744073709551616:=by
   rw[← N3];exact of_decide_eq_false hs
  have ht:t=false:=by
   rw[← HT.out]
   unfold fits
   refine decide_eq_false ?_
   cases n<;>simp at hz<;>omega
  subst ht
  clear hz hs h2
  go_wp2_with fail
  go_ret2
  exact⟨_,rfl,HW.out,by simp⟩
 ·have h2:nval la < 18446744073709551616:=by
   rw[← N3];exact of_decide_eq_true hs
  clear hs
  obtain⟨u,hu⟩:∃ u:Int,((nval la:Nat):Int)=u:=⟨_,rfl⟩
  have h0:0≤u:=by omega
  have h2:u < 18446744073709551616:=by omega
  simp only[hu,if_true] at hz ⊢
  clear hu
  cases n
  ·simp only[Bool.false_eq_true,if_false] at hz
   by_cases h3:u < 9223372036854775808
   ·have ht:t=true:=by rw[← HT.out];unfold fits;exact decide_eq_true (by omega)
    subst ht
    subst hz
    go_wp2_with fail
    go_ret2
    exact⟨_,rfl,HW.out,by simp⟩
   ·have ht:t=false:=by rw[← HT.out];unfold fits;exact decide_eq_false (by omega)
    subst ht
    subst hz
    go_wp2_with fail
    go_ret2
    exact⟨_,rfl,HW.out,by simp⟩
  ·simp only[if_true] at hz
   by_cases h3:u≤9223372036854775808
   ·have ht:t=true:=by rw[← HT.out];unfold fits;exact decide_eq_true (by omega)
    subst ht
    subst hz
    have E:=J6U h0 h3
    go_wp2_with fail
    go_ret2
    exact⟨_,rfl,HW.out,by simp[E]⟩
   ·have ht:t=false:=by rw[← HT.out];unfold fits;exact decide_eq_false (by omega)
    subst ht
    subst hz
    go_wp2_with fail
    go_ret2
    exact⟨_,rfl,HW.out,by simp⟩
def denV (d:List Nat):Nat:=if nval d=0 then 1 else nval d
def dd (k:Nat):List Nat:=if k=1 then [] else digs k
def ratv (n:Bool)(l d:List Nat):Rat:=mkRat (zval n l) (denV d)
def cmpQ (x y:Rat):Int:=if x < y then -1 else if x=y then 0 else 1
def Sz (L:Nat)(x:Rat):Prop:=(digs x.num.natAbs).length≤L∧(digs x.den).length≤L
theorem Sc (d:List Nat):denV d≠0:=by unfold denV;split<;>omega
theorem J2g:denV []=1:=rfl
theorem Sb {k:Nat}(h:k≠0):denV (dd k)=k:=by
 unfold dd
 by_cases h1:k=1
 ·rw[if_pos h1,h1];rfl
 ·rw[if_neg h1]
  unfold denV
  rw[Je,if_neg h]
theorem J2c {j k:Nat}(hj:j≠0)(hk:k≠0)(h:dd j=dd k):j=k:=by
 rw[← Sb hj,← Sb hk,h]
theorem Uz (z:Int):zval (decide (z < 0)) (digs z.natAbs)=z:=by
 unfold zval
 rw[Je]
 split<;>rename_i h<;>simp at h<;>omega
theorem J0c (x:Rat):ratv (decide (x.num < 0)) (digs x.num.natAbs) (dd x.den)=x:=by
 unfold ratv
 rw[Uz,Sb x.den_nz,Rat.mkRat_self]
theorem Vy {k L:Nat}(h:(digs k).length≤L):(dd k).length≤L:=by
 unfold dd
 split
 ·exact Nat.zero_le _
 ·exact h
theorem J2b (k:Nat):Dig (dd k):=by
 unfold dd
 split
 ·exact fun x hx=>by cases hx
 ·exact Dig.digs k
theorem Po (z:Int)(d:Nat)(hd:d≠0):(mkRat z d).num=z / (Nat.gcd z.natAbs d:Nat):=by
 rw[Rat.num_mkRat,if_neg hd,Nat.gcd_comm]
theorem N7 (z:Int)(d:Nat)(hd:d≠0):(mkRat z d).den=d / Nat.gcd z.natAbs d:=by
 rw[Rat.den_mkRat,if_neg hd,Nat.gcd_comm]
theorem S9 (z:Int)(d:Nat)(hd:d≠0):(mkRat z d).num.natAbs=z.natAbs / Nat.gcd z.natAbs d:=by
 rw[Po z d hd]
 have h1:Nat.gcd z.natAbs d ∣ z.natAbs:=Nat.gcd_dvd_left _ _
 have hg:0 < Nat.gcd z.natAbs d:=Nat.gcd_pos_of_pos_right _ (by omega)
 obtain⟨k,hk⟩:=h1
 generalize Nat.gcd z.natAbs d=g at hk hg ⊢
 rw[hk,Nat.mul_div_cancel_left _ hg]
 have h2:z=g * (if z < 0 then -(k:Int) else k):=by
  split
  ·have:z = -(z.natAbs:Int):=by omega
   rw[this,hk];simp[Int.mul_neg]
  ·have:z=(z.natAbs:Int):=by omega
   rw[this,hk];simp
 have h3:z / (g:Int)=if z < 0 then -(k:Int) else k:=by
  conv=>lhs;rw[h2]
  exact Int.mul_ediv_cancel_left _ (by omega)
 rw[h3]
 split<;>omega
theorem Ta (z:Int)(d:Nat)(hd:d≠0):((mkRat z d).num < 0)↔z < 0:=by
 have hg:0 < Nat.gcd z.natAbs d:=Nat.gcd_pos_of_pos_right _ (by omega)
 obtain⟨k,hk⟩:(Nat.gcd z.natAbs d:Int) ∣ z:=Int.ofNat_dvd_left.2 (Nat.gcd_dvd_left _ _)
 rw[Po z d hd]
 generalize Nat.gcd z.natAbs d=g at hk hg ⊢
 subst hk
 rw[Int.mul_ediv_cancel_left _ (by omega)]
 constructor
 ·intro h
  exact Int.mul_neg_of_pos_of_neg (by omega) h
 ·intro h
  by_cases hk:k < 0
  ·exact hk
  ·have:=Int.mul_nonneg (a:=(g:Int)) (b:=k) (by omega) (by omega)
   omega
theorem J03 (z:Int)(d:Nat)(hd:d≠0):quoZ false z (Nat.gcd z.natAbs d:Nat)=(mkRat z d).num:=by
 have hg:0 < Nat.gcd z.natAbs d:=Nat.gcd_pos_of_pos_right _ (by omega)
 have h1:=S9 z d hd
 have h2:=Ta z d hd
 have h3:Nat.gcd z.natAbs d ∣ z.natAbs:=Nat.gcd_dvd_left _ _
 generalize Nat.gcd z.natAbs d=g at h1 hg h3 ⊢
 unfold quoZ
 have hs:(sgn z * sgn (g:Int) < 0)↔z < 0:=by
  have:sgn (g:Int)=1:=by unfold sgn;rw[if_neg (by omega),if_neg (by omega)]
  rw[this]
  unfold sgn
  split
  ·simp;omega
  ·split<;>simp<;>omega
 simp only[Bool.false_and,Int.natAbs_natCast,Bool.false_eq_true,if_false,Nat.add_zero]
 rw[← h1]
 by_cases hz:z < 0
 ·rw[if_pos (hs.2 hz)]
  have:=h2.2 hz
  omega
 ·rw[if_neg (fun h=>hz (hs.1 h))]
  have:=fun h=>hz (h2.1 h)
  omega
theorem J04 (z:Int)(d:Nat)(hd:d≠0):quoZ false (d:Int) (Nat.gcd z.natAbs d:Nat)=((mkRat z d).den:Int):=by
 have hg:0 < Nat.gcd z.natAbs d:=Nat.gcd_pos_of_pos_right _ (by omega)
 rw[N7 z d hd]
 generalize Nat.gcd z.natAbs d=g at hg ⊢
 unfold quoZ
 have hs:¬ (sgn (d:Int) * sgn (g:Int) < 0):=by
  have h1:sgn (g:Int)=1:=by unfold sgn;rw[if_neg (by omega),if_neg (by omega)]
  have h2:sgn (d:Int)=1:=by unfold sgn;rw[if_neg (by omega),if_neg (by omega)]
  rw[h1,h2];decide
 simp only[Bool.false_and,Int.natAbs_natCast,Bool.false_eq_true,if_false,Nat.add_zero]
 rw[if_neg hs]
theorem Yx (z:Int)(d:Nat):mkRat (-z) d = -mkRat z d:=(Rat.neg_mkRat z d).symm
theorem J2q {a b:Int}(h:0 < b):Rat.divInt a b=mkRat a b.natAbs:=by
 rw[← Rat.divInt_ofNat]
 congr 1
 omega
theorem J2p {a b:Int}(h:b < 0):Rat.divInt a b=mkRat (-a) b.natAbs:=by
 rw[← Rat.divInt_ofNat,← Rat.neg_divInt_neg]
 congr 1
 omega
theorem Ve (p r:Int){q s:Nat}(hq:q≠0)(hs:s≠0):mkRat p q+mkRat r s=mkRat (p * s+r * q) (q * s):=Rat.mkRat_add_mkRat p r hq hs
theorem Y4 (p r:Int)(q s:Nat):mkRat p q * mkRat r s=mkRat (p * r) (q * s):=Rat.mkRat_mul_mkRat p r q s
theorem J3T (p r:Int){q s:Nat}(hq:q≠0)(hs:s≠0):mkRat p q < mkRat r s↔p * s < r * q:=by
 rw[Rat.mkRat_eq_div,Rat.mkRat_eq_div]
 have h1:(0:Rat) < (q:Rat):=Rat.natCast_pos.2 (by omega)
 have h2:(0:Rat) < (s:Rat):=Rat.natCast_pos.2 (by omega)
 rw[Rat.div_lt_iff h1,show(r:Rat) / s * q=(r * q) / s by grind,Rat.lt_div_iff h2]
 rw[← Rat.intCast_natCast s,← Rat.intCast_natCast q,← Rat.intCast_mul,← Rat.intCast_mul,Rat.intCast_lt_intCast]
theorem J2H (p r:Int){q s:Nat}(hq:q≠0)(hs:s≠0):mkRat p q=mkRat r s↔p * s=r * q:=Rat.mkRat_eq_iff hq hs
theorem J21 (p r:Int){q s:Nat}(hq:q≠0)(hs:s≠0):cmpZ (p * s) (r * q)=cmpQ (mkRat p q) (mkRat r s):=by
 unfold cmpZ cmpQ
 simp only[J3T p r hq hs,J2H p r hq hs]
theorem J0u (p:Int){q:Nat}(hq:q≠0):sgn p=sgn (mkRat p q).num:=by
 have h:=Ta p q hq
 have h2:(mkRat p q).num=0↔p=0:=by rw[Rat.num_eq_zero,Rat.mkRat_eq_zero hq]
 unfold sgn
 simp only[h,h2]
theorem J0t (x y:Rat):sgn (x - y).num=cmpQ x y:=by
 unfold sgn cmpQ
 have h1:(x - y).num < 0↔x < y:=by
  rw[← Int.not_le,Rat.num_nonneg,← Rat.le_iff_sub_nonneg,Rat.not_le]
 have h2:(x - y).num=0↔x=y:=by
  rw[Rat.num_eq_zero]
  constructor
  ·intro h;grind
  ·intro h;subst h;grind
 simp only[h1,h2]
theorem J2Y (p:Int){q:Nat}(hq:q≠0):p / (q:Int)=(mkRat p q).floor:=by
 rw[Rat.floor_def]
 obtain⟨g,hg,h1,h2⟩:∃ g:Nat,g≠0∧p=(mkRat p q).num * g∧q=(mkRat p q).den * g:=by
  rw[← Rat.normalize_eq_mkRat hq]
  exact Rat.normalize_num_den' p q hq
 generalize mkRat p q=x at h1 h2 ⊢
 rw[h1,h2,Int.natCast_mul,Int.mul_ediv_mul_of_pos_left _ _ (by omega)]
theorem S8 (p:Int){q:Nat}(hq:q≠0):(mkRat p q).num.natAbs≤p.natAbs∧(mkRat p q).den≤q:=by
 rw[S9 p q hq,N7 p q hq]
 exact⟨Nat.div_le_self _ _,Nat.div_le_self _ _⟩
theorem Ul {p:Int}{q L:Nat}(hq:q≠0)(h1:(digs p.natAbs).length≤L)(h2:(digs q).length≤L):Sz L (mkRat p q):=by
 obtain⟨k1,k2⟩:=S8 p hq
 exact⟨Nat.le_trans (Kn k1) h1,Nat.le_trans (Kn k2) h2⟩
theorem Sz.mono {L M:Nat}{x:Rat}(h:Sz L x)(hM:L≤M):Sz M x:=⟨Nat.le_trans h.1 hM,Nat.le_trans h.2 hM⟩
theorem Oe {L:Nat}{x:Rat}(h:Sz L x):Sz L (-x):=by
 refine⟨?_,h.2⟩
 rw[show(-x).num = -x.num from rfl,Int.natAbs_neg]
 exact h.1
theorem J2n {k L:Nat}(hk:k≠0)(h:(digs k).length≤L):1≤L:=by
 cases L with
 | zero=>exact absurd (J7.1 (List.eq_nil_of_length_eq_zero (Nat.le_zero.1 h))) hk
 | succ n=>omega
theorem J6d {L M:Nat}{x y:Rat}(hx:Sz L x)(hy:Sz M y):Sz (L+M+1) (x+y):=by
 rw[Rat.add_def']
 refine Ul (Nat.mul_ne_zero x.den_nz y.den_nz) ?_ ?_
 ·refine Nat.le_trans (Kn (b:=x.num.natAbs * y.den+y.num.natAbs * x.den) ?_) (N1 (k:=L+M) (N2 hx.1 hy.2) ?_)
  ·refine Nat.le_trans (Int.natAbs_add_le _ _) ?_
   rw[Int.natAbs_mul,Int.natAbs_mul,Int.natAbs_natCast,Int.natAbs_natCast]
   exact Nat.le_refl _
  ·rw[Nat.add_comm L M];exact N2 hy.1 hx.2
 ·exact Nat.le_succ_of_le (N2 hx.2 hy.2)
theorem J6e {L M:Nat}{x y:Rat}(hx:Sz L x)(hy:Sz M y):Sz (L+M+1) (x - y):=by
 rw[Rat.sub_eq_add_neg]
 exact J6d hx (Oe hy)
theorem Nq {L:Nat}{z:Int}(h:(digs z.natAbs).length≤L)(hL:1≤L):Sz L (z:Rat):=by
 refine⟨h,?_⟩
 rw[Rat.den_intCast]
 exact Nat.le_trans (by decide +kernel) hL
theorem Qt (z:Int):mkRat z 1=(z:Rat):=by
 rw[Rat.mkRat_eq_div]
 grind
end Go.Proofs.YtcjgimlcefhhmaaGreatDoor
namespace Go.Proofs.YtcjgimlcefhhmaaGreatDoor
namespace Prf
def OnD (D K:Nat)(x:Rat):Prop:=∃ z:Int,x * ((D:Int):Rat)=(z:Rat)∧z.natAbs≤K
theorem OnD.mono {D K K':Nat}{x:Rat}(h:OnD D K x)(hk:K≤K'):OnD D K' x:=by
 obtain⟨z,h1,h2⟩:=h
 exact⟨z,h1,by omega⟩
theorem Oc (D K:Nat):OnD D K 0:=⟨0,by grind,by omega⟩
theorem Qy {D K M:Nat}{x y:Rat}(hx:OnD D K x)(hy:OnD D M y):OnD D (K+M) (x+y):=by
 obtain⟨z,h1,h2⟩:=hx
 obtain⟨u,h3,h4⟩:=hy
 exact⟨z+u,by rw[Rat.intCast_add,← h1,← h3];grind,by omega⟩
theorem Zs {D K:Nat}{x:Rat}(hx:OnD D K x):OnD D K (-x):=by
 obtain⟨z,h1,h2⟩:=hx
 exact⟨-z,by rw[Rat.intCast_neg,← h1];grind,by omega⟩
theorem J4q {D K M:Nat}{x y:Rat}(hx:OnD D K x)(hy:OnD D M y):OnD D (K+M) (x - y):=by
 rw[Rat.sub_eq_add_neg];exact Qy hx (Zs hy)
theorem Ob {D K:Nat}{x:Rat}{n:Int}{N:Nat}(hn:n.natAbs≤N)(hx:OnD D K x):OnD D (N * K) ((n:Rat) * x):=by
 obtain⟨z,h1,h2⟩:=hx
 exact⟨n * z,by rw[Rat.intCast_mul,← h1];grind,by rw[Int.natAbs_mul];exact Nat.mul_le_mul hn h2⟩
theorem J4r (D:Nat){n:Int}{N:Nat}(hn:n.natAbs≤N):OnD D (N * D) (n:Rat):=
 ⟨n * (D:Int),by rw[Rat.intCast_mul],by rw[Int.natAbs_mul,Int.natAbs_natCast];exact Nat.mul_le_mul hn (Nat.le_refl _)⟩
theorem OnD.sz {D K L:Nat}{x:Rat}(h:OnD D K x)(h0:D≠0)(hD:D < BB ^ L)(hK:K < BB ^ L):Sz L x:=by
 obtain⟨z,h1,h2⟩:=h
 have hD0:((D:Int):Rat)≠0:=by
  intro h
  exact h0 (by simpa using h)
 have e:x=mkRat z D:=by
  rw[Rat.mkRat_eq_div,← h1]
  have:((D:Nat):Rat)=((D:Int):Rat):=(Rat.intCast_natCast D).symm
  grind
 rw[e]
 exact Ul h0 (Kf (by omega)) (Kf hD)
def prodD:List Rat→Nat
 | []=>1
 | x :: l=>x.den * prodD l
theorem Z4:∀ l,prodD l≠0
 | []=>by decide
 | x :: l=>Nat.mul_ne_zero x.den_nz (Z4 l)
theorem Z3 {B:Nat}(hB:0 < B):∀ (l:List Rat),(∀ x ∈ l,x.den≤B)→prodD l≤B ^ l.length
 | [],_=>by simp[prodD]
 | x :: l,h=>by
  have i:=Z3 hB l (fun y hy=>h y (List.mem_cons_of_mem _ hy))
  have:=h x (List.mem_cons_self ..)
  rw[List.length_cons,Nat.pow_succ]
  show x.den * prodD l≤_
  rw[Nat.mul_comm]
  exact Nat.mul_le_mul i this
theorem Z2:∀ (l:List Rat) (x:Rat),x ∈ l→x.den ∣ prodD l
 | y :: l,x,h=>by
  rcases List.mem_cons.1 h with rfl|h
  ·exact Nat.dvd_mul_right _ _
  ·exact Nat.dvd_trans (Z2 l x h) (Nat.dvd_mul_left _ _)
theorem J4p {D M:Nat}{x:Rat}(h:x.den ∣ D)(hn:x.num.natAbs≤M):OnD D (M * D) x:=by
 obtain⟨k,rfl⟩:=h
 refine⟨x.num * k,?_,?_⟩
 ·rw[Int.natCast_mul,Rat.intCast_mul,Rat.intCast_mul]
  have:x * ((x.den:Int):Rat)=(x.num:Rat):=by
   have h1:=Rat.num_divInt_den x
   rw[Rat.intCast_natCast]
   have h2:(x.den:Rat)≠0:=by simpa using x.den_nz
   have h3:x=(x.num:Rat) / (x.den:Rat):=by
    conv=>lhs;rw[← Rat.mkRat_self x,Rat.mkRat_eq_div]
   grind
  rw[← Rat.mul_assoc,this]
 ·rw[Int.natAbs_mul,Int.natAbs_natCast]
  refine Nat.mul_le_mul hn ?_
  exact Nat.le_mul_of_pos_left _ (Nat.pos_of_ne_zero x.den_nz)
theorem J1z (y:List Rat)(i:Nat):atQ y i=0∨atQ y i ∈ y:=by
 unfold atQ
 cases h:y[i]? with
 | none=>exact .inl rfl
 | some x=>exact .inr (List.mem_of_getElem? h)
theorem Yu {n k:Nat}(h:(digs n).length≤k):n < BB ^ k:=by
 rcases Nat.lt_or_ge n (BB ^ k) with h'|h'
 ·exact h'
 ·exfalso
  have h1:=Kn h'
  have h2:(digs (BB ^ k)).length=k+1:=V7 (Nat.le_refl _) (Nat.pow_lt_pow_right (by decide) (by omega))
  omega
theorem common {y:List Rat}(hy:∀ x ∈ y,Sz 4 x)(hl:y.length≤16):∃ D U:Nat,D≠0∧D≤U∧U≤BB ^ 68∧D≤BB ^ 64∧∀ i,OnD D U (atQ y i):=by
 have hB:0 < BB ^ 4:=Nat.pow_pos (by decide)
 have h1:prodD y≤(BB ^ 4) ^ y.length:=Z3 hB y fun x hx=>Nat.le_of_lt (Yu (hy x hx).2)
 have h2:(BB ^ 4) ^ y.length≤(BB ^ 4) ^ 16:=Nat.pow_le_pow_right hB hl
 have h3:(BB ^ 4) ^ 16=BB ^ 64:=(Nat.pow_mul BB 4 16).symm
 have h4:BB ^ 68=BB ^ 4 * BB ^ 64:=Nat.pow_add BB 4 64
 have hn:=fun x (hx:x ∈ y)=>Nat.le_of_lt (Yu (hy x hx).1)
 refine⟨prodD y,BB ^ 4 * prodD y,Z4 y,Nat.le_mul_of_pos_left _ hB,?_,h3 ▸ Nat.le_trans h1 h2,fun i=>?_⟩
 ·rw[h4];exact Nat.mul_le_mul (Nat.le_refl _) (h3 ▸ Nat.le_trans h1 h2)
 ·rcases J1z y i with h|h
  ·rw[h];exact Oc _ _
  ·exact J4p (Z2 y _ h) (hn _ h)
theorem Ls {n:Int}(h:In n):n.natAbs≤1099511627776:=by obtain⟨h1,h2⟩:=h;omega
theorem Tv {n:Nat}:∀ (l:List Jg) (last:Int),Inc n last l→∀ j:Nat,((j:Int)≤last→rowCoef l j=0)∧In (rowCoef l j)
 | [],last,_,j=>⟨fun _=>rfl,by simp[rowCoef,In]⟩
 | t :: l,last,h,j=>by
  obtain⟨⟨h1,h2,h3,h4⟩,h5⟩:=h
  obtain⟨i1,i2⟩:=Tv l t.v h5 j
  have e:rowCoef (t :: l) j=(if t.v=(j:Int) then t.c else 0)+rowCoef l j:=by simp[rowCoef]
  rw[e]
  by_cases hj:t.v=(j:Int)
  ·rw[if_pos hj,i1 (by omega)]
   exact⟨fun h=>by omega,by simpa using h4⟩
  ·rw[if_neg hj]
   exact⟨fun h=>by rw[i1 (by omega)];rfl,by simpa using i2⟩
theorem X5 {n:Nat}:∀ (k:Nat) (l:List Jg) (last:Int),Inc n last l→Inc n last (l.take k)
 | 0,_,_,_=>by simp[Inc]
 | k+1,[],_,_=>by simp[Inc]
 | k+1,t :: l,last,h=>⟨h.1,X5 k l t.v h.2⟩
theorem Kb.coef {n:Nat}{r:RowS}(h:Kb n r)(k j:Nat):In (rowCoef (r.terms.take k) j):=(Tv _ _ (X5 k _ _ h.2.2.2.2.2) j).2
theorem Kb.coefs {n:Nat}{r:RowS}(h:Kb n r)(j:Nat):In (rowCoef r.terms j):=(Tv _ _ h.2.2.2.2.2 j).2
theorem Or {D K:Nat}{f:Nat→Rat}:∀ n,(∀ i,i < n→OnD D K (f i))→OnD D (n * K) (sumQ f n)
 | 0,_=>Oc _ _
 | n+1,h=>by
  rw[Kq]
  refine(Qy (Or n fun i hi=>h i (by omega)) (h n (by omega))).mono ?_
  rw[Nat.add_mul];omega
theorem J4n {p:Prg}{y:List Rat}{D U:Nat}(hp:∀ r ∈ p.rows,Kb p.vars.length r)(hy:∀ i,OnD D U (atQ y i))(j i:Nat):OnD D (1099511627776 * U) (cA p y j i):=by
 unfold cA
 cases h:p.rows[i]? with
 | none=>exact Oc _ _
 | some r=>exact Ob (Ls ((hp r (List.mem_of_getElem? h)).coefs j)) (hy i)
theorem J4o {p:Prg}{y:List Rat}{D U:Nat}(hp:∀ r ∈ p.rows,Kb p.vars.length r)(hy:∀ i,OnD D U (atQ y i))(i:Nat):OnD D (1099511627776 * U) (cB p y i):=by
 unfold cB
 cases h:p.rows[i]? with
 | none=>exact Oc _ _
 | some r=>exact Ob (Ls (hp r (List.mem_of_getElem? h)).2.2.2.1) (hy i)
theorem Rx {D U K:Nat}{x:Rat}(h0:D≠0)(hU:U≤BB ^ 68)(hD:D≤BB ^ 64)(hK:K≤79228162514264337593543950335)(h:OnD D (K * U) x):Sz 80 x:=by
 have e1:BB ^ 80=BB ^ 12 * BB ^ 68:=Nat.pow_add BB 12 68
 refine h.sz h0 ?_ ?_
 ·exact Nat.lt_of_le_of_lt hD (Nat.pow_lt_pow_right (by decide) (by decide))
 ·rw[e1]
  have h2:K * U≤K * BB ^ 68:=Nat.mul_le_mul (Nat.le_refl _) hU
  have h3:0 < BB ^ 68:=Nat.pow_pos (by decide)
  have h4:K < BB ^ 12:=Nat.lt_of_le_of_lt hK (by decide)
  exact Nat.lt_of_le_of_lt h2 (Nat.mul_lt_mul_of_lt_of_le h4 (Nat.le_refl _) h3)
structure Calm (p:Prg)(y:List Rat):Prop where
 y0:∀ i,Sz 80 (atQ y i)
 t:∀ (c:Int) i,In c→Sz 80 ((c:Rat) * atQ y i)
 a:∀ i j,i≤p.rows.length→Sz 80 (sumQ (cA p y j) i)
 ak:∀ i j k r,p.rows[i]?=some r→Sz 80 (sumQ (cA p y j) i+(rowCoef (r.terms.take k) j:Rat) * atQ y i)
 b:∀ i,i≤p.rows.length→Sz 80 (sumQ (cB p y) i)
 l0:∀ j,Sz 80 (lTerm p.vars (fun j => - combA p y j) j)
 l:∀ j,j≤p.vars.length→Sz 80 (sumQ (lTerm p.vars (fun j => - combA p y j)) j)
 bl:Sz 80 (combB p y+leastS p.vars (fun j => - combA p y j))
 r0:∀ j,Sz 80 (loT p.vars (combA p y) j)
 r:∀ j,j≤p.vars.length→Sz 80 (combB p y - sumQ (loT p.vars (combA p y)) j)
theorem Vo {p:Prg}{y:List Rat}(hy:∀ x ∈ y,Sz 4 x)(hl:y.length≤16)(hp:∀ r ∈ p.rows,Kb p.vars.length r)(hv:∀ v ∈ p.vars,Lz v)(hr:p.rows.length≤40)(hn:p.vars.length≤10):Calm p y:=by
 obtain⟨D,U,h0,hDU,hU,hD,h⟩:=common hy hl
 have big:∀ {K:Nat} {x:Rat},K≤79228162514264337593543950335→OnD D (K * U) x→Sz 80 x:=fun hK h=>Rx h0 hU hD hK h
 have ha:∀ i j,i≤40→OnD D (40 * 1099511627776 * U) (sumQ (cA p y j) i):=fun i j hi=>by
  refine(Or i fun i _=>J4n hp h j i).mono ?_
  rw[Nat.mul_assoc]
  exact Nat.mul_le_mul hi (Nat.le_refl _)
 have hb:∀ i,i≤40→OnD D (40 * 1099511627776 * U) (sumQ (cB p y) i):=fun i hi=>by
  refine(Or i fun i _=>J4o hp h i).mono ?_
  rw[Nat.mul_assoc]
  exact Nat.mul_le_mul hi (Nat.le_refl _)
 have hA:∀ j,OnD D (40 * 1099511627776 * U) (combA p y j):=fun j=>ha _ j hr
 have hl0:∀ j,OnD D (1099511627776 * (40 * 1099511627776 * U)) (lTerm p.vars (fun j => - combA p y j) j):=fun j=>by
  unfold lTerm
  cases hj:p.vars[j]? with
  | none=>exact Oc _ _
  | some v=>
   have k:=hv v (List.mem_of_getElem? hj)
   refine Ob ?_ (Zs (hA j))
   split
   ·exact Ls k.2.1
   ·exact Ls k.1
 have hls:∀ j,j≤10→OnD D (10 * (1099511627776 * (40 * 1099511627776 * U))) (sumQ (lTerm p.vars (fun j => - combA p y j)) j):=fun j hj=>
  (Or j fun i _=>hl0 i).mono (Nat.mul_le_mul hj (Nat.le_refl _))
 have hr0:∀ j,OnD D (1099511627776 * (40 * 1099511627776 * U)) (loT p.vars (combA p y) j):=fun j=>by
  unfold loT
  cases hj:p.vars[j]? with
  | none=>exact Oc _ _
  | some v=>
   have k:=hv v (List.mem_of_getElem? hj)
   simp only[]
   rw[Rat.mul_comm]
   exact Ob (Ls k.1) (hA j)
 have hrs:∀ j,j≤10→OnD D (10 * (1099511627776 * (40 * 1099511627776 * U))) (sumQ (loT p.vars (combA p y)) j):=fun j hj=>
  (Or j fun i _=>hr0 i).mono (Nat.mul_le_mul hj (Nat.le_refl _))
 have e1:1099511627776 * (40 * 1099511627776 * U)=1099511627776 * 43980465111040 * U:=by rw[← Nat.mul_assoc]
 have e2:10 * (1099511627776 * (40 * 1099511627776 * U))=10 * 1099511627776 * 43980465111040 * U:=by rw[e1,← Nat.mul_assoc]
 have e3:40 * 1099511627776 * U+10 * 1099511627776 * 43980465111040 * U=(40 * 1099511627776+10 * 1099511627776 * 43980465111040) * U:=(Nat.add_mul _ _ _).symm
 rw[e1] at hl0 hr0
 rw[e2] at hls hrs
 refine⟨fun i=>big (K:=1) (by decide) (by rw[Nat.one_mul];exact h i),fun c i hc=>big (by decide) (Ob (Ls hc) (h i)),fun i j hi=>big (by decide) (ha i j (by omega)),fun i j k r hr=>?_,
  fun i hi=>big (by decide) (hb i (by omega)),fun j=>big (by decide) (hl0 j),fun j hj=>big (by decide) (hls j (by omega)),?_,fun j=>big (by decide) (hr0 j),fun j hj=>?_⟩
 ·have hi:=(List.getElem?_eq_some_iff.1 hr).1
  have k1:=Qy (ha i j (by omega)) (Ob (Ls ((hp r (List.mem_of_getElem? hr)).coef k j)) (h i))
  rw[← Nat.add_mul] at k1
  exact big (by decide) k1
 ·have k1:=Qy (hb _ hr) (hls _ hn)
  rw[e3] at k1
  exact big (by decide) k1
 ·have k1:=J4q (hb _ hr) (hrs j (by omega))
  rw[e3] at k1
  exact big (by decide) k1
end Prf
end Go.Proofs.YtcjgimlcefhhmaaGreatDoor

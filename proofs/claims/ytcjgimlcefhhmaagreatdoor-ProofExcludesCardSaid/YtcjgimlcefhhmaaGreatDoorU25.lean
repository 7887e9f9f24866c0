/- Texts: RatF RatG RatH RatI RatJ RatK. -/
import Derived.Test.YtcjgimlcefhhmaaGreatDoorU14
import Derived.Test.YtcjgimlcefhhmaaGreatDoorU24
set_option linter.unusedVariables false
set_option linter.unusedSimpArgs false
set_option maxRecDepth 100000
set_option maxHeartbeats 12800000
namespace Go.Proofs.YtcjgimlcefhhmaaGreatDoor
open Go.RowKit Go.Lib
theorem J4L (w:World)(va vb:Value)(z z':Int)(q q' L M:Nat)(ha:RatP w va z q L)(hb:RatP w vb z' q' M)(hL:L≤1000)(hM:M≤1000):
  Calls Tryz.prog 80 #[va,vb] w (Ret w fun r w'=>r = .int .i64 (cmpQ (mkRat z q) (mkRat z' q'))):=by
 have HA:=ξ ha
 have HB:=ξ hb
 obtain⟨s0,p0,k0,c0,e0,m0,n0,rfl⟩:=ha.agg
 obtain⟨s1,p1,k1,c1,e1,m1,n1,rfl⟩:=hb.agg
 have HN:=ξ (ha.num)
 have HM:=ξ (hb.num)
 have HR:=ξ (J21 z z' ha.ne hb.ne)
 clear ha hb
 have B:=box33 w (.bool s0) (.slice p0 k0 c0) (.slice e0 m0 n0) (.bool s1) (.slice p1 k1 c1) (.slice e1 m1 n1) 68 68
 have Hb1:=ξ (show ¬ w.heap.size+1 < w.heap.size by omega)
 have Hd01:=ξ (show w.heap.size≠w.heap.size+1 by omega)
 go_enter Tryz.func80,Tryz.ntmps80
 go_wp2_with fail
 generalize (w.alloc _).alloc _=W at B ⊢
 obtain⟨G0,t0,t1⟩:=B
 generalize w.heap.size+1=b1 at t1 Hb1 Hd01 ⊢
 generalize hb0:w.heap.size=b0 at t0 Hd01 ⊢
 have Hb0:=ξ (show ¬ b0 < w.heap.size by omega)
 have G:=ξ G0
 have T0:=ξ t0
 have T1:=ξ t1
 clear hb0 G0 t0 t1
 have HA:=ξ (HA.out.grow G.out)
 have HB:=ξ (HB.out.grow G.out)
 have HN:=ξ (HN.out.grow G.out)
 have HM:=ξ (HM.out.grow G.out)
 refine Jp [(0,true),(1,true),(2,true),(5,true),(6,true),(7,true),(3,false),(4,false),(8,false),(9,false),(10,false),(11,true)] (by kernel_rfl) (by kernel_rfl) rfl (by kernel_rfl) (fun _ _ d _ _ h=>by cases d<;>exact h) ?_
 have T0_0:=T0.out.c0
 have T0_1:=T0.out.c1
 have T0_2:=T0.out.c2
 have T1_0:=T1.out.c0
 have T1_1:=T1.out.c1
 have T1_2:=T1.out.c2
 have g0:Gr W W.drew:=(Gr.refl _).drew
 have G:=ξ (G.out.trans g0)
 have T0:=ξ (T0.out.grow g0)
 have T1:=ξ (T1.out.grow g0)
 have HA:=ξ (HA.out.grow g0)
 have HB:=ξ (HB.out.grow g0)
 have HN:=ξ (HN.out.grow g0)
 have HM:=ξ (HM.out.grow g0)
 repeat(refine Jf (v:=?_) g0 rfl rfl (fun w' hg=>?_) (fun K hK=>?_);rotate_left;(go_simp;rfl);go_simp;refine hK _ _ ?_;clear hK K)
 refine Jd (args:=?_) rfl rfl rfl rfl rfl rfl (by kernel_rfl) (by kernel_rfl) ?_ (fun K hK=>?_)
 rotate_left
 ·go_simp;rfl
 refine(Mi _ _ z' q' M HB.out (by omega)).mono ?_
 rintro _ w1 ⟨r1,rfl,g1,h1⟩
 refine⟨_,rfl,g1,?_⟩
 go_simp
 refine hK _ _ ?_
 clear hK K
 have G:=ξ (G.out.trans g1)
 have T0:=ξ (T0.out.grow g1)
 have T1:=ξ (T1.out.grow g1)
 have HA:=ξ (HA.out.grow g1)
 have HB:=ξ (HB.out.grow g1)
 have HN:=ξ (HN.out.grow g1)
 have HM:=ξ (HM.out.grow g1)
 replace g0:=g0.trans g1
 clear g1
 have H1:=ξ h1
 clear h1
 refine Jd (args:=?_) rfl rfl rfl rfl rfl rfl (by kernel_rfl) (by kernel_rfl) ?_ (fun K hK=>?_)
 rotate_left
 ·go_simp;rfl
 refine(Nr _ _ _ z q' _ L (M+1) HN.out H1.out rfl (by omega) (by omega)).mono ?_
 rintro _ w2 ⟨r2,rfl,g2,h2⟩
 refine⟨_,rfl,g2,?_⟩
 go_simp
 refine hK _ _ ?_
 clear hK K
 have G:=ξ (G.out.trans g2)
 have T0:=ξ (T0.out.grow g2)
 have T1:=ξ (T1.out.grow g2)
 have HA:=ξ (HA.out.grow g2)
 have HB:=ξ (HB.out.grow g2)
 have HN:=ξ (HN.out.grow g2)
 have HM:=ξ (HM.out.grow g2)
 have H1:=ξ (H1.out.grow g2)
 replace g0:=g0.trans g2
 clear g2
 have H2:=ξ h2
 clear h2
 refine Jd (args:=?_) rfl rfl rfl rfl rfl rfl (by kernel_rfl) (by kernel_rfl) ?_ (fun K hK=>?_)
 rotate_left
 ·go_simp;rfl
 refine(Mi _ _ z q L HA.out (by omega)).mono ?_
 rintro _ w3 ⟨r3,rfl,g3,h3⟩
 refine⟨_,rfl,g3,?_⟩
 go_simp
 refine hK _ _ ?_
 clear hK K
 have G:=ξ (G.out.trans g3)
 have T0:=ξ (T0.out.grow g3)
 have T1:=ξ (T1.out.grow g3)
 have HA:=ξ (HA.out.grow g3)
 have HB:=ξ (HB.out.grow g3)
 have HN:=ξ (HN.out.grow g3)
 have HM:=ξ (HM.out.grow g3)
 have H1:=ξ (H1.out.grow g3)
 have H2:=ξ (H2.out.grow g3)
 replace g0:=g0.trans g3
 clear g3
 have H3:=ξ h3
 clear h3
 refine Jd (args:=?_) rfl rfl rfl rfl rfl rfl (by kernel_rfl) (by kernel_rfl) ?_ (fun K hK=>?_)
 rotate_left
 ·go_simp;rfl
 refine(Nr _ _ _ z' q _ M (L+1) HM.out H3.out rfl (by omega) (by omega)).mono ?_
 rintro _ w4 ⟨r4,rfl,g4,h4⟩
 refine⟨_,rfl,g4,?_⟩
 go_simp
 refine hK _ _ ?_
 clear hK K
 have G:=ξ (G.out.trans g4)
 have T0:=ξ (T0.out.grow g4)
 have T1:=ξ (T1.out.grow g4)
 have HA:=ξ (HA.out.grow g4)
 have HB:=ξ (HB.out.grow g4)
 have HN:=ξ (HN.out.grow g4)
 have HM:=ξ (HM.out.grow g4)
 have H1:=ξ (H1.out.grow g4)
 have H2:=ξ (H2.out.grow g4)
 have H3:=ξ (H3.out.grow g4)
 replace g0:=g0.trans g4
 clear g4
 have H4:=ξ h4
 clear h4
 refine Jd (args:=?_) rfl rfl rfl rfl rfl rfl (by kernel_rfl) (by kernel_rfl) ?_ (fun K hK=>?_)
 rotate_left
 ·go_simp;rfl
 refine(J6l _ _ _ (z * q') (z' * q) _ (L+(M+1)+1) (M+(L+1)+1) H2.out.2 H4.out.2 HR.out (by omega) (by omega)).mono ?_
 rintro _ w5 ⟨_,rfl,g5,rfl⟩
 refine⟨_,rfl,g5,?_⟩
 go_simp
 refine hK _ _ ?_
 clear hK K
 have G:=ξ (G.out.trans g5)
 have T0:=ξ (T0.out.grow g5)
 have T1:=ξ (T1.out.grow g5)
 have HA:=ξ (HA.out.grow g5)
 have HB:=ξ (HB.out.grow g5)
 have HN:=ξ (HN.out.grow g5)
 have HM:=ξ (HM.out.grow g5)
 have H1:=ξ (H1.out.grow g5)
 have H2:=ξ (H2.out.grow g5)
 have H3:=ξ (H3.out.grow g5)
 have H4:=ξ (H4.out.grow g5)
 replace g0:=g0.trans g5
 clear g5
 repeat(refine Jf (v:=?_) g0 rfl rfl (fun w' hg=>?_) (fun K hK=>?_);rotate_left;(go_simp;rfl);go_simp;refine hK _ _ ?_;clear hK K)
 refine Ji ?_
 clear g0
 clear T0_0 T0_1 T0_2 T1_0 T1_1 T1_2
 go_wp2_with fail
 go_ret
 exact⟨_,rfl,G.out,rfl⟩
theorem Tq (w:World)(va vb:Value)(x y:Rat)(c:Int)(L M:Nat)(ha:RatV w va x L)(hb:RatV w vb y M)(hc:cmpQ x y=c)(hL:L≤1000)(hM:M≤1000):
  Calls Tryz.prog 80 #[va,vb] w (Ret w fun r w'=>r = .int .i64 c):=by
 obtain⟨z,q,ha2,rfl⟩:=ha.p
 obtain⟨z',q',hb2,rfl⟩:=hb.p
 subst hc
 exact J4L w va vb z z' q q' L M ha2 hb2 hL hM
theorem Pu (w:World)(va:Value)(x:Rat)(c:Int)(L:Nat)(ha:RatV w va x L)(hc:sgn x.num=c)(hL:L≤1000):
  Calls Tryz.prog 141 #[va] w (Ret w fun r w'=>r = .int .i64 c):=by
 obtain⟨z,q,ha2,rfl⟩:=ha.p
 obtain⟨s0,p0,k0,c0,e0,m0,n0,rfl⟩:=ha2.agg
 have HN:=ξ (ha2.num)
 have hs:=J0u z ha2.ne
 rw[hc] at hs
 clear ha ha2 hc
 have B:=box3 w (.bool s0) (.slice p0 k0 c0) (.slice e0 m0 n0) 68
 go_enter Tryz.func141,Tryz.ntmps141
 go_wp2_with fail
 generalize w.alloc _=W at B ⊢
 obtain⟨G0,t0⟩:=B
 generalize hb0:w.heap.size=b0 at t0  ⊢
 have Hb0:=ξ (show ¬ b0 < w.heap.size by omega)
 have G:=ξ G0
 have T0:=ξ t0
 clear hb0 G0 t0
 have HN:=ξ (HN.out.grow G.out)
 refine(Ur W _ z c L HN.out hs (by omega)).mono ?_
 rintro _ w1 ⟨_,rfl,g1,rfl⟩
 have G:=ξ (G.out.trans g1)
 have T0:=ξ (T0.out.grow g1)
 have HN:=ξ (HN.out.grow g1)
 clear g1
 go_wp2_with fail
 go_ret
 exact⟨_,rfl,G.out,rfl⟩
theorem Lu (w:World)(z:Int)(h1 : -9223372036854775808≤z)(h2:z≤9223372036854775807):
  Calls Tryz.prog 77 #[.int .i64 z] w (Ret w fun r w'=>RatC w' r (z:Rat)):=by
 have B:=box3 w (.bool false) (.slice none 0 0) (.slice none 0 0) 68
 go_enter Tryz.func77,Tryz.ntmps77
 go_wp2_with fail
 generalize w.alloc _=W at B ⊢
 obtain⟨G0,t0⟩:=B
 generalize hb0:w.heap.size=b0 at t0  ⊢
 have Hb0:=ξ (show ¬ b0 < w.heap.size by omega)
 have G:=ξ G0
 have T0:=ξ t0
 clear hb0 G0 t0
 refine(Yb W z h1 h2).mono ?_
 rintro _ w1 ⟨r1,rfl,g1,h1⟩
 have G:=ξ (G.out.trans g1)
 have T0:=ξ (T0.out.grow g1)
 clear g1
 have H1:=ξ h1
 clear h1
 obtain⟨p2,k2,c2,rfl⟩:=H1.out.agg
 generalize decide (z < 0)=s2 at H1 ⊢
 have HV:=ξ (RatC.ofInt H1.out)
 have T0_0:=T0.out.load.1
 have T0_f0:=T0.out.f0 0
 have T0_1:=T0.out.load.2.1
 have T0_f1:=T0.out.f0 1
 have T0_2:=T0.out.load.2.2
 have T0_f2:=T0.out.f0 2
 go_wp2_with fail
 clear T0_0 T0_f0 T0_1 T0_f1 T0_2 T0_f2
 have hu:=upd3 w1 b0 (.bool s2) (.slice p2 k2 c2) (.slice none 0 0)
 have HV:=ξ (HV.out.upd T0.out.noInt hu)
 have T0:=ξ (T0.out.set (.bool s2) (.slice p2 k2 c2) (.slice none 0 0))
 have G:=ξ (G.out.three Hb0.out (.bool s2) (.slice p2 k2 c2) (.slice none 0 0))
 clear hu
 generalize ((w1.setCell _ _).setCell _ _).setCell _ _=W1 at G T0 HV ⊢
 have T0_0:=T0.out.load.1
 have T0_1:=T0.out.load.2.1
 have T0_2:=T0.out.load.2.2
 refine bodyPost_ret (by simp[results,Tryz.results77,go_sem,T0_0,T0_1,T0_2];rfl) rfl ?_
 exact⟨_,rfl,G.out,HV.out⟩
theorem J3b (z:Int)(h1 : -9223372036854775808≤z)(h2:z≤9223372036854775807):(digs z.natAbs).length≤2:=N3.2 (by omega)
theorem Q8 {a:Int}(h:0 < a):sgn a=1:=by unfold sgn;rw[if_neg (by omega),if_neg (by omega)]
theorem Q7 {a:Int}(h:a < 0):sgn a = -1:=by unfold sgn;rw[if_pos h]
theorem J05 (x y:Int):quoZ false x y=x.tdiv y:=by
 unfold quoZ
 simp only[Bool.false_and,Bool.false_eq_true,if_false,Nat.add_zero]
 have key:∀ (m n:Nat),(((m / n:Nat):Int))=Int.tdiv m n:=fun m n=>rfl
 rcases Int.lt_trichotomy x 0 with hx|hx|hx<;>rcases Int.lt_trichotomy y 0 with hy|hy|hy
 all_goals(try subst hx)<;>(try subst hy)
 ·obtain⟨m,rfl⟩:∃ m:Nat,x = -m:=⟨x.natAbs,by omega⟩
  obtain⟨n,rfl⟩:∃ n:Nat,y = -n:=⟨y.natAbs,by omega⟩
  rw[Q7 hx,Q7 hy,if_neg (by decide),Int.neg_tdiv,Int.tdiv_neg,Int.neg_neg,Int.natAbs_neg,Int.natAbs_neg]
  rfl
 ·simp[sgn]
 ·obtain⟨m,rfl⟩:∃ m:Nat,x = -m:=⟨x.natAbs,by omega⟩
  obtain⟨n,rfl⟩:∃ n:Nat,y=n:=⟨y.natAbs,by omega⟩
  rw[Q7 hx,Q8 hy,if_pos (by decide),Int.neg_tdiv,Int.natAbs_neg]
  rfl
 ·simp[sgn]
 ·simp[sgn]
 ·simp[sgn]
 ·obtain⟨m,rfl⟩:∃ m:Nat,x=m:=⟨x.natAbs,by omega⟩
  obtain⟨n,rfl⟩:∃ n:Nat,y = -n:=⟨y.natAbs,by omega⟩
  rw[Q8 hx,Q7 hy,if_pos (by decide),Int.tdiv_neg,Int.natAbs_neg]
  rfl
 ·simp[sgn]
 ·obtain⟨m,rfl⟩:∃ m:Nat,x=m:=⟨x.natAbs,by omega⟩
  obtain⟨n,rfl⟩:∃ n:Nat,y=n:=⟨y.natAbs,by omega⟩
  rw[Q8 hx,Q8 hy,if_neg (by decide)]
  rfl
theorem J5J (x y:Int):x - quoZ false x y * y=x.tmod y:=by
 rw[J05,Int.tmod_def,Int.mul_comm]
theorem Sd (z:Int){q:Nat}(hq:q≠0):(mkRat z q).den=1↔z.tmod (q:Int)=0:=by
 have hg:0 < Nat.gcd z.natAbs q:=Nat.gcd_pos_of_pos_right _ (by omega)
 rw[N7 z q hq,← Int.dvd_iff_tmod_eq_zero,Int.ofNat_dvd_left]
 constructor
 ·intro h
  have h2:Nat.gcd z.natAbs q=q:=by
   have h3:=Nat.div_mul_cancel (Nat.gcd_dvd_right z.natAbs q)
   rw[h,Nat.one_mul] at h3
   exact h3
  rw[← h2];exact Nat.gcd_dvd_left _ _
 ·intro h
  rw[Nat.gcd_eq_right h]
  exact Nat.div_self (by omega)
theorem J4f (z:Int){q:Nat}(hq:q≠0)(h:z.tmod (q:Int)=0):(mkRat z q).num=z.tdiv (q:Int):=by
 have hd:=(Sd z hq).2 h
 rw[N7 z q hq] at hd
 have h2:Nat.gcd z.natAbs q=q:=by
  have h3:=Nat.div_mul_cancel (Nat.gcd_dvd_right z.natAbs q)
  rw[hd,Nat.one_mul] at h3
  exact h3
 rw[Po z q hq,h2,Int.tdiv_eq_ediv_of_dvd (Int.dvd_of_tmod_eq_zero h)]
theorem J5k (p:Int){q:Nat}(hq:q≠0):quoZ true p (q:Int)=p / (q:Int):=by
 have e:=Nat.div_add_mod p.natAbs q
 have l:=Nat.mod_lt p.natAbs (show 0 < q by omega)
 unfold quoZ
 have h1:sgn (q:Int)=1:=by unfold sgn;rw[if_neg (by omega),if_neg (by omega)]
 rw[h1,Int.natAbs_natCast]
 generalize p.natAbs / q=d at e ⊢
 generalize p.natAbs % q=m at e l ⊢
 have e':(p.natAbs:Int)=(q:Int) * d+m:=by exact_mod_cast e.symm
 by_cases hp:p < 0
 ·have hs:sgn p * 1 < 0:=by unfold sgn;rw[if_pos hp];decide
  have hpe:p = -((q:Int) * d+m):=by omega
  symm
  by_cases hm:0 < m
  ·simp only[hs,hm,if_true,decide_true,Bool.and_self]
   refine(Int.ediv_emod_unique (b:=(q:Int)) (r:=q - m) (by omega)).2 ⟨?_,by omega,by omega⟩ |>.1
   rw[hpe,Int.natCast_add,Int.mul_neg,Int.mul_add]
   simp only[Int.natCast_one,Int.mul_one]
   omega
  ·have hm0:m=0:=by omega
   subst hm0
   simp only[hs,if_true,decide_true,Nat.lt_irrefl,decide_false,Bool.and_false,Bool.false_eq_true,if_false,Nat.add_zero]
   refine(Int.ediv_emod_unique (b:=(q:Int)) (r:=0) (by omega)).2 ⟨?_,by omega,by omega⟩ |>.1
   rw[hpe,Int.mul_neg]
   simp
 ·have hs:¬ sgn p * 1 < 0:=by unfold sgn;rw[if_neg hp];split<;>decide
  have hpe:p=((q:Int) * d+m):=by omega
  symm
  simp only[hs,if_false,decide_false,Bool.and_false,Bool.false_and,Bool.false_eq_true,Nat.add_zero]
  refine(Int.ediv_emod_unique (b:=(q:Int)) (r:=m) (by omega)).2 ⟨?_,by omega,by omega⟩ |>.1
  rw[hpe];omega
theorem J00 (w:World)(va:Value)(x:Rat)(f:Int)(L:Nat)(ha:RatV w va x L)(hf:x.floor=f)(hL:L≤1000):
  Calls Tryz.prog 255 #[va] w (Ret w fun r w'=>IntC w' r f):=by
 obtain⟨z,q,ha2,rfl⟩:=ha.p
 clear ha
 have HA:=ξ ha2
 obtain⟨s0,p0,k0,c0,e0,m0,n0,rfl⟩:=ha2.agg
 have HN:=ξ ha2.num
 have Hq:=ξ ha2.ne
 have HF:=ξ (show quoZ true z q=f by rw[J5k z ha2.ne,J2Y z ha2.ne,hf])
 clear ha2 hf
 have B:=box32 w (.bool s0) (.slice p0 k0 c0) (.slice e0 m0 n0) (.bool false) (.slice none 0 0) 68 66
 have Hb1:=ξ (show ¬ w.heap.size+1 < w.heap.size by omega)
 have Hd01:=ξ (show w.heap.size≠w.heap.size+1 by omega)
 go_enter Tryz.func255,Tryz.ntmps255
 go_wp2_with fail
 generalize (w.alloc _).alloc _=W at B ⊢
 obtain⟨G0,t0,t1⟩:=B
 generalize w.heap.size+1=b1 at t1 Hb1 Hd01 ⊢
 generalize hb0:w.heap.size=b0 at t0 Hd01 ⊢
 have Hb0:=ξ (show ¬ b0 < w.heap.size by omega)
 have G:=ξ G0
 have T0:=ξ t0
 have T1:=ξ t1
 clear hb0 G0 t0 t1
 have HA:=ξ (HA.out.grow G.out)
 have HN:=ξ (HN.out.grow G.out)
 have g0:Gr W W.drew:=(Gr.refl _).drew
 have T0_0:=T0.out.c0
 have T0_1:=T0.out.c1
 have T0_2:=T0.out.c2
 refine Rm zcI 60 [(0,1),(1,1),(2,1),(3,0),(4,0),(5,1),(6,1),(7,1),(8,1),(9,2),(10,2),(11,0),(12,0),(13,1)] (by kernel_rfl) (by kernel_rfl) rfl (by kernel_rfl) (fun _ _ d _ _ h=>by cases d<;>exact h) (fun _ _ d _ _ h=>by cases d<;>exact h) (by intro i hi;simp at hi;rcases hi with rfl|rfl<;>exact⟨_,_,rfl,rfl,rfl,allocI⟩) ?_
 repeat(refine Lb (v:=?_) g0 rfl rfl (fun w' hg=>?_) (fun K hK=>?_);rotate_left;(go_simp;rfl);go_simp;refine hK _ _ ?_;clear hK K)
 refine La rfl rfl (fun K hK w1 g1=>?_)
 go_simp
 refine(Mi _ _ z q L (HA.out.grow (g0.trans g1)) (by omega)).mono ?_
 rintro _ w2 ⟨r2,rfl,g2,h2⟩
 refine⟨fun _=>g2,hK _ _ ?_⟩
 clear hK K
 have H2:=ξ h2
 have g2:=(g0.trans g1).trans g2
 clear g1 h2
 refine La rfl rfl (fun K hK w5 g5=>?_)
 go_simp
 refine(J6m _ _ _ z q f L (L+1) (HN.out.grow (g2.trans g5)) (H2.out.grow g5) (by have:=Hq.out;omega) HF.out (by omega) (by omega)).mono ?_
 rintro _ w6 ⟨_,rfl,g6,qa,qb,rfl,hq,hs⟩
 refine⟨fun _=>g6,hK _ _ ?_⟩
 clear hK K
 have g7:=g2.trans (g5.trans g6)
 have HQ:=ξ hq
 have HS:=ξ hs
 obtain⟨pa1,ka1,ca1,rfl,_⟩:=hq
 obtain⟨pb1,kb1,cb1,rfl,_⟩:=hs
 clear g2 g5 g6
 repeat(refine Lb (v:=?_) g7 rfl rfl (fun w' hg=>?_) (fun K hK=>?_);rotate_left;(go_simp;rfl);go_simp;refine hK _ _ ?_;clear hK K)
 generalize decide (f < 0)=sa at HQ ⊢
 generalize decide (z - f * (q:Int) < 0)=sb at HS ⊢
 refine O3 rfl rfl (fun K w8 b12 g8 f2 n2 hK=>hK _ _ ?_)
 clear hK K
 refine O3 rfl rfl (fun K w9 b13 g9 f3 n3 hK=>hK _ _ ?_)
 clear hK K
 have T2':=f2.two
 have T3':=f3.two
 clear f2 f3
 refine La rfl rfl (fun K hK w10 g10=>?_)
 have e2:=T2'.grow (g9.trans g10)
 have d0:=e2.c0 w10 (Gr.refl _)
 have d1:=e2.c1 w10 (Gr.refl _)
 have d2:=e2.f0 0
 have d3:=e2.f0 1
 go_simp
 refine⟨fun h=>Bool.noConfusion h,hK _ _ ?_⟩
 clear hK K
 have h11:=(g7.trans (g8.trans (g9.trans g10))).two n2 (.bool sa) (.slice pa1 ka1 ca1)
 have U2:=e2.set (.bool sa) (.slice pa1 ka1 ca1)
 have e3:=(T3'.grow g10).other (fun e=>n3 (.inr e)) (.bool sa) (.slice pa1 ka1 ca1)
 have HQ:=ξ ((HQ.out.grow (g8.trans (g9.trans g10))).keepBox e2 (.bool sa) (.slice pa1 ka1 ca1))
 have HS:=ξ ((HS.out.grow (g8.trans (g9.trans g10))).keepBox e2 (.bool sa) (.slice pa1 ka1 ca1))
 clear d0 d1 d2 d3 e2 T2' T3'
 generalize (w10.setCell _ _).setCell _ _=w11 at h11 U2 e3 HQ HS ⊢
 refine La rfl rfl (fun K hK w12 g12=>?_)
 have e3:=e3.grow g12
 have d0:=e3.c0 w12 (Gr.refl _)
 have d1:=e3.c1 w12 (Gr.refl _)
 have d2:=e3.f0 0
 have d3:=e3.f0 1
 go_simp
 refine⟨fun h=>Bool.noConfusion h,hK _ _ ?_⟩
 clear hK K
 have h13:=(h11.trans g12).two (fun h=>n3 (.inl h)) (.bool sb) (.slice pb1 kb1 cb1)
 have U3:=e3.set (.bool sb) (.slice pb1 kb1 cb1)
 have U2:=(U2.grow g12).other (fun e=>n3 (.inr e.symm)) (.bool sb) (.slice pb1 kb1 cb1)
 have HQ:=ξ ((HQ.out.grow g12).keepBox e3 (.bool sb) (.slice pb1 kb1 cb1))
 have HS:=ξ ((HS.out.grow g12).keepBox e3 (.bool sb) (.slice pb1 kb1 cb1))
 clear d0 d1 d2 d3 e3
 generalize (w12.setCell _ _).setCell _ _=W2 at h13 U2 U3 HQ HS ⊢
 repeat(refine Lb (v:=?_) h13 rfl rfl (fun w' hg=>?_) (fun K hK=>?_);rotate_left;(go_simp;rfl);go_simp;refine hK _ _ ?_;clear hK K)
 refine Ri ?_
 have TQ:=ξ U2
 have TS:=ξ U3
 clear h11 U2 U3 n2 n3 g7 g8 g9 g10 g12 g0
 clear T0_0 T0_1 T0_2
 have G:=ξ (G.out.trans h13)
 have T0:=ξ (T0.out.grow h13)
 have T1:=ξ (T1.out.grow h13)
 clear h13
 have T1_0:=T1.out.load.1
 have T1_f0:=T1.out.f0 0
 have T1_1:=T1.out.load.2
 have T1_f1:=T1.out.f0 1
 have TQ_0:=TQ.out.load.1
 have TQ_f0:=TQ.out.f0 0
 have TQ_1:=TQ.out.load.2
 have TQ_f1:=TQ.out.f0 1
 go_wp2_with fail
 clear T1_0 T1_f0 T1_1 T1_f1 TQ_0 TQ_f0 TQ_1 TQ_f1
 have hu:=upd2 W2 b1 (.bool sa) (.slice pa1 ka1 ca1)
 have HQ:=ξ (HQ.out.upd T1.out.noInt hu)
 have T0:=ξ (T0.out.upd hu Hd01.out)
 have T1:=ξ (T1.out.set (.bool sa) (.slice pa1 ka1 ca1))
 have G:=ξ (G.out.two Hb1.out (.bool sa) (.slice pa1 ka1 ca1))
 clear hu
 generalize (W2.setCell _ _).setCell _ _=W3 at G T0 T1 HQ ⊢
 have T1_0:=T1.out.load.1
 have T1_1:=T1.out.load.2
 refine bodyPost_ret (by simp[results,Tryz.results255,go_sem,T1_0,T1_1];rfl) rfl ?_
 exact⟨_,rfl,G.out,HQ.out⟩
theorem RatV.sz {w:World}{v:Value}{x:Rat}{L:Nat}(h:RatV w v x L)(hL:1≤L):Sz L x:=by
 obtain⟨n,l,d,⟨p,k,c,q,m,e,rfl,h1,h2⟩,rfl,h3,h4⟩:=h
 refine Ul (Sc d) ?_ ?_
 ·rw[O8];exact Nat.le_trans (Kg h1.dig) h3
 ·unfold denV
  split
  ·exact Nat.le_trans (by decide +kernel) hL
  ·exact Nat.le_trans (Kg h2.dig) h4
theorem RatV.mono {w:World}{v:Value}{x:Rat}{L M:Nat}(h:RatV w v x L)(hM:L≤M):RatV w v x M:=by
 obtain⟨n,l,d,h1,h2,h3,h4⟩:=h;exact⟨n,l,d,h1,h2,Nat.le_trans h3 hM,Nat.le_trans h4 hM⟩
theorem Xs {x:Rat}{L:Nat}(h:Sz L x):(digs x.floor.natAbs).length≤L+1:=by
 rw[Rat.floor_def]
 have hd:(0:Int) < x.den:=by have:=x.den_nz;omega
 have h0:(x.num / (x.den:Int)).natAbs≤x.num.natAbs+1:=by
  have a:=Int.ediv_mul_le x.num (b:=(x.den:Int)) (by omega)
  have b:=Int.lt_ediv_add_one_mul_self x.num hd
  by_cases hn:0≤x.num
  ·have c:=Int.ediv_le_self (x.den:Int) hn
   have d:=Int.ediv_nonneg hn (by omega:(0:Int)≤x.den)
   omega
  ·have c:x.num≤x.num / (x.den:Int):=by
    refine Int.le_ediv_of_mul_le hd ?_
    have:=Int.mul_le_mul_of_nonpos_left (a:=x.num) (b:=x.den) (c:=1) (by omega) (by omega)
    omega
   have d:x.num / (x.den:Int) < 0:=Int.ediv_lt_of_lt_mul hd (by omega)
   omega
 exact Nat.le_trans (Kn h0) (N1 (k:=L) h.1 (Nat.le_trans (by decide +kernel) (J2n x.den_nz h.2)))
theorem Z9 (w:World)(va:Value)(x:Rat)(f:Int)(L:Nat)(ha:RatV w va x L)(hf : -(-x).floor=f)(hL:L≤900)(h1:1≤L):
  Calls Tryz.prog 252 #[va] w (Ret w fun r w'=>IntC w' r f):=by
 have HA:=ξ ha
 have HZ:=ξ (Oe (ha.sz h1))
 have HF:=ξ hf
 obtain⟨s0,p0,k0,c0,e0,m0,n0,rfl⟩:=ha.agg
 clear ha hf
 have B:=box32 w (.bool s0) (.slice p0 k0 c0) (.slice e0 m0 n0) (.bool false) (.slice none 0 0) 68 66
 have Hb1:=ξ (show ¬ w.heap.size+1 < w.heap.size by omega)
 have Hd01:=ξ (show w.heap.size≠w.heap.size+1 by omega)
 go_enter Tryz.func252,Tryz.ntmps252
 go_wp2_with fail
 generalize (w.alloc _).alloc _=W at B ⊢
 obtain⟨G0,t0,t1⟩:=B
 generalize w.heap.size+1=b1 at t1 Hb1 Hd01 ⊢
 generalize hb0:w.heap.size=b0 at t0 Hd01 ⊢
 have Hb0:=ξ (show ¬ b0 < w.heap.size by omega)
 have G:=ξ G0
 have T0:=ξ t0
 have T1:=ξ t1
 clear hb0 G0 t0 t1
 have HA:=ξ (HA.out.grow G.out)
 refine(Q0 W _ x _ L HA.out rfl (by omega)).mono ?_
 rintro _ w1 ⟨r1,rfl,g1,h1⟩
 have G:=ξ (G.out.trans g1)
 have T0:=ξ (T0.out.grow g1)
 have T1:=ξ (T1.out.grow g1)
 have HA:=ξ (HA.out.grow g1)
 clear g1
 have H1:=ξ h1
 clear h1
 go_wp2_with fail
 refine(J00 w1 _ (-x) _ L (H1.out.v HZ.out) rfl (by omega)).mono ?_
 rintro _ w2 ⟨r2,rfl,g2,h2⟩
 have G:=ξ (G.out.trans g2)
 have T0:=ξ (T0.out.grow g2)
 have T1:=ξ (T1.out.grow g2)
 have HA:=ξ (HA.out.grow g2)
 have H1:=ξ (H1.out.grow g2)
 clear g2
 have H2:=ξ h2
 clear h2
 go_wp2_with fail
 refine(Re w2 _ _ f (L+1) (H2.out.v (Xs HZ.out)) HF.out (by omega)).mono ?_
 rintro _ w3 ⟨r3,rfl,g3,h3⟩
 have G:=ξ (G.out.trans g3)
 have T0:=ξ (T0.out.grow g3)
 have T1:=ξ (T1.out.grow g3)
 have HA:=ξ (HA.out.grow g3)
 have H1:=ξ (H1.out.grow g3)
 have H2:=ξ (H2.out.grow g3)
 clear g3
 have H3:=ξ h3
 clear h3
 have HV:=ξ H3.out.1
 obtain⟨p1,k1,c1,rfl⟩:=HV.out.agg
 generalize decide (f < 0)=sa at HV H3 ⊢
 have T1_0:=T1.out.load.1
 have T1_f0:=T1.out.f0 0
 have T1_1:=T1.out.load.2
 have T1_f1:=T1.out.f0 1
 go_wp2_with fail
 clear T1_0 T1_f0 T1_1 T1_f1
 have hu:=upd2 w3 b1 (.bool sa) (.slice p1 k1 c1)
 have HV:=ξ (HV.out.upd T1.out.noInt hu)
 have T0:=ξ (T0.out.upd hu Hd01.out)
 have T1:=ξ (T1.out.set (.bool sa) (.slice p1 k1 c1))
 have G:=ξ (G.out.two Hb1.out (.bool sa) (.slice p1 k1 c1))
 clear hu
 generalize (w3.setCell _ _).setCell _ _=W3 at G T0 T1 HV ⊢
 have T1_0:=T1.out.load.1
 have T1_1:=T1.out.load.2
 refine bodyPost_ret (by simp[results,Tryz.results252,go_sem,T1_0,T1_1];rfl) rfl ?_
 exact⟨_,rfl,G.out,HV.out⟩
theorem J5d (w:World)(va:Value)(x:Rat)(t:Bool)(L:Nat)(ha:RatV w va x L)(ht:(decide (x.den=1) && fits x.num)=t)(hL:L≤1000):
  Calls Tryz.prog 285 #[va] w (Ret w fun r w'=>r = .tuple #[.int .i64 (if t then x.num else 0),.bool t]):=by
 obtain⟨z,q,ha2,rfl⟩:=ha.p
 clear ha
 have HA:=ξ ha2
 obtain⟨s0,p0,k0,c0,e0,m0,n0,rfl⟩:=ha2.agg
 have HN:=ξ ha2.num
 have Hq:=ξ ha2.ne
 obtain⟨f,hf⟩:∃ f,quoZ false z q=f:=⟨_,rfl⟩
 have HF:=ξ hf
 have HR:=ξ (show z - f * (q:Int)=z.tmod q by rw[← hf,J5J])
 have HT:=ξ ht
 have HRl:=ξ (show(digs (z - f * (q:Int)).natAbs).length≤L+2 by
  rw[HR.out]
  have h:=ha2.num.len
  refine Nat.le_trans (Kn (b:=z.natAbs) ?_) (Nat.le_trans h (by omega))
  rw[Int.natAbs_tmod];exact Nat.mod_le _ _)
 clear ha2 hf ht
 have B:=box3 w (.bool s0) (.slice p0 k0 c0) (.slice e0 m0 n0) 68
 go_enter Tryz.func285,Tryz.ntmps285
 go_wp2_with fail
 generalize w.alloc _=W at B ⊢
 obtain⟨G0,t0⟩:=B
 generalize hb0:w.heap.size=b0 at t0  ⊢
 have Hb0:=ξ (show ¬ b0 < w.heap.size by omega)
 have G:=ξ G0
 have T0:=ξ t0
 clear hb0 G0 t0
 have HA:=ξ (HA.out.grow G.out)
 have HN:=ξ (HN.out.grow G.out)
 have g0:Gr W W.drew:=(Gr.refl _).drew
 have T0_0:=T0.out.c0
 have T0_1:=T0.out.c1
 have T0_2:=T0.out.c2
 refine Rm zcI 60 [(0,1),(1,1),(2,1),(3,0),(4,0),(5,1),(6,1),(7,1),(8,1),(9,2),(10,2),(11,0),(12,0),(13,1)] (by kernel_rfl) (by kernel_rfl) rfl (by kernel_rfl) (fun _ _ d _ _ h=>by cases d<;>exact h) (fun _ _ d _ _ h=>by cases d<;>exact h) (by intro i hi;simp at hi;rcases hi with rfl|rfl<;>exact⟨_,_,rfl,rfl,rfl,allocI⟩) ?_
 repeat(refine Lb (v:=?_) g0 rfl rfl (fun w' hg=>?_) (fun K hK=>?_);rotate_left;(go_simp;rfl);go_simp;refine hK _ _ ?_;clear hK K)
 refine La rfl rfl (fun K hK w1 g1=>?_)
 go_simp
 refine(Mi _ _ z q L (HA.out.grow (g0.trans g1)) (by omega)).mono ?_
 rintro _ w2 ⟨r2,rfl,g2,h2⟩
 refine⟨fun _=>g2,hK _ _ ?_⟩
 clear hK K
 have H2:=ξ h2
 have g2:=(g0.trans g1).trans g2
 clear g1 h2
 refine La rfl rfl (fun K hK w5 g5=>?_)
 go_simp
 refine(P3 _ _ _ z q f L (L+1) (HN.out.grow (g2.trans g5)) (H2.out.grow g5) (by have:=Hq.out;omega) HF.out (by omega) (by omega)).mono ?_
 rintro _ w6 ⟨_,rfl,g6,qa,qb,rfl,hq,hs⟩
 refine⟨fun _=>g6,hK _ _ ?_⟩
 clear hK K
 have g7:=g2.trans (g5.trans g6)
 have HQ:=ξ hq
 have HS:=ξ hs
 obtain⟨pa1,ka1,ca1,rfl,_⟩:=hq
 obtain⟨pb1,kb1,cb1,rfl,_⟩:=hs
 clear g2 g5 g6
 repeat(refine Lb (v:=?_) g7 rfl rfl (fun w' hg=>?_) (fun K hK=>?_);rotate_left;(go_simp;rfl);go_simp;refine hK _ _ ?_;clear hK K)
 obtain⟨sa,hsa⟩:∃ sa,decide (f < 0)=sa:=⟨_,rfl⟩
 have HQ:=ξ (show IntC _ (.agg #[.bool sa,.slice pa1 ka1 ca1]) f by rw[← hsa];exact HQ.out)
 rw[hsa]
 clear hsa
 generalize decide (z - f * (q:Int) < 0)=sb at HS ⊢
 refine O3 rfl rfl (fun K w8 b12 g8 f2 n2 hK=>hK _ _ ?_)
 clear hK K
 refine O3 rfl rfl (fun K w9 b13 g9 f3 n3 hK=>hK _ _ ?_)
 clear hK K
 have T2':=f2.two
 have T3':=f3.two
 clear f2 f3
 refine La rfl rfl (fun K hK w10 g10=>?_)
 have e2:=T2'.grow (g9.trans g10)
 have d0:=e2.c0 w10 (Gr.refl _)
 have d1:=e2.c1 w10 (Gr.refl _)
 have d2:=e2.f0 0
 have d3:=e2.f0 1
 go_simp
 refine⟨fun h=>Bool.noConfusion h,hK _ _ ?_⟩
 clear hK K
 have h11:=(g7.trans (g8.trans (g9.trans g10))).two n2 (.bool sa) (.slice pa1 ka1 ca1)
 have U2:=e2.set (.bool sa) (.slice pa1 ka1 ca1)
 have e3:=(T3'.grow g10).other (fun e=>n3 (.inr e)) (.bool sa) (.slice pa1 ka1 ca1)
 have HQ:=ξ ((HQ.out.grow (g8.trans (g9.trans g10))).keepBox e2 (.bool sa) (.slice pa1 ka1 ca1))
 have HS:=ξ ((HS.out.grow (g8.trans (g9.trans g10))).keepBox e2 (.bool sa) (.slice pa1 ka1 ca1))
 clear d0 d1 d2 d3 e2 T2' T3'
 generalize (w10.setCell _ _).setCell _ _=w11 at h11 U2 e3 HQ HS ⊢
 refine La rfl rfl (fun K hK w12 g12=>?_)
 have e3:=e3.grow g12
 have d0:=e3.c0 w12 (Gr.refl _)
 have d1:=e3.c1 w12 (Gr.refl _)
 have d2:=e3.f0 0
 have d3:=e3.f0 1
 go_simp
 refine⟨fun h=>Bool.noConfusion h,hK _ _ ?_⟩
 clear hK K
 have h13:=(h11.trans g12).two (fun h=>n3 (.inl h)) (.bool sb) (.slice pb1 kb1 cb1)
 have U3:=e3.set (.bool sb) (.slice pb1 kb1 cb1)
 have U2:=(U2.grow g12).other (fun e=>n3 (.inr e.symm)) (.bool sb) (.slice pb1 kb1 cb1)
 have HQ:=ξ ((HQ.out.grow g12).keepBox e3 (.bool sb) (.slice pb1 kb1 cb1))
 have HS:=ξ ((HS.out.grow g12).keepBox e3 (.bool sb) (.slice pb1 kb1 cb1))
 clear d0 d1 d2 d3 e3
 generalize (w12.setCell _ _).setCell _ _=W2 at h13 U2 U3 HQ HS ⊢
 repeat(refine Lb (v:=?_) h13 rfl rfl (fun w' hg=>?_) (fun K hK=>?_);rotate_left;(go_simp;rfl);go_simp;refine hK _ _ ?_;clear hK K)
 refine Ri ?_
 have TQ:=ξ U2
 have TS:=ξ U3
 clear h11 U2 U3 n2 n3 g7 g8 g9 g10 g12 g0
 clear T0_0 T0_1 T0_2
 have G:=ξ (G.out.trans h13)
 have T0:=ξ (T0.out.grow h13)
 clear h13
 have TS_0:=TS.out.load.1
 have TS_1:=TS.out.load.2
 go_wp2_with fail
 obtain⟨sr,hsr⟩:∃ sr,sgn (z - f * (q:Int))=sr:=⟨_,rfl⟩
 refine(Ur W2 _ _ sr (L+2) (HS.out.v HRl.out) hsr (by omega)).mono ?_
 rintro _ w8 ⟨_,rfl,g8,rfl⟩
 clear TS_0 TS_1
 have G:=ξ (G.out.trans g8)
 have T0:=ξ (T0.out.grow g8)
 have TQ:=ξ (TQ.out.grow g8)
 have TS:=ξ (TS.out.grow g8)
 have HQ:=ξ (HQ.out.grow g8)
 have HS:=ξ (HS.out.grow g8)
 clear g8
 by_cases h0:z - f * (q:Int)=0
 ·have hs0:sr=0:=by rw[← hsr,h0];rfl
  subst hs0
  have hm:z.tmod q=0:=by rw[← HR.out];exact h0
  have hfz:f=(mkRat z q).num:=by rw[J4f z Hq.out hm,← J05];exact HF.out.symm
  have htf:fits f=t:=by rw[← HT.out,(Sd z Hq.out).2 hm,hfz];simp
  have HX:=ξ hfz
  clear hsr h0 hm hfz
  have TQ_0:=TQ.out.load.1
  have TQ_1:=TQ.out.load.2
  go_wp2_with fail
  refine(J3s w8 _ _ _ f t (Uz f) htf HQ.out).mono ?_
  rintro _ w9 ⟨_,rfl,g9,rfl⟩
  clear TQ_0 TQ_1
  have G:=ξ (G.out.trans g9)
  have T0:=ξ (T0.out.grow g9)
  have TQ:=ξ (TQ.out.grow g9)
  have TS:=ξ (TS.out.grow g9)
  have HQ:=ξ (HQ.out.grow g9)
  have HS:=ξ (HS.out.grow g9)
  clear g9
  clear htf
  cases t
  all_goals
   go_wp2_with fail
   go_ret2
   exact⟨_,rfl,G.out,by first|rfl|(rw[← HX.out];rfl)⟩
 ·have hs0:¬ sr=0:=by rw[← hsr];unfold sgn;split<;>simp_all
  have hm:¬ z.tmod q=0:=by rw[← HR.out];exact h0
  have ht2:t=false:=by
   rw[← HT.out,decide_eq_false (fun e=>hm ((Sd z Hq.out).1 e))];rfl
  subst ht2
  clear hsr h0 hm
  go_wp2_with fail
  go_ret2
  exact⟨_,rfl,G.out,rfl⟩
def validQ (n:Bool)(l d:List Nat):Bool:=(decide (trimL l=l) && !(n && l.isEmpty)) && (decide (trimL d=d) && (d.isEmpty || (decide (1 < nval d) && decide (Nat.gcd (nval l) (nval d)=1))))
theorem Vs (k:Nat):0 < cmpZ (k:Int) ((1:Nat):Int)↔1 < k:=by
 unfold cmpZ
 split<;>(try split)<;>omega
theorem J09 (w:World)(va:Value)(n:Bool)(l d:List Nat)(t:Bool)(L:Nat)(ha:RatL w va n l d)(hl:l.length≤L)(hd:d.length≤L)(hL:L≤1000)(ht:validQ n l d=t):
  Calls Tryz.prog 118 #[va] w (Ret w fun r w'=>r = .bool t):=by
 have HT:=ξ ht
 obtain⟨p,k,c,q,m,e,rfl,h1,h2⟩:=ha
 have HN:=ξ h1
 have HD:=ξ h2
 have hm:=h2.len
 have Hm:=ξ hm
 clear h1 h2 ht
 obtain⟨v1,hv1⟩:∃ v,(decide (trimL l=l) && !(n && l.isEmpty))=v:=⟨_,rfl⟩
 obtain⟨v2,hv2⟩:∃ v,decide (trimL d=d)=v:=⟨_,rfl⟩
 have HV1:=ξ hv1
 have HV2:=ξ hv2
 clear hv1 hv2
 have B:=box3 w (.bool n) (.slice p k c) (.slice q m e) 68
 go_enter Tryz.func118,Tryz.ntmps118
 go_wp2_with fail
 generalize w.alloc _=W at B ⊢
 obtain⟨G0,t0⟩:=B
 generalize hb0:w.heap.size=b0 at t0  ⊢
 have Hb0:=ξ (show ¬ b0 < w.heap.size by omega)
 have G:=ξ G0
 have T0:=ξ t0
 clear hb0 G0 t0
 have HN:=ξ (HN.out.grow G.out)
 have HD:=ξ (HD.out.grow G.out)
 refine(J3v W _ n l v1 ⟨p,k,c,rfl,HN.out⟩ (by omega) HV1.out).mono ?_
 rintro _ w1 ⟨_,rfl,g1,rfl⟩
 have G:=ξ (G.out.trans g1)
 have T0:=ξ (T0.out.grow g1)
 have HN:=ξ (HN.out.grow g1)
 have HD:=ξ (HD.out.grow g1)
 clear g1
 have ht:=HT.out
 unfold validQ at ht
 rw[HV1.out,HV2.out] at ht
 cases v1
 ·have ht2:t=false:=by rw[← ht];rfl
  subst ht2
  clear ht
  go_wp2_with fail
  go_ret
  exact⟨_,rfl,G.out,rfl⟩
 ·simp only[Bool.true_and] at ht
  have Ht:=ξ ht
  clear ht
  have T0_0:=T0.out.load.1
  have T0_1:=T0.out.load.2.1
  have T0_2:=T0.out.load.2.2
  go_wp2_with fail
  refine(Za w1 _ d HD.out (by omega)).mono ?_
  rintro _ _ ⟨rfl,rfl⟩
  rw[HV2.out]
  have ht:=Ht.out
  cases v2
  ·have ht2:t=false:=by rw[← ht];rfl
   subst ht2
   clear ht
   go_wp2_with fail
   go_ret
   exact⟨_,rfl,G.out,rfl⟩
  ·simp only[Bool.true_and] at ht
   have Ht:=ξ ht
   clear ht
   go_wp2_with fail
   refine(L3 w1 1 (by decide)).mono ?_
   rintro _ w2 ⟨r2,rfl,g2,h2⟩
   clear T0_0 T0_1 T0_2
   have G:=ξ (G.out.trans g2)
   have T0:=ξ (T0.out.grow g2)
   have HN:=ξ (HN.out.grow g2)
   have HD:=ξ (HD.out.grow g2)
   clear g2
   have H2:=ξ h2
   clear h2
   by_cases h0:m=0
   ·have ht2:t=true:=by
     rw[← Ht.out,List.eq_nil_of_length_eq_zero (show d.length=0 by rw[Hm.out];exact h0)];rfl
    subst ht2
    subst h0
    have T0_0:=T0.out.load.1
    have T0_1:=T0.out.load.2.1
    have T0_2:=T0.out.load.2.2
    go_wp2_with fail
    go_ret
    exact⟨_,rfl,G.out,rfl⟩
   ·have hde:d.isEmpty=false:=by cases d with
     | nil=>exact absurd Hm.out.symm h0
     | cons _ _=>rfl
    have ht:=Ht.out
    rw[hde,Bool.false_or] at ht
    have Ht:=ξ ht
    have hm0:¬ (m:Int)=0:=by omega
    have Hh0:=ξ h0
    clear ht hde h0
    have T0_0:=T0.out.load.1
    have T0_1:=T0.out.load.2.1
    have T0_2:=T0.out.load.2.2
    go_wp2_with fail
    obtain⟨c1,hc1⟩:∃ c,cmpZ (nval d:Int) ((1:Nat):Int)=c:=⟨_,rfl⟩
    refine(Pp w2 _ _ (nval d) 1 L 1 c1 ⟨_,HD.out,rfl,hd⟩ ⟨_,H2.out,Je _,by decide +kernel⟩ hc1 (by omega) (by decide)).mono ?_
    rintro _ w3 ⟨_,rfl,g3,rfl⟩
    clear T0_0 T0_1 T0_2
    have G:=ξ (G.out.trans g3)
    have T0:=ξ (T0.out.grow g3)
    have HN:=ξ (HN.out.grow g3)
    have HD:=ξ (HD.out.grow g3)
    have H2:=ξ (H2.out.grow g3)
    clear g3
    by_cases hp:1 < nval d
    ·have hcp:c1 > 0:=by rw[← hc1];exact(Vs _).2 hp
     have ht:=Ht.out
     rw[decide_eq_true hp,Bool.true_and] at ht
     have Ht:=ξ ht
     clear ht hp hc1
     have T0_0:=T0.out.load.1
     have T0_1:=T0.out.load.2.1
     have T0_2:=T0.out.load.2.2
     go_wp2_with fail
     refine(Tf w3 _ _ l d _ _ HN.out HD.out rfl rfl (by omega) (by omega)).mono ?_
     rintro _ w4 ⟨r4,rfl,g4,h4⟩
     clear T0_0 T0_1 T0_2
     have G:=ξ (G.out.trans g4)
     have T0:=ξ (T0.out.grow g4)
     have HN:=ξ (HN.out.grow g4)
     have HD:=ξ (HD.out.grow g4)
     have H2:=ξ (H2.out.grow g4)
     clear g4
     have H4:=ξ h4
     clear h4
     go_wp2_with fail
     obtain⟨c2,hc2⟩:∃ c,cmpZ (Nat.gcd (nval l) (nval d):Nat) ((1:Nat):Int)=c:=⟨_,rfl⟩
     have hgl:(digs (Nat.gcd (nval l) (nval d))).length≤L+1:=by
      refine Nat.le_trans (Kn (b:=nval l+nval d) ?_) (N1 (Nat.le_trans (Kg HN.out.dig) hl) (Nat.le_trans (Kg HD.out.dig) hd))
      rcases Nat.eq_zero_or_pos (nval l) with h|h
      ·rw[h,Nat.gcd_zero_left];omega
      ·exact Nat.le_trans (Nat.gcd_le_left _ h) (by omega)
     refine(Pp w4 _ _ _ 1 (L+1) 1 c2 ⟨_,H4.out,Je _,hgl⟩ ⟨_,H2.out,Je _,by decide +kernel⟩ hc2 (by omega) (by decide)).mono ?_
     rintro _ w5 ⟨_,rfl,g5,rfl⟩
     have G:=ξ (G.out.trans g5)
     have T0:=ξ (T0.out.grow g5)
     have HN:=ξ (HN.out.grow g5)
     have HD:=ξ (HD.out.grow g5)
     have H2:=ξ (H2.out.grow g5)
     have H4:=ξ (H4.out.grow g5)
     clear g5
     by_cases hg:Nat.gcd (nval l) (nval d)=1
     ·have hc0:c2=0:=by rw[← hc2];exact(Ol _).2 hg
      have ht2:t=true:=by rw[← Ht.out];exact decide_eq_true hg
      subst ht2
      subst hc0
      clear hc2 hg
      go_wp2_with fail
      go_ret
      exact⟨_,rfl,G.out,rfl⟩
     ·have hc0:¬ c2=0:=by rw[← hc2];exact fun h=>hg ((Ol _).1 h)
      have ht2:t=false:=by rw[← Ht.out];exact decide_eq_false hg
      subst ht2
      clear hc2 hg
      go_wp2_with fail
      go_ret
      exact⟨_,rfl,G.out,by simp[hc0,Hh0.out]⟩
    ·have hcp:¬ c1 > 0:=by rw[← hc1];exact fun h=>hp ((Vs _).1 h)
     have ht2:t=false:=by rw[← Ht.out,decide_eq_false hp];rfl
     subst ht2
     clear hp hc1
     go_wp2_with fail
     go_ret
     exact⟨_,rfl,G.out,by simp[Hh0.out]⟩
def intText (z:Int):List UInt8:=if z < 0 then 45 :: decDigits z.natAbs else decDigits z.natAbs
def ratText (x:Rat):List UInt8:=if x.den=1 then intText x.num else intText x.num ++ 47 :: decDigits x.den
theorem J3l {z:Int}{L:Nat}(h:(digs z.natAbs).length≤L):(intText z).length≤10 * L+2:=by
 have:=Qi (Kl h)
 unfold intText
 split<;>simp<;>omega
theorem J5f (w:World)(va:Value)(x:Rat)(L:Nat)(s:List UInt8)(ha:RatV w va x L)(hs:ratText x=s)(hL:L≤1000)(h1:1≤L)(htab:Tab w):
  Calls Tryz.prog 119 #[va] w (Ret w fun r w'=>r = .string ⟨s.toArray⟩):=by
 have HS:=ξ hs
 have HZ:=ξ (ha.sz h1)
 obtain⟨z,q,ha2,rfl⟩:=ha.p
 have HA:=ξ ha2
 have HTab:=ξ htab
 obtain⟨s0,p0,k0,c0,e0,m0,n0,rfl⟩:=ha2.agg
 have HN:=ξ ha2.num
 have Hq:=ξ ha2.ne
 clear ha ha2 hs htab
 have B:=box3 w (.bool s0) (.slice p0 k0 c0) (.slice e0 m0 n0) 68
 go_enter Tryz.func119,Tryz.ntmps119
 go_wp2_with fail
 generalize w.alloc _=W at B ⊢
 obtain⟨G0,t0⟩:=B
 generalize hb0:w.heap.size=b0 at t0  ⊢
 have Hb0:=ξ (show ¬ b0 < w.heap.size by omega)
 have G:=ξ G0
 have T0:=ξ t0
 clear hb0 G0 t0
 have HA:=ξ (HA.out.grow G.out)
 have HN:=ξ (HN.out.grow G.out)
 refine Jp [(0,true),(1,true),(2,true),(3,false),(4,false),(5,false)] (by kernel_rfl) (by kernel_rfl) rfl (by kernel_rfl) (fun _ _ d _ _ h=>by cases d<;>exact h) ?_
 have T0_0:=T0.out.c0
 have T0_1:=T0.out.c1
 have T0_2:=T0.out.c2
 have g0:Gr W W.drew:=(Gr.refl _).drew
 have G:=ξ (G.out.trans g0)
 have T0:=ξ (T0.out.grow g0)
 have HA:=ξ (HA.out.grow g0)
 have HN:=ξ (HN.out.grow g0)
 repeat(refine Jf (v:=?_) g0 rfl rfl (fun w' hg=>?_) (fun K hK=>?_);rotate_left;(go_simp;rfl);go_simp;refine hK _ _ ?_;clear hK K)
 refine Jd (args:=?_) rfl rfl rfl rfl rfl rfl (by kernel_rfl) (by kernel_rfl) ?_ (fun K hK=>?_)
 rotate_left
 ·go_simp;rfl
 refine(Mi _ _ z q L HA.out (by omega)).mono ?_
 rintro _ w1 ⟨r1,rfl,g1,h1⟩
 refine⟨_,rfl,g1,?_⟩
 go_simp
 refine hK _ _ ?_
 clear hK K
 have G:=ξ (G.out.trans g1)
 have T0:=ξ (T0.out.grow g1)
 have HA:=ξ (HA.out.grow g1)
 have HN:=ξ (HN.out.grow g1)
 replace g0:=g0.trans g1
 clear g1
 have H1:=ξ h1
 clear h1
 refine Jd (args:=?_) rfl rfl rfl rfl rfl rfl (by kernel_rfl) (by kernel_rfl) ?_ (fun K hK=>?_)
 rotate_left
 ·go_simp;rfl
 refine(Q2 _ _ _ z q L (L+1) HN.out H1.out (by have:=Hq.out;omega) (by omega) (by omega)).mono ?_
 rintro _ w2 ⟨r2,rfl,g2,h2⟩
 refine⟨_,rfl,g2,?_⟩
 go_simp
 refine hK _ _ ?_
 clear hK K
 have G:=ξ (G.out.trans g2)
 have T0:=ξ (T0.out.grow g2)
 have HA:=ξ (HA.out.grow g2)
 have HN:=ξ (HN.out.grow g2)
 have H1:=ξ (H1.out.grow g2)
 replace g0:=g0.trans g2
 clear g2
 have H2:=ξ h2
 clear h2
 have HV:=ξ (show RatC _ _ (mkRat z q) by have h:=H2.out;rw[Rat.divInt_ofNat] at h;exact h)
 generalize mkRat z q=x at HV HZ HS
 obtain⟨p8,k8,c8,e8,m8,n8,rfl,hn8,hd8⟩:=HV.out
 have HN8:=ξ hn8
 have HD8:=ξ hd8
 have hm8:=hd8.len
 clear hn8 hd8
 obtain⟨s8,hs8⟩:∃ s,decide (x.num < 0)=s:=⟨_,rfl⟩
 rw[hs8] at HV H2 ⊢
 have Hs8:=ξ hs8
 clear hs8
 clear T0_0 T0_1 T0_2
 have T0_0:=T0.out.load.1
 have T0_f0:=T0.out.f0 0
 have T0_1:=T0.out.load.2.1
 have T0_f1:=T0.out.f0 1
 have T0_2:=T0.out.load.2.2
 have T0_f2:=T0.out.f0 2
 refine Jj rfl rfl (fun K hK=>?_)
 go_simp
 refine⟨fun h=>Bool.noConfusion h,hK _ _ ?_⟩
 clear hK K
 clear T0_0 T0_1 T0_2 T0_f0 T0_f1 T0_f2
 have hu:=upd3 w2 b0 (.bool s8) (.slice p8 k8 c8) (.slice e8 m8 n8)
 have HV:=ξ (HV.out.upd T0.out.noInt hu)
 have HN8:=ξ (HN8.out.upd T0.out.noInt hu)
 have HD8:=ξ (HD8.out.upd T0.out.noInt hu)
 have T0:=ξ (T0.out.set (.bool s8) (.slice p8 k8 c8) (.slice e8 m8 n8))
 have G:=ξ (G.out.three Hb0.out (.bool s8) (.slice p8 k8 c8) (.slice e8 m8 n8))
 clear hu
 generalize ((w2.setCell _ _).setCell _ _).setCell _ _=W1 at G T0 HV HN8 HD8 ⊢
 refine Ji ?_
 clear g0
 by_cases hd1:x.den=1
 ·have h0:m8=0:=by rw[← hm8,hd1];rfl
  subst h0
  have HS:=ξ (show intText x.num=s by rw[← HS.out];unfold ratText;rw[if_pos hd1])
  clear hm8 hd1
  have T0_0:=T0.out.load.1
  have T0_1:=T0.out.load.2.1
  have T0_2:=T0.out.load.2.2
  go_wp2_with fail
  refine(Yd W1 _ x.num L s ⟨_,_,_,by rw[Hs8.out],HN8.out⟩ HZ.out.1 (by omega) (HTab.out.grow G.out) HS.out).mono ?_
  rintro _ w3 ⟨_,rfl,g3,rfl⟩
  clear T0_0 T0_1 T0_2
  have G:=ξ (G.out.trans g3)
  have T0:=ξ (T0.out.grow g3)
  have HV:=ξ (HV.out.grow g3)
  have HN8:=ξ (HN8.out.grow g3)
  have HD8:=ξ (HD8.out.grow g3)
  clear g3
  go_wp2_with fail
  go_ret
  exact⟨_,rfl,G.out,rfl⟩
 ·have h0:¬ (m8:Int)=0:=by
   have:m8≠0:=by
    rw[← hm8];unfold dd;rw[if_neg hd1]
    intro h
    have:=List.eq_nil_of_length_eq_zero h
    rw[J7] at this
    exact x.den_nz this
   omega
  have HD9:=ξ (show NatL W1 (.slice e8 m8 n8) (digs x.den) by have h:=HD8.out;unfold dd at h;rw[if_neg hd1] at h;exact h)
  obtain⟨ta,hta⟩:∃ ta,intText x.num=ta:=⟨_,rfl⟩
  obtain⟨tb,htb⟩:∃ tb,decDigits x.den=tb:=⟨_,rfl⟩
  have hla:ta.length≤10002:=by rw[← hta];exact Nat.le_trans (J3l HZ.out.1) (by omega)
  have hlb:tb.length≤10001:=by rw[← htb];exact Nat.le_trans (Qi (Kl HZ.out.2)) (by omega)
  have HS:=ξ (show ta ++ 47 :: tb=s by rw[← HS.out];unfold ratText;rw[if_neg hd1,hta,htb])
  have Hta:=ξ hta
  have Htb:=ξ htb
  have hlim:¬ 9223372036854775807 < ta.length+1:=by omega
  have hlim2:¬ 9223372036854775807 < ta.length+1+tb.length:=by omega
  have hcat:=ξ (ByteArray.mk_append_mk ta [47])
  have hcat2:=ξ (ByteArray.mk_append_mk (ta ++ [47]) tb)
  clear hm8 hd1 hta htb
  have T0_0:=T0.out.load.1
  have T0_1:=T0.out.load.2.1
  have T0_2:=T0.out.load.2.2
  go_wp2_with fail
  refine Jp [(0,true),(1,true),(4,true),(5,true),(2,false),(3,true),(6,false),(7,true),(8,true)] (by kernel_rfl) (by kernel_rfl) rfl (by kernel_rfl) (fun _ _ d _ _ h=>by cases d<;>exact h) ?_
  clear T0_0 T0_1 T0_2
  have T0_0:=T0.out.c0
  have T0_1:=T0.out.c1
  have T0_2:=T0.out.c2
  have g0:Gr W1 W1.drew:=(Gr.refl _).drew
  have G:=ξ (G.out.trans g0)
  have T0:=ξ (T0.out.grow g0)
  have HV:=ξ (HV.out.grow g0)
  have HN8:=ξ (HN8.out.grow g0)
  have HD8:=ξ (HD8.out.grow g0)
  have HD9:=ξ (HD9.out.grow g0)
  repeat(refine Jf (v:=?_) g0 rfl rfl (fun w' hg=>?_) (fun K hK=>?_);rotate_left;(go_simp;rfl);go_simp;refine hK _ _ ?_;clear hK K)
  refine Jd (args:=?_) rfl rfl rfl rfl rfl rfl (by kernel_rfl) (by kernel_rfl) ?_ (fun K hK=>?_)
  rotate_left
  ·go_simp;rfl
  refine(Yd _ _ x.num L ta ⟨_,_,_,by rw[Hs8.out],HN8.out⟩ HZ.out.1 (by omega) (HTab.out.grow G.out) Hta.out).mono ?_
  rintro _ w3 ⟨_,rfl,g3,rfl⟩
  refine⟨_,rfl,g3,?_⟩
  go_simp
  refine hK _ _ ?_
  clear hK K
  have G:=ξ (G.out.trans g3)
  have T0:=ξ (T0.out.grow g3)
  have HV:=ξ (HV.out.grow g3)
  have HN8:=ξ (HN8.out.grow g3)
  have HD8:=ξ (HD8.out.grow g3)
  have HD9:=ξ (HD9.out.grow g3)
  replace g0:=g0.trans g3
  clear g3
  repeat(refine Jf (v:=?_) g0 rfl rfl (fun w' hg=>?_) (fun K hK=>?_);rotate_left;(go_simp;rfl);go_simp;refine hK _ _ ?_;clear hK K)
  refine Jd (args:=?_) rfl rfl rfl rfl rfl rfl (by kernel_rfl) (by kernel_rfl) ?_ (fun K hK=>?_)
  rotate_left
  ·go_simp;rfl
  refine(Th _ _ _ HD9.out (Nat.le_trans HZ.out.2 (by omega)) (HTab.out.grow G.out)).mono ?_
  rintro _ w4 ⟨_,rfl,g4,rfl⟩
  refine⟨_,rfl,g4,?_⟩
  go_simp
  refine hK _ _ ?_
  clear hK K
  have G:=ξ (G.out.trans g4)
  have T0:=ξ (T0.out.grow g4)
  have HV:=ξ (HV.out.grow g4)
  have HN8:=ξ (HN8.out.grow g4)
  have HD8:=ξ (HD8.out.grow g4)
  have HD9:=ξ (HD9.out.grow g4)
  replace g0:=g0.trans g4
  clear g4
  rw[Je,Htb.out]
  repeat(refine Jf (v:=?_) g0 rfl rfl (fun w' hg=>?_) (fun K hK=>?_);rotate_left;(go_simp;rfl);go_simp;refine hK _ _ ?_;clear hK K)
  refine Ji ?_
  clear g0
  clear T0_0 T0_1 T0_2
  go_wp2_with fail
  go_ret
  refine⟨_,rfl,G.out,?_⟩
  show Value.string (((⟨ta.toArray⟩:ByteArray) ++ ⟨[47].toArray⟩) ++ ⟨tb.toArray⟩)=_
  rw[hcat.out,hcat2.out,← HS.out,List.append_assoc]
  rfl
theorem J5F (w:World)(va vb:Value)(la lb:List Nat)(x y:Nat)(ha:NatL w va la)(hb:NatL w vb lb)(hx:nval la=x)(hy:nval lb=y)(hla:la.length≤900000)(hlb:lb.length≤900000):
  Calls Tryz.prog 212 #[va,vb] w (Ret w fun r w'=>NatL w' r (digs (Nat.gcd x y))):=by
 have HA:=ξ ha
 have HB:=ξ hb
 have HX:=ξ hx
 have HY:=ξ hy
 have HLx:=ξ (show(digs x).length≤900000 by rw[← hx];exact Nat.le_trans (Nc ha.dig) hla)
 have HLy:=ξ (show(digs y).length≤900000 by rw[← hy];exact Nat.le_trans (Nc hb.dig) hlb)
 clear ha hb hx hy
 go_enter Tryz.func212,Tryz.ntmps212
 go_wp2_with fail
 refine(Li w va la HA.out (by omega)).mono ?_
 rintro _ w1 ⟨v1,rfl,g1,h1⟩
 rw[K7,HX.out] at h1
 have H1:=ξ h1
 have G1:=ξ g1
 clear h1 g1
 go_wp2_with fail
 refine(Li w1 vb lb (HB.out.grow G1.out) (by omega)).mono ?_
 rintro _ w2 ⟨v2,rfl,g2,h2⟩
 rw[K7,HY.out] at h2
 have H2:=ξ h2
 have H1:=ξ (H1.out.grow g2)
 have G2:=ξ (G1.out.trans g2)
 clear h2 g2
 go_wp2_with fail
 go_loopw [0,1] (fun u v w3=>∃ a b:Nat,NatL w3 u (digs a)∧NatL w3 v (digs b)∧(digs a).length≤900000∧(digs b).length≤900000∧Nat.gcd a b=Nat.gcd x y∧Gr w2 w3) (fun _ v w3=>readN w3 v)
 case atStart=>exact⟨x,y,H1.out,H2.out,HLx.out,HLy.out,rfl,Gr.refl _⟩
 case round=>
  obtain⟨a,b,ha,hb,hal,hbl,hg,hgr⟩:=hrel
  have hrd:=ξ (Q3 hb)
  have HA:=ξ ha
  have HB:=ξ hb
  have Hg:=ξ hg
  have Hgr:=ξ hgr
  obtain⟨pa,ka,ca,rfl,hka⟩:=ha.slice
  obtain⟨pb,kb,cb,rfl,hkb⟩:=hb.slice
  have Hkb:=ξ hkb
  have kb1:kb≤900000:=by rw[hkb];exact hbl
  have HAl:=ξ hal
  have HBl:=ξ hbl
  clear ha hb hg hgr hka hkb hal hbl
  by_cases h0:b=0
  ·obtain rfl:kb=0:=by rw[Hkb.out,h0];simp[J7.2]
   subst h0
   go_wp2_with fail
   go_ret
   refine⟨_,rfl,G2.out.trans Hgr.out,?_⟩
   rw[← Hg.out,Nat.gcd_zero_right]
   exact HA.out
  ·have hk0:0 < kb:=by rw[Hkb.out];exact List.length_pos_iff.2 (fun e=>h0 (J7.1 e))
   have Hdm:=ξ (Tu _ _ _ (digs a) (digs b) HA.out HB.out (Nat.le_trans HAl.out (by decide)) (Nat.le_trans HBl.out (by decide)) (by rw[Je];omega))
   have Hmod:=ξ (Nat.mod_lt a (show 0 < b by omega))
   have Hfin:=ξ (show ∀ (w4:World) (q r:Value),NatL w4 r (digs (a % b))→Gr wr w4→(∃ a' b':Nat,NatL w4 (.slice pb kb cb) (digs a')∧NatL w4 r (digs b')∧(digs a').length≤900000∧(digs b').length≤900000∧Nat.gcd a' b'=Nat.gcd x y∧Gr w2 w4)∧readN w4 r < readN wr (.slice pb kb cb) from fun w4 q r hr hg4=>by
    refine⟨⟨b,a % b,HB.out.grow hg4,hr,HBl.out,Nat.le_trans (Om (Nat.le_of_lt Hmod.out)) HBl.out,by rw[Sw];exact Hg.out,Hgr.out.trans hg4⟩,?_⟩
    rw[Q3 hr,hrd.out,Je,Je]
    exact Hmod.out)
   go_wp2_with fail
   refine Hdm.out.mono ?_
   rintro _ w4 ⟨_,rfl,g4,q,r,rfl,hq,hr⟩
   rw[Je,Je] at hr
   have F:=ξ (Hfin.out w4 q r hr g4)
   clear hq hr g4
   go_wp2_with fail
   exact F.out
theorem natOne (w:World):Gr w (w.alloc (.cells #[.int .u32 1] 153))∧NatL (w.alloc (.cells #[.int .u32 1] 153)) (.slice (some ⟨w.heap.size,0,none⟩) 1 1) (digs 1):=
 ⟨(Gr.refl w).alloc _,by rw[show digs 1=[1] from J2o (by rw[Jc];decide) (by decide)];exact NatL.one w 1 1 rfl (by rw[Jc];decide) _⟩
theorem J2f (d:List Nat):(trimL d=[]→denV d=1)∧(trimL d≠[]→denV d=nval d):=by
 have e:digs (nval d)=trimL d:=(K7 d).symm
 unfold denV
 constructor
 ·intro h;rw[h,J7] at e;rw[if_pos e]
 ·intro h;rw[if_neg];intro h2;rw[h2,Kk] at e;exact h e.symm
theorem Nz (w:World)(va:Value)(z:Int)(q L:Nat)(ha:RatP w va z q L)(hL:L≤100000):
  Calls Tryz.prog 160 #[va] w (Ret w fun r w'=>NatL w' r (digs q)):=by
 obtain⟨s0,p0,k0,c0,e0,m0,n0,rfl⟩:=ha.agg
 obtain⟨d,hd,rfl,hdl⟩:=ha.den
 have HD:=ξ hd
 have HV:=ξ (J2f d)
 clear ha hd
 have B:=box3 w (.bool s0) (.slice p0 k0 c0) (.slice e0 m0 n0) 68
 go_enter Tryz.func160,Tryz.ntmps160
 go_wp2_with fail
 generalize w.alloc _=W at B ⊢
 obtain⟨G0,t0⟩:=B
 generalize hb0:w.heap.size=b0 at t0  ⊢
 have Hb0:=ξ (show ¬ b0 < w.heap.size by omega)
 have G:=ξ G0
 have T0:=ξ t0
 clear hb0 G0 t0
 have HD:=ξ (HD.out.grow G.out)
 refine(Li W _ d HD.out (by omega)).mono ?_
 rintro _ w1 ⟨r1,rfl,g1,h1⟩
 have G:=ξ (G.out.trans g1)
 have T0:=ξ (T0.out.grow g1)
 have HD:=ξ (HD.out.grow g1)
 clear g1
 have H1:=ξ h1
 clear h1
 obtain⟨p1,k1,c1,rfl,hk1⟩:=H1.out.slice
 by_cases h0:trimL d=[]
 ·have hk:k1=0:=by rw[hk1,h0];rfl
  subst hk
  have HV2:=ξ (HV.out.1 h0)
  have B:=natOne w1
  clear h0 hk1
  go_wp2_with fail
  go_ret
  refine⟨_,rfl,G.out.trans B.1,?_⟩
  rw[HV2.out]
  exact B.2
 ·have hk:¬ (k1:Int)=0:=by
   have:trimL d≠[]:=h0
   have:=List.length_pos_iff.2 this
   omega
  have HV2:=ξ (show NatL w1 (.slice p1 k1 c1) (digs (denV d)) by rw[HV.out.2 h0,← K7];exact H1.out)
  clear h0 hk1
  go_wp2_with fail
  go_ret
  exact⟨_,rfl,G.out,HV2.out⟩
theorem NatV.upd {w w':World}{v:Value}{x L b:Nat}(h:NatV w v x L)(hb:Ki w b)(hu:Upd b w w'):NatV w' v x L:=by
 obtain⟨l,h1,h2⟩:=h;exact⟨l,h1.upd hb hu,h2⟩
theorem J3S (z:Int){q:Nat}(hq:q≠0):zval (decide (z < 0)) (digs (z.natAbs / Nat.gcd z.natAbs q))=(mkRat z q).num:=by
 rw[← S9 z q hq,show decide (z < 0)=decide ((mkRat z q).num < 0) from decide_eq_decide.2 (Ta z q hq).symm]
 exact Uz _
theorem R7 (w:World)(va vb:Value)(z:Int)(q L M:Nat)(ha:IntV w va z L)(hb:NatV w vb q M)(hq:q≠0)(hL:L≤100000)(hM:M≤100000):
  Calls Tryz.prog 161 #[va,vb] w (Ret w fun r w'=>RatC w' r (mkRat z q)):=by
 have HA:=ξ ha
 have HB:=ξ hb
 obtain⟨s0,p0,k0,c0,rfl⟩:=ha.agg
 clear ha hb
 have B:=box23 w (.bool s0) (.slice p0 k0 c0) (.bool false) (.slice none 0 0) (.slice none 0 0) 66 68
 have Hb1:=ξ (show ¬ w.heap.size+1 < w.heap.size by omega)
 have Hd01:=ξ (show w.heap.size≠w.heap.size+1 by omega)
 go_enter Tryz.func161,Tryz.ntmps161
 go_wp2_with fail
 generalize (w.alloc _).alloc _=W at B ⊢
 obtain⟨G0,t0,t1⟩:=B
 generalize w.heap.size+1=b1 at t1 Hb1 Hd01 ⊢
 generalize hb0:w.heap.size=b0 at t0 Hd01 ⊢
 have Hb0:=ξ (show ¬ b0 < w.heap.size by omega)
 have G:=ξ G0
 have T0:=ξ t0
 have T1:=ξ t1
 clear hb0 G0 t0 t1
 have HA:=ξ (HA.out.grow G.out)
 have HB:=ξ (HB.out.grow G.out)
 refine(Sf W _ z L HA.out (by omega)).mono ?_
 rintro _ w1 ⟨r1,rfl,g1,h1⟩
 have G:=ξ (G.out.trans g1)
 have T0:=ξ (T0.out.grow g1)
 have T1:=ξ (T1.out.grow g1)
 have HA:=ξ (HA.out.grow g1)
 have HB:=ξ (HB.out.grow g1)
 clear g1
 have HN:=ξ h1.1
 have HNV:=ξ h1.2
 obtain⟨p1,k1,c1,rfl⟩:=HN.out.agg
 obtain⟨s1,hs1⟩:∃ s,decide (z < 0)=s:=⟨_,rfl⟩
 rw[hs1] at HN HNV ⊢
 have Hs1:=ξ hs1
 have HNM:=ξ HN.out.mag
 clear h1 hs1
 have T0_0:=T0.out.load.1
 have T0_f0:=T0.out.f0 0
 have T0_1:=T0.out.load.2
 have T0_f1:=T0.out.f0 1
 go_wp2_with fail
 clear T0_0 T0_f0 T0_1 T0_f1
 have hu:=upd2 w1 b0 (.bool s1) (.slice p1 k1 c1)
 have HN:=ξ (HN.out.upd T0.out.noInt hu)
 have HNV:=ξ (HNV.out.upd T0.out.noInt hu)
 have HNM:=ξ (HNM.out.upd T0.out.noInt hu)
 have HB:=ξ (HB.out.upd T0.out.noInt hu)
 have T1:=ξ (T1.out.upd hu Hd01.out.symm)
 have T0:=ξ (T0.out.set (.bool s1) (.slice p1 k1 c1))
 have G:=ξ (G.out.two Hb0.out (.bool s1) (.slice p1 k1 c1))
 clear hu
 generalize (w1.setCell _ _).setCell _ _=W1 at G T0 T1 HN HNV HNM HB ⊢
 obtain⟨dl,hdl,edl,ldl⟩:=HB.out
 have HDL:=ξ hdl
 have Hzl:=ξ (HNV.out.len)
 have Hg:=ξ (show 0 < Nat.gcd z.natAbs q from Nat.gcd_pos_of_pos_right _ (by omega))
 have Hgl:=ξ (show(digs (Nat.gcd z.natAbs q)).length≤M from Sv _ hq (by rw[← edl];exact Nat.le_trans (Kg hdl.dig) ldl))
 clear hdl
 refine(J5F W1 _ _ (digs z.natAbs) dl z.natAbs q HNM.out HDL.out (Je _) edl (Nat.le_trans Hzl.out (by omega)) (by omega)).mono ?_
 rintro _ w2 ⟨r2,rfl,g2,h2⟩
 have G:=ξ (G.out.trans g2)
 have T0:=ξ (T0.out.grow g2)
 have T1:=ξ (T1.out.grow g2)
 have HN:=ξ (HN.out.grow g2)
 have HNV:=ξ (HNV.out.grow g2)
 have HNM:=ξ (HNM.out.grow g2)
 have HB:=ξ (HB.out.grow g2)
 have HDL:=ξ (HDL.out.grow g2)
 clear g2
 have H2:=ξ h2
 clear h2
 generalize hge:Nat.gcd z.natAbs q=gg at H2 Hg Hgl
 have Hge:=ξ hge
 clear hge
 have T0_0:=T0.out.load.1
 have T0_1:=T0.out.load.2
 go_wp2_with fail
 refine(Tu w2 _ _ (digs z.natAbs) (digs gg) HNM.out H2.out (Nat.le_trans Hzl.out (by omega)) (Nat.le_trans Hgl.out (by omega)) (by rw[Je];exact Hg.out)).mono ?_
 rintro _ w3 ⟨_,rfl,g3,x3,y3,rfl,hx3,hy3⟩
 rw[Je,Je] at hx3
 clear T0_0 T0_1
 have G:=ξ (G.out.trans g3)
 have T0:=ξ (T0.out.grow g3)
 have T1:=ξ (T1.out.grow g3)
 have HN:=ξ (HN.out.grow g3)
 have HNV:=ξ (HNV.out.grow g3)
 have HNM:=ξ (HNM.out.grow g3)
 have HB:=ξ (HB.out.grow g3)
 have HDL:=ξ (HDL.out.grow g3)
 have H2:=ξ (H2.out.grow g3)
 clear g3
 have H3:=ξ hx3
 clear hx3
 clear hy3
 go_wp2_with fail
 refine(Tu w3 _ _ dl (digs gg) HDL.out H2.out (by omega) (Nat.le_trans Hgl.out (by omega)) (by rw[Je];exact Hg.out)).mono ?_
 rintro _ w4 ⟨_,rfl,g4,x4,y4,rfl,hx4,hy4⟩
 rw[Je,edl] at hx4
 have G:=ξ (G.out.trans g4)
 have T0:=ξ (T0.out.grow g4)
 have T1:=ξ (T1.out.grow g4)
 have HN:=ξ (HN.out.grow g4)
 have HNV:=ξ (HNV.out.grow g4)
 have HNM:=ξ (HNM.out.grow g4)
 have HB:=ξ (HB.out.grow g4)
 have HDL:=ξ (HDL.out.grow g4)
 have H2:=ξ (H2.out.grow g4)
 have H3:=ξ (H3.out.grow g4)
 clear g4
 have H4:=ξ hx4
 clear hx4
 clear hy4
 have B:=natOne w4
 go_wp2_with fail
 generalize w4.heap.size=b4 at B ⊢
 generalize w4.alloc _=W4 at B ⊢
 obtain⟨g5,hone⟩:=B
 have G:=ξ (G.out.trans g5)
 have T0:=ξ (T0.out.grow g5)
 have T1:=ξ (T1.out.grow g5)
 have HN:=ξ (HN.out.grow g5)
 have HNV:=ξ (HNV.out.grow g5)
 have HNM:=ξ (HNM.out.grow g5)
 have HB:=ξ (HB.out.grow g5)
 have HDL:=ξ (HDL.out.grow g5)
 have H2:=ξ (H2.out.grow g5)
 have H3:=ξ (H3.out.grow g5)
 have H4:=ξ (H4.out.grow g5)
 clear g5
 obtain⟨t6,ht6⟩:∃ t,decide (digs (q / gg)=digs 1)=t:=⟨_,rfl⟩
 refine(J5G W4 _ _ _ _ H4.out hone).mono ?_
 rintro _ w6 ⟨_,rfl,g6,rfl⟩
 rw[ht6]
 clear hone
 have G:=ξ (G.out.trans g6)
 have T0:=ξ (T0.out.grow g6)
 have T1:=ξ (T1.out.grow g6)
 have HN:=ξ (HN.out.grow g6)
 have HNV:=ξ (HNV.out.grow g6)
 have HNM:=ξ (HNM.out.grow g6)
 have HB:=ξ (HB.out.grow g6)
 have HDL:=ξ (HDL.out.grow g6)
 have H2:=ξ (H2.out.grow g6)
 have H3:=ξ (H3.out.grow g6)
 have H4:=ξ (H4.out.grow g6)
 clear g6
 obtain⟨p3,k3,c3,rfl,-⟩:=H3.out.slice
 obtain⟨p4,k4,c4,rfl,-⟩:=H4.out.slice
 have HI:=ξ (show IntV w6 (.agg #[.bool s1,.slice p3 k3 c3]) (mkRat z q).num L from⟨s1,_,⟨p3,k3,c3,rfl,H3.out⟩,by rw[← Hs1.out,← Hge.out,J3S z hq],Nat.le_trans (Kn (Nat.div_le_self _ _)) Hzl.out⟩)
 have HDN:=ξ (show(mkRat z q).den=q / gg by rw[N7 z q hq,Hge.out])
 cases t6
 ·have HDD:=ξ (show NatL w6 (.slice p4 k4 c4) (dd (mkRat z q).den) by
   have h:=of_decide_eq_false ht6
   rw[HDN.out]
   unfold dd
   rw[if_neg (fun e=>h (by rw[e]))]
   exact H4.out)
  clear ht6 edl ldl
  have T0_0:=T0.out.load.1
  have T0_1:=T0.out.load.2
  go_wp2_with fail
  refine(Sf w6 _ _ L HI.out (by omega)).mono ?_
  rintro _ w7 ⟨r7,rfl,g7,h7⟩
  clear T0_0 T0_1
  have G:=ξ (G.out.trans g7)
  have T0:=ξ (T0.out.grow g7)
  have T1:=ξ (T1.out.grow g7)
  have HI:=ξ (HI.out.grow g7)
  have HDD:=ξ (HDD.out.grow g7)
  clear g7
  have HC:=ξ h7.1
  clear h7
  obtain⟨p7,k7,c7,rfl⟩:=HC.out.agg
  generalize decide ((mkRat z q).num < 0)=s7 at HC ⊢
  have HV:=ξ (RatC.mk HC.out HDD.out)
  have T1_0:=T1.out.load.1
  have T1_f0:=T1.out.f0 0
  have T1_1:=T1.out.load.2.1
  have T1_f1:=T1.out.f0 1
  have T1_2:=T1.out.load.2.2
  have T1_f2:=T1.out.f0 2
  go_wp2_with fail
  clear T1_0 T1_f0 T1_1 T1_f1 T1_2 T1_f2
  have hu:=upd3 w7 b1 (.bool s7) (.slice p7 k7 c7) (.slice p4 k4 c4)
  have HV:=ξ (HV.out.upd T1.out.noInt hu)
  have T0:=ξ (T0.out.upd hu Hd01.out)
  have T1:=ξ (T1.out.set (.bool s7) (.slice p7 k7 c7) (.slice p4 k4 c4))
  have G:=ξ (G.out.three Hb1.out (.bool s7) (.slice p7 k7 c7) (.slice p4 k4 c4))
  clear hu
  generalize ((w7.setCell _ _).setCell _ _).setCell _ _=W7 at G T0 T1 HV ⊢
  have T1_0:=T1.out.load.1
  have T1_1:=T1.out.load.2.1
  have T1_2:=T1.out.load.2.2
  refine bodyPost_ret (by simp[results,Tryz.results161,go_sem,T1_0,T1_1,T1_2];rfl) rfl ?_
  exact⟨_,rfl,G.out,HV.out⟩
 ·have HDD:=ξ (show NatL w6 (.slice none 0 0) (dd (mkRat z q).den) by
   have h:=V5 (of_decide_eq_true ht6)
   rw[HDN.out,h]
   exact NatL.nil _)
  clear ht6 edl ldl
  have T0_0:=T0.out.load.1
  have T0_1:=T0.out.load.2
  go_wp2_with fail
  refine(Sf w6 _ _ L HI.out (by omega)).mono ?_
  rintro _ w7 ⟨r7,rfl,g7,h7⟩
  clear T0_0 T0_1
  have G:=ξ (G.out.trans g7)
  have T0:=ξ (T0.out.grow g7)
  have T1:=ξ (T1.out.grow g7)
  have HI:=ξ (HI.out.grow g7)
  have HDD:=ξ (HDD.out.grow g7)
  clear g7
  have HC:=ξ h7.1
  clear h7
  obtain⟨p7,k7,c7,rfl⟩:=HC.out.agg
  generalize decide ((mkRat z q).num < 0)=s7 at HC ⊢
  have HV:=ξ (RatC.mk HC.out HDD.out)
  have T1_0:=T1.out.load.1
  have T1_f0:=T1.out.f0 0
  have T1_1:=T1.out.load.2.1
  have T1_f1:=T1.out.f0 1
  have T1_2:=T1.out.load.2.2
  have T1_f2:=T1.out.f0 2
  go_wp2_with fail
  clear T1_0 T1_f0 T1_1 T1_f1 T1_2 T1_f2
  have hu:=upd3 w7 b1 (.bool s7) (.slice p7 k7 c7) (.slice none 0 0)
  have HV:=ξ (HV.out.upd T1.out.noInt hu)
  have T0:=ξ (T0.out.upd hu Hd01.out)
  have T1:=ξ (T1.out.set (.bool s7) (.slice p7 k7 c7) (.slice none 0 0))
  have G:=ξ (G.out.three Hb1.out (.bool s7) (.slice p7 k7 c7) (.slice none 0 0))
  clear hu
  generalize ((w7.setCell _ _).setCell _ _).setCell _ _=W7 at G T0 T1 HV ⊢
  have T1_0:=T1.out.load.1
  have T1_1:=T1.out.load.2.1
  have T1_2:=T1.out.load.2.2
  refine bodyPost_ret (by simp[results,Tryz.results161,go_sem,T1_0,T1_1,T1_2];rfl) rfl ?_
  exact⟨_,rfl,G.out,HV.out⟩
theorem RatP.dlen {w:World}{v:Value}{z:Int}{q L:Nat}(h:RatP w v z q L):(digs q).length≤L+1:=by
 obtain⟨n,l,d,⟨p,k,c,q',m,e,rfl,h1,h2⟩,h3,rfl,h5,h6⟩:=h
 unfold denV
 split
 ·exact Nat.le_trans (by decide +kernel) (Nat.le_add_left 1 _)
 ·exact Nat.le_succ_of_le (Nat.le_trans (Kg h2.dig) h6)
theorem NatL.v {w:World}{v:Value}{x L:Nat}(h:NatL w v (digs x))(hL:(digs x).length≤L):NatV w v x L:=⟨_,h,Je x,hL⟩
theorem NatL.iv {w:World}{p:Option Addr}{k c x L:Nat}(h:NatL w (.slice p k c) (digs x))(hL:(digs x).length≤L):IntV w (.agg #[.bool false,.slice p k c]) (x:Int) L:=by
 have:=IntV.nat h hL
 rwa [Je] at this
theorem ResV.keepBox {w:World}{v:Value}{z:Int}{L b:Nat}{s:Bool}{p:Option Addr}{k c:Nat}(h:ResV w v z L)(t:Two w b (.bool s) (.slice p k c))(x y:Value):ResV ((w.setCell ⟨b,0,none⟩ x).setCell ⟨b,1,none⟩ y) v z L:=
 ⟨h.1.upd t.noInt (upd2 _ _ _ _),h.2.upd t.noInt (upd2 _ _ _ _)⟩
theorem ResV.upd {w w':World}{v:Value}{z:Int}{L b:Nat}(h:ResV w v z L)(hb:Ki w b)(hu:Upd b w w'):ResV w' v z L:=⟨h.1.upd hb hu,h.2.upd hb hu⟩
theorem RatC.same {x y:Rat}:((decide (x.num < 0) == decide (y.num < 0) && decide (digs x.num.natAbs=digs y.num.natAbs)) && decide (dd x.den=dd y.den))=decide (x=y):=by
 rw[IntC.same]
 by_cases h:x=y
 ·subst h;simp
 ·rw[decide_eq_false h]
  by_cases h1:x.num=y.num
  ·by_cases h2:dd x.den=dd y.den
   ·exact absurd (Rat.ext h1 (J2c x.den_nz y.den_nz h2)) h
   ·simp[h2]
  ·simp[h1]
theorem Um (k:Nat):trimL (digs k)=digs k:=by rw[K7,Je]
theorem J1P (n:Bool)(l d:List Nat)(hl:Dig l)(hd:Dig d):
  ((n == decide ((ratv n l d).num < 0) && decide (l=digs (ratv n l d).num.natAbs)) && decide (d=dd (ratv n l d).den))=validQ n l d:=by
 rw[Bool.eq_iff_iff]
 have hq:denV d≠0:=Sc d
 constructor
 ·intro h
  simp only[Bool.and_eq_true,beq_iff_eq,decide_eq_true_eq] at h
  obtain⟨⟨h1,h2⟩,h3⟩:=h
  generalize ratv n l d=x at h1 h2 h3
  unfold validQ
  simp only[Bool.and_eq_true,decide_eq_true_eq,Bool.not_eq_true',Bool.or_eq_true]
  refine⟨⟨by rw[h2,Um],?_⟩,?_,?_⟩
  ·cases n
   ·rfl
   ·have h4:x.num < 0:=of_decide_eq_true h1.symm
    have h5:l≠[]:=fun e=>by
     rw[h2,J7] at e
     omega
    cases l with
    | nil=>exact absurd rfl h5
    | cons _ _=>rfl
  ·rw[h3];unfold dd
   split
   ·rw[K7];exact Kk
   ·exact Um _
  ·by_cases h1:x.den=1
   ·left;rw[h3,h1];rfl
   ·right
    have h4:nval d=x.den:=by rw[h3];unfold dd;rw[if_neg h1,Je]
    rw[h4,h2,Je]
    have:=x.den_nz
    exact⟨by omega,x.reduced⟩
 ·intro h
  unfold validQ at h
  simp only[Bool.and_eq_true,decide_eq_true_eq,Bool.not_eq_true',Bool.or_eq_true] at h
  obtain⟨⟨h1,h2⟩,h3,h4⟩:=h
  have el:l=digs (nval l):=by rw[← K7,h1]
  have ed:d=digs (nval d):=by rw[← K7,h3]
  have hz:(zval n l).natAbs=nval l:=O8 n l
  have hg:Nat.gcd (zval n l).natAbs (denV d)=1:=by
   rw[hz]
   rcases h4 with h4|⟨h4,h5⟩
   ·rw[show d=[] from List.isEmpty_iff.1 h4,J2g,Nat.gcd_one_right]
   ·unfold denV;rw[if_neg (by omega)];exact h5
  have e1:(ratv n l d).num=zval n l:=by
   unfold ratv;rw[Po _ _ hq,hg];simp
  have e2:(ratv n l d).den=denV d:=by
   unfold ratv;rw[N7 _ _ hq,hg];simp
  rw[e1,e2]
  simp only[Bool.and_eq_true,beq_iff_eq,decide_eq_true_eq]
  refine⟨⟨?_,by rw[hz];exact el⟩,?_⟩
  ·have h5:n=true→nval l≠0:=fun e h6=>by
    rw[h6,Kk] at el
    rw[e,el] at h2
    cases h2
   unfold zval
   cases n
   ·simp
   ·have:=h5 rfl
    simp;omega
  ·rcases h4 with h4|⟨h4,h5⟩
   ·rw[show d=[] from List.isEmpty_iff.1 h4];rfl
   ·unfold dd denV
    rw[if_neg (show nval d≠0 by omega),if_neg (by omega)]
    exact ed
theorem J5P (w:World)(va:Value)(x s:Rat)(L:Nat)(ha:RatV w va x L)(hs : - x=s)(hL:L≤10000):
  Calls Tryz.prog 110 #[va] w (Ret w fun r w'=>RatC w' r s):=by
 obtain⟨z,q,ha2,rfl⟩:=ha.p
 have HA:=ξ ha2
 obtain⟨s0,p0,k0,c0,e0,m0,n0,rfl⟩:=ha2.agg
 have HN:=ξ ha2.num
 have Hq:=ξ ha2.ne
 have Hd:=ξ ha2.dlen
 clear ha ha2
 rw[← Yx] at hs
 subst hs
 have B:=box33 w (.bool s0) (.slice p0 k0 c0) (.slice e0 m0 n0) (.bool false) (.slice none 0 0) (.slice none 0 0) 68 68
 have Hb1:=ξ (show ¬ w.heap.size+1 < w.heap.size by omega)
 have Hd01:=ξ (show w.heap.size≠w.heap.size+1 by omega)
 go_enter Tryz.func110,Tryz.ntmps110
 go_wp2_with fail
 generalize (w.alloc _).alloc _=W at B ⊢
 obtain⟨G0,t0,t1⟩:=B
 generalize w.heap.size+1=b1 at t1 Hb1 Hd01 ⊢
 generalize hb0:w.heap.size=b0 at t0 Hd01 ⊢
 have Hb0:=ξ (show ¬ b0 < w.heap.size by omega)
 have G:=ξ G0
 have T0:=ξ t0
 have T1:=ξ t1
 clear hb0 G0 t0 t1
 have HA:=ξ (HA.out.grow G.out)
 have HN:=ξ (HN.out.grow G.out)
 refine Jp [(0,true),(1,true),(3,true),(2,false),(4,false),(5,false),(6,false)] (by kernel_rfl) (by kernel_rfl) rfl (by kernel_rfl) (fun _ _ d _ _ h=>by cases d<;>exact h) ?_
 have T0_0:=T0.out.c0
 have T0_1:=T0.out.c1
 have T0_2:=T0.out.c2
 have T1_0:=T1.out.c0
 have T1_1:=T1.out.c1
 have T1_2:=T1.out.c2
 have g0:Gr W W.drew:=(Gr.refl _).drew
 have G:=ξ (G.out.trans g0)
 have T0:=ξ (T0.out.grow g0)
 have T1:=ξ (T1.out.grow g0)
 have HA:=ξ (HA.out.grow g0)
 have HN:=ξ (HN.out.grow g0)
 repeat(refine Jf (v:=?_) g0 rfl rfl (fun w' hg=>?_) (fun K hK=>?_);rotate_left;(go_simp;rfl);go_simp;refine hK _ _ ?_;clear hK K)
 refine Jd (args:=?_) rfl rfl rfl rfl rfl rfl (by kernel_rfl) (by kernel_rfl) ?_ (fun K hK=>?_)
 rotate_left
 ·go_simp;rfl
 refine(J2v _ _ z _ L HN.out rfl (by omega)).mono ?_
 rintro _ w1 ⟨r1,rfl,g1,h1⟩
 refine⟨_,rfl,g1,?_⟩
 go_simp
 refine hK _ _ ?_
 clear hK K
 have G:=ξ (G.out.trans g1)
 have T0:=ξ (T0.out.grow g1)
 have T1:=ξ (T1.out.grow g1)
 have HA:=ξ (HA.out.grow g1)
 have HN:=ξ (HN.out.grow g1)
 replace g0:=g0.trans g1
 clear g1
 have H1:=ξ h1
 clear h1
 refine Jd (args:=?_) rfl rfl rfl rfl rfl rfl (by kernel_rfl) (by kernel_rfl) ?_ (fun K hK=>?_)
 rotate_left
 ·go_simp;rfl
 refine(Nz _ _ z q L HA.out (by omega)).mono ?_
 rintro _ w2 ⟨r2,rfl,g2,h2⟩
 refine⟨_,rfl,g2,?_⟩
 go_simp
 refine hK _ _ ?_
 clear hK K
 have G:=ξ (G.out.trans g2)
 have T0:=ξ (T0.out.grow g2)
 have T1:=ξ (T1.out.grow g2)
 have HA:=ξ (HA.out.grow g2)
 have HN:=ξ (HN.out.grow g2)
 have H1:=ξ (H1.out.grow g2)
 replace g0:=g0.trans g2
 clear g2
 have H2:=ξ h2
 clear h2
 refine Jd (args:=?_) rfl rfl rfl rfl rfl rfl (by kernel_rfl) (by kernel_rfl) ?_ (fun K hK=>?_)
 rotate_left
 ·go_simp;rfl
 refine(R7 _ _ _ (-z) q L (L+1) H1.out.2 (H2.out.v Hd.out) Hq.out (by omega) (by omega)).mono ?_
 rintro _ w3 ⟨r3,rfl,g3,h3⟩
 refine⟨_,rfl,g3,?_⟩
 go_simp
 refine hK _ _ ?_
 clear hK K
 have G:=ξ (G.out.trans g3)
 have T0:=ξ (T0.out.grow g3)
 have T1:=ξ (T1.out.grow g3)
 have HA:=ξ (HA.out.grow g3)
 have HN:=ξ (HN.out.grow g3)
 have H1:=ξ (H1.out.grow g3)
 have H2:=ξ (H2.out.grow g3)
 replace g0:=g0.trans g3
 clear g3
 have H3:=ξ h3
 clear h3
 obtain⟨s8,p8,k8,c8,e8,m8,n8,rfl⟩:=H3.out.agg
 clear T1_0 T1_1 T1_2
 have T1_0:=T1.out.load.1
 have T1_f0:=T1.out.f0 0
 have T1_1:=T1.out.load.2.1
 have T1_f1:=T1.out.f0 1
 have T1_2:=T1.out.load.2.2
 have T1_f2:=T1.out.f0 2
 refine Jj rfl rfl (fun K hK=>?_)
 go_simp
 refine⟨fun h=>Bool.noConfusion h,hK _ _ ?_⟩
 clear hK K
 clear T0_0 T0_1 T0_2 T1_0 T1_1 T1_2 T1_f0 T1_f1 T1_f2
 have hu:=upd3 w3 b1 (.bool s8) (.slice p8 k8 c8) (.slice e8 m8 n8)
 have H3:=ξ (H3.out.upd T1.out.noInt hu)
 have T0:=ξ (T0.out.upd hu Hd01.out)
 have T1:=ξ (T1.out.set (.bool s8) (.slice p8 k8 c8) (.slice e8 m8 n8))
 have G:=ξ (G.out.three Hb1.out (.bool s8) (.slice p8 k8 c8) (.slice e8 m8 n8))
 clear hu
 generalize ((w3.setCell _ _).setCell _ _).setCell _ _=W1 at G T0 T1 H3 ⊢
 refine Ji ?_
 clear g0
 go_wp2_with fail
 have T1_0:=T1.out.load.1
 have T1_1:=T1.out.load.2.1
 have T1_2:=T1.out.load.2.2
 refine bodyPost_ret (by simp[results,Tryz.results110,go_sem,T1_0,T1_1,T1_2];rfl) rfl ?_
 exact⟨_,rfl,G.out,H3.out⟩
theorem J5O (w:World)(va vb:Value)(x y s:Rat)(L M:Nat)(ha:RatV w va x L)(hb:RatV w vb y M)(hs:x * y=s)(hL:L≤10000)(hM:M≤10000):
  Calls Tryz.prog 164 #[va,vb] w (Ret w fun r w'=>RatC w' r s):=by
 obtain⟨z,q,ha2,rfl⟩:=ha.p
 obtain⟨z',q',hb2,rfl⟩:=hb.p
 have HA:=ξ ha2
 have HB:=ξ hb2
 obtain⟨s0,p0,k0,c0,e0,m0,n0,rfl⟩:=ha2.agg
 obtain⟨s1,p1,k1,c1,e1,m1,n1,rfl⟩:=hb2.agg
 have HN:=ξ ha2.num
 have HM:=ξ hb2.num
 have Hq:=ξ (Nat.mul_ne_zero ha2.ne hb2.ne)
 have Hd:=ξ ha2.dlen
 have Hd':=ξ hb2.dlen
 clear ha ha2 hb hb2
 rw[Y4] at hs
 subst hs
 have B:=box333 w (.bool s0) (.slice p0 k0 c0) (.slice e0 m0 n0) (.bool s1) (.slice p1 k1 c1) (.slice e1 m1 n1) (.bool false) (.slice none 0 0) (.slice none 0 0) 68 68 68
 have Hb1:=ξ (show ¬ w.heap.size+1 < w.heap.size by omega)
 have Hb2:=ξ (show ¬ w.heap.size+1+1 < w.heap.size by omega)
 have Hd01:=ξ (show w.heap.size≠w.heap.size+1 by omega)
 have Hd02:=ξ (show w.heap.size≠w.heap.size+1+1 by omega)
 have Hd12:=ξ (show w.heap.size+1≠w.heap.size+1+1 by omega)
 go_enter Tryz.func164,Tryz.ntmps164
 go_wp2_with fail
 generalize ((w.alloc _).alloc _).alloc _=W at B ⊢
 obtain⟨G0,t0,t1,t2⟩:=B
 generalize w.heap.size+1+1=b2 at t2 Hb2 Hd02 Hd12 ⊢
 generalize w.heap.size+1=b1 at t1 Hb1 Hd01 Hd12 ⊢
 generalize hb0:w.heap.size=b0 at t0 Hd01 Hd02 ⊢
 have Hb0:=ξ (show ¬ b0 < w.heap.size by omega)
 have G:=ξ G0
 have T0:=ξ t0
 have T1:=ξ t1
 have T2:=ξ t2
 clear hb0 G0 t0 t1 t2
 have HA:=ξ (HA.out.grow G.out)
 have HB:=ξ (HB.out.grow G.out)
 have HN:=ξ (HN.out.grow G.out)
 have HM:=ξ (HM.out.grow G.out)
 refine Jp [(0,true),(1,true),(2,true),(3,true),(5,true),(7,true),(4,false),(6,false),(8,false),(9,false),(10,false),(11,false)] (by kernel_rfl) (by kernel_rfl) rfl (by kernel_rfl) (fun _ _ d _ _ h=>by cases d<;>exact h) ?_
 have T0_0:=T0.out.c0
 have T0_1:=T0.out.c1
 have T0_2:=T0.out.c2
 have T1_0:=T1.out.c0
 have T1_1:=T1.out.c1
 have T1_2:=T1.out.c2
 have T2_0:=T2.out.c0
 have T2_1:=T2.out.c1
 have T2_2:=T2.out.c2
 have g0:Gr W W.drew:=(Gr.refl _).drew
 have G:=ξ (G.out.trans g0)
 have T0:=ξ (T0.out.grow g0)
 have T1:=ξ (T1.out.grow g0)
 have T2:=ξ (T2.out.grow g0)
 have HA:=ξ (HA.out.grow g0)
 have HB:=ξ (HB.out.grow g0)
 have HN:=ξ (HN.out.grow g0)
 have HM:=ξ (HM.out.grow g0)
 repeat(refine Jf (v:=?_) g0 rfl rfl (fun w' hg=>?_) (fun K hK=>?_);rotate_left;(go_simp;rfl);go_simp;refine hK _ _ ?_;clear hK K)
 refine Jd (args:=?_) rfl rfl rfl rfl rfl rfl (by kernel_rfl) (by kernel_rfl) ?_ (fun K hK=>?_)
 rotate_left
 ·go_simp;rfl
 refine(Sg _ _ _ z z' _ L M HN.out HM.out rfl (by omega) (by omega)).mono ?_
 rintro _ w1 ⟨r1,rfl,g1,h1⟩
 refine⟨_,rfl,g1,?_⟩
 go_simp
 refine hK _ _ ?_
 clear hK K
 have G:=ξ (G.out.trans g1)
 have T0:=ξ (T0.out.grow g1)
 have T1:=ξ (T1.out.grow g1)
 have T2:=ξ (T2.out.grow g1)
 have HA:=ξ (HA.out.grow g1)
 have HB:=ξ (HB.out.grow g1)
 have HN:=ξ (HN.out.grow g1)
 have HM:=ξ (HM.out.grow g1)
 replace g0:=g0.trans g1
 clear g1
 have H1:=ξ h1
 clear h1
 refine Jd (args:=?_) rfl rfl rfl rfl rfl rfl (by kernel_rfl) (by kernel_rfl) ?_ (fun K hK=>?_)
 rotate_left
 ·go_simp;rfl
 refine(Nz _ _ z q L HA.out (by omega)).mono ?_
 rintro _ w2 ⟨r2,rfl,g2,h2⟩
 refine⟨_,rfl,g2,?_⟩
 go_simp
 refine hK _ _ ?_
 clear hK K
 have G:=ξ (G.out.trans g2)
 have T0:=ξ (T0.out.grow g2)
 have T1:=ξ (T1.out.grow g2)
 have T2:=ξ (T2.out.grow g2)
 have HA:=ξ (HA.out.grow g2)
 have HB:=ξ (HB.out.grow g2)
 have HN:=ξ (HN.out.grow g2)
 have HM:=ξ (HM.out.grow g2)
 have H1:=ξ (H1.out.grow g2)
 replace g0:=g0.trans g2
 clear g2
 have H2:=ξ h2
 clear h2
 refine Jd (args:=?_) rfl rfl rfl rfl rfl rfl (by kernel_rfl) (by kernel_rfl) ?_ (fun K hK=>?_)
 rotate_left
 ·go_simp;rfl
 refine(Nz _ _ z' q' M HB.out (by omega)).mono ?_
 rintro _ w3 ⟨r3,rfl,g3,h3⟩
 refine⟨_,rfl,g3,?_⟩
 go_simp
 refine hK _ _ ?_
 clear hK K
 have G:=ξ (G.out.trans g3)
 have T0:=ξ (T0.out.grow g3)
 have T1:=ξ (T1.out.grow g3)
 have T2:=ξ (T2.out.grow g3)
 have HA:=ξ (HA.out.grow g3)
 have HB:=ξ (HB.out.grow g3)
 have HN:=ξ (HN.out.grow g3)
 have HM:=ξ (HM.out.grow g3)
 have H1:=ξ (H1.out.grow g3)
 have H2:=ξ (H2.out.grow g3)
 replace g0:=g0.trans g3
 clear g3
 have H3:=ξ h3
 clear h3
 refine Jd (args:=?_) rfl rfl rfl rfl rfl rfl (by kernel_rfl) (by kernel_rfl) ?_ (fun K hK=>?_)
 rotate_left
 ·go_simp;rfl
 refine(J06 _ _ _ q q' _ (L+1) (M+1) (H2.out.v Hd.out) (H3.out.v Hd'.out) rfl (by omega) (by omega)).mono ?_
 rintro _ w4 ⟨r4,rfl,g4,h4⟩
 refine⟨_,rfl,g4,?_⟩
 go_simp
 refine hK _ _ ?_
 clear hK K
 have G:=ξ (G.out.trans g4)
 have T0:=ξ (T0.out.grow g4)
 have T1:=ξ (T1.out.grow g4)
 have T2:=ξ (T2.out.grow g4)
 have HA:=ξ (HA.out.grow g4)
 have HB:=ξ (HB.out.grow g4)
 have HN:=ξ (HN.out.grow g4)
 have HM:=ξ (HM.out.grow g4)
 have H1:=ξ (H1.out.grow g4)
 have H2:=ξ (H2.out.grow g4)
 have H3:=ξ (H3.out.grow g4)
 replace g0:=g0.trans g4
 clear g4
 have H4:=ξ h4
 clear h4
 refine Jd (args:=?_) rfl rfl rfl rfl rfl rfl (by kernel_rfl) (by kernel_rfl) ?_ (fun K hK=>?_)
 rotate_left
 ·go_simp;rfl
 refine(R7 _ _ _ (z * z') (q * q') (L+M+1) (L+1+(M+1)+1) H1.out.2 H4.out.2 Hq.out (by omega) (by omega)).mono ?_
 rintro _ w5 ⟨r5,rfl,g5,h5⟩
 refine⟨_,rfl,g5,?_⟩
 go_simp
 refine hK _ _ ?_
 clear hK K
 have G:=ξ (G.out.trans g5)
 have T0:=ξ (T0.out.grow g5)
 have T1:=ξ (T1.out.grow g5)
 have T2:=ξ (T2.out.grow g5)
 have HA:=ξ (HA.out.grow g5)
 have HB:=ξ (HB.out.grow g5)
 have HN:=ξ (HN.out.grow g5)
 have HM:=ξ (HM.out.grow g5)
 have H1:=ξ (H1.out.grow g5)
 have H2:=ξ (H2.out.grow g5)
 have H3:=ξ (H3.out.grow g5)
 have H4:=ξ (H4.out.grow g5)
 replace g0:=g0.trans g5
 clear g5
 have H5:=ξ h5
 clear h5
 obtain⟨s8,p8,k8,c8,e8,m8,n8,rfl⟩:=H5.out.agg
 clear T2_0 T2_1 T2_2
 have T2_0:=T2.out.load.1
 have T2_f0:=T2.out.f0 0
 have T2_1:=T2.out.load.2.1
 have T2_f1:=T2.out.f0 1
 have T2_2:=T2.out.load.2.2
 have T2_f2:=T2.out.f0 2
 refine Jj rfl rfl (fun K hK=>?_)
 go_simp
 refine⟨fun h=>Bool.noConfusion h,hK _ _ ?_⟩
 clear hK K
 clear T0_0 T0_1 T0_2 T1_0 T1_1 T1_2 T2_0 T2_1 T2_2 T2_f0 T2_f1 T2_f2
 have hu:=upd3 w5 b2 (.bool s8) (.slice p8 k8 c8) (.slice e8 m8 n8)
 have H5:=ξ (H5.out.upd T2.out.noInt hu)
 have T0:=ξ (T0.out.upd hu Hd02.out)
 have T1:=ξ (T1.out.upd hu Hd12.out)
 have T2:=ξ (T2.out.set (.bool s8) (.slice p8 k8 c8) (.slice e8 m8 n8))
 have G:=ξ (G.out.three Hb2.out (.bool s8) (.slice p8 k8 c8) (.slice e8 m8 n8))
 clear hu
 generalize ((w5.setCell _ _).setCell _ _).setCell _ _=W1 at G T0 T1 T2 H5 ⊢
 refine Ji ?_
 clear g0
 go_wp2_with fail
 have T2_0:=T2.out.load.1
 have T2_1:=T2.out.load.2.1
 have T2_2:=T2.out.load.2.2
 refine bodyPost_ret (by simp[results,Tryz.results164,go_sem,T2_0,T2_1,T2_2];rfl) rfl ?_
 exact⟨_,rfl,G.out,H5.out⟩
theorem J0r (w:World)(va vb:Value)(x y s:Rat)(L M:Nat)(ha:RatV w va x L)(hb:RatV w vb y M)(hs:x+y=s)(hL:L≤10000)(hM:M≤10000):
  Calls Tryz.prog 107 #[va,vb] w (Ret w fun r w'=>RatC w' r s):=by
 obtain⟨z,q,ha2,rfl⟩:=ha.p
 obtain⟨z',q',hb2,rfl⟩:=hb.p
 have HA:=ξ ha2
 have HB:=ξ hb2
 obtain⟨s0,p0,k0,c0,e0,m0,n0,rfl⟩:=ha2.agg
 obtain⟨s1,p1,k1,c1,e1,m1,n1,rfl⟩:=hb2.agg
 have HN:=ξ ha2.num
 have HM:=ξ hb2.num
 have Hq:=ξ (Nat.mul_ne_zero ha2.ne hb2.ne)
 have Hd:=ξ ha2.dlen
 have Hd':=ξ hb2.dlen
 rw[Ve _ _ ha2.ne hb2.ne] at hs
 clear ha ha2 hb hb2
 subst hs
 have B:=box333 w (.bool s0) (.slice p0 k0 c0) (.slice e0 m0 n0) (.bool s1) (.slice p1 k1 c1) (.slice e1 m1 n1) (.bool false) (.slice none 0 0) (.slice none 0 0) 68 68 68
 have Hb1:=ξ (show ¬ w.heap.size+1 < w.heap.size by omega)
 have Hb2:=ξ (show ¬ w.heap.size+1+1 < w.heap.size by omega)
 have Hd01:=ξ (show w.heap.size≠w.heap.size+1 by omega)
 have Hd02:=ξ (show w.heap.size≠w.heap.size+1+1 by omega)
 have Hd12:=ξ (show w.heap.size+1≠w.heap.size+1+1 by omega)
 go_enter Tryz.func107,Tryz.ntmps107
 go_wp2_with fail
 generalize ((w.alloc _).alloc _).alloc _=W at B ⊢
 obtain⟨G0,t0,t1,t2⟩:=B
 generalize w.heap.size+1+1=b2 at t2 Hb2 Hd02 Hd12 ⊢
 generalize w.heap.size+1=b1 at t1 Hb1 Hd01 Hd12 ⊢
 generalize hb0:w.heap.size=b0 at t0 Hd01 Hd02 ⊢
 have Hb0:=ξ (show ¬ b0 < w.heap.size by omega)
 have G:=ξ G0
 have T0:=ξ t0
 have T1:=ξ t1
 have T2:=ξ t2
 clear hb0 G0 t0 t1 t2
 have HA:=ξ (HA.out.grow G.out)
 have HB:=ξ (HB.out.grow G.out)
 have HN:=ξ (HN.out.grow G.out)
 have HM:=ξ (HM.out.grow G.out)
 have g0:Gr W W.drew:=(Gr.refl _).drew
 have T0_0:=T0.out.c0
 have T0_1:=T0.out.c1
 have T0_2:=T0.out.c2
 have T1_0:=T1.out.c0
 have T1_1:=T1.out.c1
 have T1_2:=T1.out.c2
 refine Rm zcI 60 [(0,1),(1,1),(2,1),(3,0),(4,1),(5,0),(6,2),(7,0)] (by kernel_rfl) (by kernel_rfl) rfl (by kernel_rfl) (fun _ _ d _ _ h=>by cases d<;>exact h) (fun _ _ d _ _ h=>by cases d<;>exact h) (by intro i hi;simp at hi;subst hi;exact⟨_,_,rfl,rfl,rfl,allocI⟩) ?_
 repeat(refine Lb (v:=?_) g0 rfl rfl (fun w' hg=>?_) (fun K hK=>?_);rotate_left;(go_simp;rfl);go_simp;refine hK _ _ ?_;clear hK K)
 refine La rfl rfl (fun K hK w1 g1=>?_)
 go_simp
 refine(Nz _ _ z' q' M (HB.out.grow (g0.trans g1)) (by omega)).mono ?_
 rintro _ w2 ⟨r2,rfl,g2,h2⟩
 refine⟨fun _=>g2,hK _ _ ?_⟩
 clear hK K
 have H2:=ξ h2
 obtain⟨p2,k2,c2,rfl,-⟩:=h2.slice
 have g2:=(g0.trans g1).trans g2
 clear g1 h2
 repeat(refine Lb (v:=?_) g2 rfl rfl (fun w' hg=>?_) (fun K hK=>?_);rotate_left;(go_simp;rfl);go_simp;refine hK _ _ ?_;clear hK K)
 refine La rfl rfl (fun K hK w5 g5=>?_)
 go_simp
 refine(Sg _ _ _ z q' _ L (M+1) (HN.out.grow (g2.trans g5)) ((H2.out.iv Hd'.out).grow g5) rfl (by omega) (by omega)).mono ?_
 rintro _ w6 ⟨qa,rfl,g6,hq⟩
 refine⟨fun _=>g6,hK _ _ ?_⟩
 clear hK K
 have g7:=g2.trans (g5.trans g6)
 have HQ:=ξ hq
 obtain⟨pa1,ka1,ca1,rfl⟩:=hq.1.agg
 clear g2 g5 g6 hq
 repeat(refine Lb (v:=?_) g7 rfl rfl (fun w' hg=>?_) (fun K hK=>?_);rotate_left;(go_simp;rfl);go_simp;refine hK _ _ ?_;clear hK K)
 obtain⟨sa,hsa⟩:∃ sa,decide (z * (q':Int) < 0)=sa:=⟨_,rfl⟩
 rw[hsa] at HQ ⊢
 clear hsa
 refine O3 rfl rfl (fun K w8 b12 g8 f2 n2 hK=>hK _ _ ?_)
 clear hK K
 have T2':=f2.two
 clear f2
 refine La rfl rfl (fun K hK w10 g10=>?_)
 have e2:=T2'.grow g10
 have d0:=e2.c0 w10 (Gr.refl _)
 have d1:=e2.c1 w10 (Gr.refl _)
 have d2:=e2.f0 0
 have d3:=e2.f0 1
 go_simp
 refine⟨fun h=>Bool.noConfusion h,hK _ _ ?_⟩
 clear hK K
 have h13:=(g7.trans (g8.trans g10)).two n2 (.bool sa) (.slice pa1 ka1 ca1)
 have TQ:=e2.set (.bool sa) (.slice pa1 ka1 ca1)
 have HQ:=ξ ((HQ.out.grow (g8.trans g10)).keepBox e2 (.bool sa) (.slice pa1 ka1 ca1))
 clear d0 d1 d2 d3 e2 T2'
 generalize (w10.setCell _ _).setCell _ _=W2 at h13 TQ HQ ⊢
 repeat(refine Lb (v:=?_) h13 rfl rfl (fun w' hg=>?_) (fun K hK=>?_);rotate_left;(go_simp;rfl);go_simp;refine hK _ _ ?_;clear hK K)
 refine Ri ?_
 have TQ:=ξ TQ
 clear n2 g7 g8 g10 g0
 clear T0_0 T0_1 T0_2 T1_0 T1_1 T1_2
 have G:=ξ (G.out.trans h13)
 have T0:=ξ (T0.out.grow h13)
 have T1:=ξ (T1.out.grow h13)
 have T2:=ξ (T2.out.grow h13)
 have HA:=ξ (HA.out.grow h13)
 have HB:=ξ (HB.out.grow h13)
 have HN:=ξ (HN.out.grow h13)
 have HM:=ξ (HM.out.grow h13)
 clear h13
 go_wp2_with fail
 have g0:Gr W2 W2.drew:=(Gr.refl _).drew
 have T0_0:=T0.out.c0
 have T0_1:=T0.out.c1
 have T0_2:=T0.out.c2
 have T1_0:=T1.out.c0
 have T1_1:=T1.out.c1
 have T1_2:=T1.out.c2
 have TQ_0:=TQ.out.c0
 have TQ_1:=TQ.out.c1
 refine Rm zcI 60 [(0,1),(1,1),(2,1),(3,0),(4,1),(5,0),(6,2),(7,0)] (by kernel_rfl) (by kernel_rfl) rfl (by kernel_rfl) (fun _ _ d _ _ h=>by cases d<;>exact h) (fun _ _ d _ _ h=>by cases d<;>exact h) (by intro i hi;simp at hi;subst hi;exact⟨_,_,rfl,rfl,rfl,allocI⟩) ?_
 repeat(refine Lb (v:=?_) g0 rfl rfl (fun w' hg=>?_) (fun K hK=>?_);rotate_left;(go_simp;rfl);go_simp;refine hK _ _ ?_;clear hK K)
 refine La rfl rfl (fun K hK w1 g1=>?_)
 go_simp
 refine(Nz _ _ z q L (HA.out.grow (g0.trans g1)) (by omega)).mono ?_
 rintro _ w2 ⟨r2,rfl,g2,h2⟩
 refine⟨fun _=>g2,hK _ _ ?_⟩
 clear hK K
 have H2:=ξ h2
 obtain⟨p2,k2,c2,rfl,-⟩:=h2.slice
 have g2:=(g0.trans g1).trans g2
 clear g1 h2
 repeat(refine Lb (v:=?_) g2 rfl rfl (fun w' hg=>?_) (fun K hK=>?_);rotate_left;(go_simp;rfl);go_simp;refine hK _ _ ?_;clear hK K)
 refine La rfl rfl (fun K hK w5 g5=>?_)
 go_simp
 refine(Sg _ _ _ z' q _ M (L+1) (HM.out.grow (g2.trans g5)) ((H2.out.iv Hd.out).grow g5) rfl (by omega) (by omega)).mono ?_
 rintro _ w6 ⟨qa,rfl,g6,hq⟩
 refine⟨fun _=>g6,hK _ _ ?_⟩
 clear hK K
 have g7:=g2.trans (g5.trans g6)
 have HS:=ξ hq
 obtain⟨pb1,kb1,cb1,rfl⟩:=hq.1.agg
 clear g2 g5 g6 hq
 repeat(refine Lb (v:=?_) g7 rfl rfl (fun w' hg=>?_) (fun K hK=>?_);rotate_left;(go_simp;rfl);go_simp;refine hK _ _ ?_;clear hK K)
 obtain⟨sb,hsb⟩:∃ sb,decide (z' * (q:Int) < 0)=sb:=⟨_,rfl⟩
 rw[hsb] at HS ⊢
 clear hsb
 refine O3 rfl rfl (fun K w8 b13 g8 f2 n2 hK=>hK _ _ ?_)
 clear hK K
 have T2':=f2.two
 clear f2
 refine La rfl rfl (fun K hK w10 g10=>?_)
 have e2:=T2'.grow g10
 have d0:=e2.c0 w10 (Gr.refl _)
 have d1:=e2.c1 w10 (Gr.refl _)
 have d2:=e2.f0 0
 have d3:=e2.f0 1
 go_simp
 refine⟨fun h=>Bool.noConfusion h,hK _ _ ?_⟩
 clear hK K
 have h13:=(g7.trans (g8.trans g10)).two n2 (.bool sb) (.slice pb1 kb1 cb1)
 have TS:=e2.set (.bool sb) (.slice pb1 kb1 cb1)
 have HS:=ξ ((HS.out.grow (g8.trans g10)).keepBox e2 (.bool sb) (.slice pb1 kb1 cb1))
 clear d0 d1 d2 d3 e2 T2'
 generalize (w10.setCell _ _).setCell _ _=W3 at h13 TS HS ⊢
 repeat(refine Lb (v:=?_) h13 rfl rfl (fun w' hg=>?_) (fun K hK=>?_);rotate_left;(go_simp;rfl);go_simp;refine hK _ _ ?_;clear hK K)
 refine Ri ?_
 have TS:=ξ TS
 clear n2 g7 g8 g10 g0
 clear T0_0 T0_1 T0_2 T1_0 T1_1 T1_2 TQ_0 TQ_1
 have G:=ξ (G.out.trans h13)
 have T0:=ξ (T0.out.grow h13)
 have T1:=ξ (T1.out.grow h13)
 have T2:=ξ (T2.out.grow h13)
 have TQ:=ξ (TQ.out.grow h13)
 have HA:=ξ (HA.out.grow h13)
 have HB:=ξ (HB.out.grow h13)
 have HN:=ξ (HN.out.grow h13)
 have HM:=ξ (HM.out.grow h13)
 have HQ:=ξ (HQ.out.grow h13)
 clear h13
 go_wp2_with fail
 refine Jp [(0,true),(1,true),(3,true),(5,true),(2,false),(4,false),(6,false),(7,false),(8,false),(9,false)] (by kernel_rfl) (by kernel_rfl) rfl (by kernel_rfl) (fun _ _ d _ _ h=>by cases d<;>exact h) ?_
 have T0_0:=T0.out.c0
 have T0_1:=T0.out.c1
 have T0_2:=T0.out.c2
 have T1_0:=T1.out.c0
 have T1_1:=T1.out.c1
 have T1_2:=T1.out.c2
 have T2_0:=T2.out.c0
 have T2_1:=T2.out.c1
 have T2_2:=T2.out.c2
 have TQ_0:=TQ.out.c0
 have TQ_1:=TQ.out.c1
 have TS_0:=TS.out.c0
 have TS_1:=TS.out.c1
 have g0:Gr W3 W3.drew:=(Gr.refl _).drew
 have G:=ξ (G.out.trans g0)
 have T0:=ξ (T0.out.grow g0)
 have T1:=ξ (T1.out.grow g0)
 have T2:=ξ (T2.out.grow g0)
 have TQ:=ξ (TQ.out.grow g0)
 have TS:=ξ (TS.out.grow g0)
 have HA:=ξ (HA.out.grow g0)
 have HB:=ξ (HB.out.grow g0)
 have HN:=ξ (HN.out.grow g0)
 have HM:=ξ (HM.out.grow g0)
 have HQ:=ξ (HQ.out.grow g0)
 have HS:=ξ (HS.out.grow g0)
 repeat(refine Jf (v:=?_) g0 rfl rfl (fun w' hg=>?_) (fun K hK=>?_);rotate_left;(go_simp;rfl);go_simp;refine hK _ _ ?_;clear hK K)
 refine Jd (args:=?_) rfl rfl rfl rfl rfl rfl (by kernel_rfl) (by kernel_rfl) ?_ (fun K hK=>?_)
 rotate_left
 ·go_simp;rfl
 refine(J2u _ _ _ (z * (q':Int)) (z' * (q:Int)) _ (L+(M+1)+1) (M+(L+1)+1) HQ.out.2 HS.out.2 rfl (by omega) (by omega)).mono ?_
 rintro _ w1 ⟨r1,rfl,g1,h1⟩
 refine⟨_,rfl,g1,?_⟩
 go_simp
 refine hK _ _ ?_
 clear hK K
 have G:=ξ (G.out.trans g1)
 have T0:=ξ (T0.out.grow g1)
 have T1:=ξ (T1.out.grow g1)
 have T2:=ξ (T2.out.grow g1)
 have TQ:=ξ (TQ.out.grow g1)
 have TS:=ξ (TS.out.grow g1)
 have HA:=ξ (HA.out.grow g1)
 have HB:=ξ (HB.out.grow g1)
 have HN:=ξ (HN.out.grow g1)
 have HM:=ξ (HM.out.grow g1)
 have HQ:=ξ (HQ.out.grow g1)
 have HS:=ξ (HS.out.grow g1)
 replace g0:=g0.trans g1
 clear g1
 have H1:=ξ h1
 clear h1
 refine Jd (args:=?_) rfl rfl rfl rfl rfl rfl (by kernel_rfl) (by kernel_rfl) ?_ (fun K hK=>?_)
 rotate_left
 ·go_simp;rfl
 refine(Nz _ _ z q L HA.out (by omega)).mono ?_
 rintro _ w2 ⟨r2,rfl,g2,h2⟩
 refine⟨_,rfl,g2,?_⟩
 go_simp
 refine hK _ _ ?_
 clear hK K
 have G:=ξ (G.out.trans g2)
 have T0:=ξ (T0.out.grow g2)
 have T1:=ξ (T1.out.grow g2)
 have T2:=ξ (T2.out.grow g2)
 have TQ:=ξ (TQ.out.grow g2)
 have TS:=ξ (TS.out.grow g2)
 have HA:=ξ (HA.out.grow g2)
 have HB:=ξ (HB.out.grow g2)
 have HN:=ξ (HN.out.grow g2)
 have HM:=ξ (HM.out.grow g2)
 have HQ:=ξ (HQ.out.grow g2)
 have HS:=ξ (HS.out.grow g2)
 have H1:=ξ (H1.out.grow g2)
 replace g0:=g0.trans g2
 clear g2
 have H2:=ξ h2
 clear h2
 refine Jd (args:=?_) rfl rfl rfl rfl rfl rfl (by kernel_rfl) (by kernel_rfl) ?_ (fun K hK=>?_)
 rotate_left
 ·go_simp;rfl
 refine(Nz _ _ z' q' M HB.out (by omega)).mono ?_
 rintro _ w3 ⟨r3,rfl,g3,h3⟩
 refine⟨_,rfl,g3,?_⟩
 go_simp
 refine hK _ _ ?_
 clear hK K
 have G:=ξ (G.out.trans g3)
 have T0:=ξ (T0.out.grow g3)
 have T1:=ξ (T1.out.grow g3)
 have T2:=ξ (T2.out.grow g3)
 have TQ:=ξ (TQ.out.grow g3)
 have TS:=ξ (TS.out.grow g3)
 have HA:=ξ (HA.out.grow g3)
 have HB:=ξ (HB.out.grow g3)
 have HN:=ξ (HN.out.grow g3)
 have HM:=ξ (HM.out.grow g3)
 have HQ:=ξ (HQ.out.grow g3)
 have HS:=ξ (HS.out.grow g3)
 have H1:=ξ (H1.out.grow g3)
 have H2:=ξ (H2.out.grow g3)
 replace g0:=g0.trans g3
 clear g3
 have H3:=ξ h3
 clear h3
 refine Jd (args:=?_) rfl rfl rfl rfl rfl rfl (by kernel_rfl) (by kernel_rfl) ?_ (fun K hK=>?_)
 rotate_left
 ·go_simp;rfl
 refine(J06 _ _ _ q q' _ (L+1) (M+1) (H2.out.v Hd.out) (H3.out.v Hd'.out) rfl (by omega) (by omega)).mono ?_
 rintro _ w4 ⟨r4,rfl,g4,h4⟩
 refine⟨_,rfl,g4,?_⟩
 go_simp
 refine hK _ _ ?_
 clear hK K
 have G:=ξ (G.out.trans g4)
 have T0:=ξ (T0.out.grow g4)
 have T1:=ξ (T1.out.grow g4)
 have T2:=ξ (T2.out.grow g4)
 have TQ:=ξ (TQ.out.grow g4)
 have TS:=ξ (TS.out.grow g4)
 have HA:=ξ (HA.out.grow g4)
 have HB:=ξ (HB.out.grow g4)
 have HN:=ξ (HN.out.grow g4)
 have HM:=ξ (HM.out.grow g4)
 have HQ:=ξ (HQ.out.grow g4)
 have HS:=ξ (HS.out.grow g4)
 have H1:=ξ (H1.out.grow g4)
 have H2:=ξ (H2.out.grow g4)
 have H3:=ξ (H3.out.grow g4)
 replace g0:=g0.trans g4
 clear g4
 have H4:=ξ h4
 clear h4
 refine Jd (args:=?_) rfl rfl rfl rfl rfl rfl (by kernel_rfl) (by kernel_rfl) ?_ (fun K hK=>?_)
 rotate_left
 ·go_simp;rfl
 refine(R7 _ _ _ _ (q * q') (L+(M+1)+1+(M+(L+1)+1)+1) (L+1+(M+1)+1) H1.out.2 H4.out.2 Hq.out (by omega) (by omega)).mono ?_
 rintro _ w5 ⟨r5,rfl,g5,h5⟩
 refine⟨_,rfl,g5,?_⟩
 go_simp
 refine hK _ _ ?_
 clear hK K
 have G:=ξ (G.out.trans g5)
 have T0:=ξ (T0.out.grow g5)
 have T1:=ξ (T1.out.grow g5)
 have T2:=ξ (T2.out.grow g5)
 have TQ:=ξ (TQ.out.grow g5)
 have TS:=ξ (TS.out.grow g5)
 have HA:=ξ (HA.out.grow g5)
 have HB:=ξ (HB.out.grow g5)
 have HN:=ξ (HN.out.grow g5)
 have HM:=ξ (HM.out.grow g5)
 have HQ:=ξ (HQ.out.grow g5)
 have HS:=ξ (HS.out.grow g5)
 have H1:=ξ (H1.out.grow g5)
 have H2:=ξ (H2.out.grow g5)
 have H3:=ξ (H3.out.grow g5)
 have H4:=ξ (H4.out.grow g5)
 replace g0:=g0.trans g5
 clear g5
 have H5:=ξ h5
 clear h5
 obtain⟨s8,p8,k8,c8,e8,m8,n8,rfl⟩:=H5.out.agg
 clear T2_0 T2_1 T2_2
 have T2_0:=T2.out.load.1
 have T2_f0:=T2.out.f0 0
 have T2_1:=T2.out.load.2.1
 have T2_f1:=T2.out.f0 1
 have T2_2:=T2.out.load.2.2
 have T2_f2:=T2.out.f0 2
 refine Jj rfl rfl (fun K hK=>?_)
 go_simp
 refine⟨fun h=>Bool.noConfusion h,hK _ _ ?_⟩
 clear hK K
 clear T0_0 T0_1 T0_2 T1_0 T1_1 T1_2 T2_0 T2_1 T2_2 TQ_0 TQ_1 TS_0 TS_1 T2_f0 T2_f1 T2_f2
 have hu:=upd3 w5 b2 (.bool s8) (.slice p8 k8 c8) (.slice e8 m8 n8)
 have H5:=ξ (H5.out.upd T2.out.noInt hu)
 have T0:=ξ (T0.out.upd hu Hd02.out)
 have T1:=ξ (T1.out.upd hu Hd12.out)
 have T2:=ξ (T2.out.set (.bool s8) (.slice p8 k8 c8) (.slice e8 m8 n8))
 have G:=ξ (G.out.three Hb2.out (.bool s8) (.slice p8 k8 c8) (.slice e8 m8 n8))
 clear hu
 generalize ((w5.setCell _ _).setCell _ _).setCell _ _=W1 at G T0 T1 T2 H5 ⊢
 refine Ji ?_
 clear g0
 go_wp2_with fail
 have T2_0:=T2.out.load.1
 have T2_1:=T2.out.load.2.1
 have T2_2:=T2.out.load.2.2
 refine bodyPost_ret (by simp[results,Tryz.results107,go_sem,T2_0,T2_1,T2_2];rfl) rfl ?_
 exact⟨_,rfl,G.out,H5.out⟩
theorem J5R (w:World)(va vb:Value)(x y s:Rat)(L M:Nat)(ha:RatV w va x L)(hb:RatV w vb y M)(hs:x - y=s)(h1:1≤M)(hL:L≤10000)(hM:M≤10000):
  Calls Tryz.prog 58 #[va,vb] w (Ret w fun r w'=>RatC w' r s):=by
 have HA:=ξ ha
 have HB:=ξ hb
 have HZ:=ξ (Oe (hb.sz h1))
 obtain⟨s0,p0,k0,c0,e0,m0,n0,rfl⟩:=ha.agg
 obtain⟨s1,p1,k1,c1,e1,m1,n1,rfl⟩:=hb.agg
 clear ha hb
 have B:=box333 w (.bool s0) (.slice p0 k0 c0) (.slice e0 m0 n0) (.bool s1) (.slice p1 k1 c1) (.slice e1 m1 n1) (.bool false) (.slice none 0 0) (.slice none 0 0) 68 68 68
 have Hb1:=ξ (show ¬ w.heap.size+1 < w.heap.size by omega)
 have Hb2:=ξ (show ¬ w.heap.size+1+1 < w.heap.size by omega)
 have Hd01:=ξ (show w.heap.size≠w.heap.size+1 by omega)
 have Hd02:=ξ (show w.heap.size≠w.heap.size+1+1 by omega)
 have Hd12:=ξ (show w.heap.size+1≠w.heap.size+1+1 by omega)
 go_enter Tryz.func58,Tryz.ntmps58
 go_wp2_with fail
 generalize ((w.alloc _).alloc _).alloc _=W at B ⊢
 obtain⟨G0,t0,t1,t2⟩:=B
 generalize w.heap.size+1+1=b2 at t2 Hb2 Hd02 Hd12 ⊢
 generalize w.heap.size+1=b1 at t1 Hb1 Hd01 Hd12 ⊢
 generalize hb0:w.heap.size=b0 at t0 Hd01 Hd02 ⊢
 have Hb0:=ξ (show ¬ b0 < w.heap.size by omega)
 have G:=ξ G0
 have T0:=ξ t0
 have T1:=ξ t1
 have T2:=ξ t2
 clear hb0 G0 t0 t1 t2
 have HA:=ξ (HA.out.grow G.out)
 have HB:=ξ (HB.out.grow G.out)
 refine Jp [(0,true),(1,true),(2,false),(3,false),(4,false)] (by kernel_rfl) (by kernel_rfl) rfl (by kernel_rfl) (fun _ _ d _ _ h=>by cases d<;>exact h) ?_
 have T0_0:=T0.out.c0
 have T0_1:=T0.out.c1
 have T0_2:=T0.out.c2
 have T1_0:=T1.out.c0
 have T1_1:=T1.out.c1
 have T1_2:=T1.out.c2
 have T2_0:=T2.out.c0
 have T2_1:=T2.out.c1
 have T2_2:=T2.out.c2
 have g0:Gr W W.drew:=(Gr.refl _).drew
 have G:=ξ (G.out.trans g0)
 have T0:=ξ (T0.out.grow g0)
 have T1:=ξ (T1.out.grow g0)
 have T2:=ξ (T2.out.grow g0)
 have HA:=ξ (HA.out.grow g0)
 have HB:=ξ (HB.out.grow g0)
 repeat(refine Jf (v:=?_) g0 rfl rfl (fun w' hg=>?_) (fun K hK=>?_);rotate_left;(go_simp;rfl);go_simp;refine hK _ _ ?_;clear hK K)
 refine Jd (args:=?_) rfl rfl rfl rfl rfl rfl (by kernel_rfl) (by kernel_rfl) ?_ (fun K hK=>?_)
 rotate_left
 ·go_simp;rfl
 refine(J5P _ _ y _ M HB.out rfl hM).mono ?_
 rintro _ w1 ⟨r1,rfl,g1,h1⟩
 refine⟨_,rfl,g1,?_⟩
 go_simp
 refine hK _ _ ?_
 clear hK K
 have G:=ξ (G.out.trans g1)
 have T0:=ξ (T0.out.grow g1)
 have T1:=ξ (T1.out.grow g1)
 have T2:=ξ (T2.out.grow g1)
 have HA:=ξ (HA.out.grow g1)
 have HB:=ξ (HB.out.grow g1)
 replace g0:=g0.trans g1
 clear g1
 have H1:=ξ h1
 clear h1
 refine Jd (args:=?_) rfl rfl rfl rfl rfl rfl (by kernel_rfl) (by kernel_rfl) ?_ (fun K hK=>?_)
 rotate_left
 ·go_simp;rfl
 refine(J0r _ _ _ x (- y) s L M HA.out (H1.out.v HZ.out) (by rw[← hs,Rat.sub_eq_add_neg]) hL hM).mono ?_
 rintro _ w2 ⟨r2,rfl,g2,h2⟩
 refine⟨_,rfl,g2,?_⟩
 go_simp
 refine hK _ _ ?_
 clear hK K
 have G:=ξ (G.out.trans g2)
 have T0:=ξ (T0.out.grow g2)
 have T1:=ξ (T1.out.grow g2)
 have T2:=ξ (T2.out.grow g2)
 have HA:=ξ (HA.out.grow g2)
 have HB:=ξ (HB.out.grow g2)
 have H1:=ξ (H1.out.grow g2)
 replace g0:=g0.trans g2
 clear g2
 have H2:=ξ h2
 clear h2
 obtain⟨s8,p8,k8,c8,e8,m8,n8,rfl⟩:=H2.out.agg
 clear T2_0 T2_1 T2_2
 have T2_0:=T2.out.load.1
 have T2_f0:=T2.out.f0 0
 have T2_1:=T2.out.load.2.1
 have T2_f1:=T2.out.f0 1
 have T2_2:=T2.out.load.2.2
 have T2_f2:=T2.out.f0 2
 refine Jj rfl rfl (fun K hK=>?_)
 go_simp
 refine⟨fun h=>Bool.noConfusion h,hK _ _ ?_⟩
 clear hK K
 clear T0_0 T0_1 T0_2 T1_0 T1_1 T1_2 T2_0 T2_1 T2_2 T2_f0 T2_f1 T2_f2
 have hu:=upd3 w2 b2 (.bool s8) (.slice p8 k8 c8) (.slice e8 m8 n8)
 have H2:=ξ (H2.out.upd T2.out.noInt hu)
 have T0:=ξ (T0.out.upd hu Hd02.out)
 have T1:=ξ (T1.out.upd hu Hd12.out)
 have T2:=ξ (T2.out.set (.bool s8) (.slice p8 k8 c8) (.slice e8 m8 n8))
 have G:=ξ (G.out.three Hb2.out (.bool s8) (.slice p8 k8 c8) (.slice e8 m8 n8))
 clear hu
 generalize ((w2.setCell _ _).setCell _ _).setCell _ _=W1 at G T0 T1 T2 H2 ⊢
 refine Ji ?_
 clear g0
 go_wp2_with fail
 have T2_0:=T2.out.load.1
 have T2_1:=T2.out.load.2.1
 have T2_2:=T2.out.load.2.2
 refine bodyPost_ret (by simp[results,Tryz.results58,go_sem,T2_0,T2_1,T2_2];rfl) rfl ?_
 exact⟨_,rfl,G.out,H2.out⟩
theorem J5Q (w:World)(va:Value)(x:Rat)(c:Int)(L:Nat)(ha:RatV w va x L)(hc:sgn x.num=c)(hL:L≤100000):
  Calls Tryz.prog 57 #[va] w (Ret w fun r w'=>r = .int .i64 c):=by
 obtain⟨z,q,ha2,rfl⟩:=ha.p
 obtain⟨s0,p0,k0,c0,e0,m0,n0,rfl⟩:=ha2.agg
 have HN:=ξ (ha2.num)
 have hs:=J0u z ha2.ne
 rw[hc] at hs
 clear ha ha2 hc
 have B:=box3 w (.bool s0) (.slice p0 k0 c0) (.slice e0 m0 n0) 68
 go_enter Tryz.func57,Tryz.ntmps57
 go_wp2_with fail
 generalize w.alloc _=W at B ⊢
 obtain⟨G0,t0⟩:=B
 generalize hb0:w.heap.size=b0 at t0  ⊢
 have Hb0:=ξ (show ¬ b0 < w.heap.size by omega)
 have G:=ξ G0
 have T0:=ξ t0
 clear hb0 G0 t0
 have HN:=ξ (HN.out.grow G.out)
 refine(J2w W _ z c L HN.out hs (by omega)).mono ?_
 rintro _ w1 ⟨_,rfl,g1,rfl⟩
 have G:=ξ (G.out.trans g1)
 have T0:=ξ (T0.out.grow g1)
 have HN:=ξ (HN.out.grow g1)
 clear g1
 go_wp2_with fail
 go_ret
 exact⟨_,rfl,G.out,rfl⟩
theorem Ml (w:World)(va vb:Value)(x y:Rat)(c:Int)(L M:Nat)(ha:RatV w va x L)(hb:RatV w vb y M)(hc:cmpQ x y=c)(h0:1≤L)(h1:1≤M)(hL:L≤10000)(hM:M≤10000):
  Calls Tryz.prog 29 #[va,vb] w (Ret w fun r w'=>r = .int .i64 c):=by
 have HA:=ξ ha
 have HB:=ξ hb
 have HZ:=ξ (J6e (ha.sz h0) (hb.sz h1))
 obtain⟨s0,p0,k0,c0,e0,m0,n0,rfl⟩:=ha.agg
 obtain⟨s1,p1,k1,c1,e1,m1,n1,rfl⟩:=hb.agg
 clear ha hb
 rw[← J0t] at hc
 have B:=box33 w (.bool s0) (.slice p0 k0 c0) (.slice e0 m0 n0) (.bool s1) (.slice p1 k1 c1) (.slice e1 m1 n1) 68 68
 have Hb1:=ξ (show ¬ w.heap.size+1 < w.heap.size by omega)
 have Hd01:=ξ (show w.heap.size≠w.heap.size+1 by omega)
 go_enter Tryz.func29,Tryz.ntmps29
 go_wp2_with fail
 generalize (w.alloc _).alloc _=W at B ⊢
 obtain⟨G0,t0,t1⟩:=B
 generalize w.heap.size+1=b1 at t1 Hb1 Hd01 ⊢
 generalize hb0:w.heap.size=b0 at t0 Hd01 ⊢
 have Hb0:=ξ (show ¬ b0 < w.heap.size by omega)
 have G:=ξ G0
 have T0:=ξ t0
 have T1:=ξ t1
 clear hb0 G0 t0 t1
 have HA:=ξ (HA.out.grow G.out)
 have HB:=ξ (HB.out.grow G.out)
 refine(J5R W _ _ x y _ L M HA.out HB.out rfl h1 hL hM).mono ?_
 rintro _ w1 ⟨r1,rfl,g1,h1⟩
 have G:=ξ (G.out.trans g1)
 have T0:=ξ (T0.out.grow g1)
 have T1:=ξ (T1.out.grow g1)
 have HA:=ξ (HA.out.grow g1)
 have HB:=ξ (HB.out.grow g1)
 clear g1
 have H1:=ξ h1
 clear h1
 go_wp2_with fail
 refine(J5Q w1 _ (x - y) c (L+M+1) (H1.out.v HZ.out) hc (by omega)).mono ?_
 rintro _ w2 ⟨_,rfl,g2,rfl⟩
 have G:=ξ (G.out.trans g2)
 have T0:=ξ (T0.out.grow g2)
 have T1:=ξ (T1.out.grow g2)
 have HA:=ξ (HA.out.grow g2)
 have HB:=ξ (HB.out.grow g2)
 have H1:=ξ (H1.out.grow g2)
 clear g2
 go_wp2_with fail
 go_ret
 exact⟨_,rfl,G.out,rfl⟩
theorem Lj (w:World)(z:Int)(h1 : -9223372036854775808≤z)(h2:z≤9223372036854775807):
  Calls Tryz.prog 27 #[.int .i64 z] w (Ret w fun r w'=>RatC w' r (z:Rat)):=by
 have B:=box3 w (.bool false) (.slice none 0 0) (.slice none 0 0) 68
 go_enter Tryz.func27,Tryz.ntmps27
 go_wp2_with fail
 generalize w.alloc _=W at B ⊢
 obtain⟨G0,t0⟩:=B
 generalize hb0:w.heap.size=b0 at t0  ⊢
 have Hb0:=ξ (show ¬ b0 < w.heap.size by omega)
 have G:=ξ G0
 have T0:=ξ t0
 clear hb0 G0 t0
 refine(J5t W z h1 h2).mono ?_
 rintro _ w1 ⟨r1,rfl,g1,h1⟩
 have G:=ξ (G.out.trans g1)
 have T0:=ξ (T0.out.grow g1)
 clear g1
 have H1:=ξ h1
 clear h1
 obtain⟨p2,k2,c2,rfl⟩:=H1.out.agg
 generalize decide (z < 0)=s2 at H1 ⊢
 have HV:=ξ (RatC.ofInt H1.out)
 have T0_0:=T0.out.load.1
 have T0_f0:=T0.out.f0 0
 have T0_1:=T0.out.load.2.1
 have T0_f1:=T0.out.f0 1
 have T0_2:=T0.out.load.2.2
 have T0_f2:=T0.out.f0 2
 go_wp2_with fail
 clear T0_0 T0_f0 T0_1 T0_f1 T0_2 T0_f2
 have hu:=upd3 w1 b0 (.bool s2) (.slice p2 k2 c2) (.slice none 0 0)
 have HV:=ξ (HV.out.upd T0.out.noInt hu)
 have T0:=ξ (T0.out.set (.bool s2) (.slice p2 k2 c2) (.slice none 0 0))
 have G:=ξ (G.out.three Hb0.out (.bool s2) (.slice p2 k2 c2) (.slice none 0 0))
 clear hu
 generalize ((w1.setCell _ _).setCell _ _).setCell _ _=W1 at G T0 HV ⊢
 have T0_0:=T0.out.load.1
 have T0_1:=T0.out.load.2.1
 have T0_2:=T0.out.load.2.2
 refine bodyPost_ret (by simp[results,Tryz.results27,go_sem,T0_0,T0_1,T0_2];rfl) rfl ?_
 exact⟨_,rfl,G.out,HV.out⟩
end Go.Proofs.YtcjgimlcefhhmaaGreatDoor

/- Texts: RatL PsB PsF RatM. -/
import Derived.Test.YtcjgimlcefhhmaaGreatDoorU9
import Derived.Test.YtcjgimlcefhhmaaGreatDoorU14
import Derived.Test.YtcjgimlcefhhmaaGreatDoorU20
import Derived.Test.YtcjgimlcefhhmaaGreatDoorU23
import Derived.Test.YtcjgimlcefhhmaaGreatDoorU25
set_option linter.unusedVariables false
set_option linter.unusedSimpArgs false
set_option maxRecDepth 100000
set_option maxHeartbeats 12800000
namespace Go.Proofs.YtcjgimlcefhhmaaGreatDoor
open Go.RowKit Go.Lib
end Go.Proofs.YtcjgimlcefhhmaaGreatDoor
namespace Go.Proofs.YtcjgimlcefhhmaaGreatDoor
namespace Prf
open Go.RowKit Go.Lib
theorem RatV.mono {w:World}{v:Value}{x:Rat}{L M:Nat}(h:RatV w v x L)(hM:L≤M):RatV w v x M:=by
 obtain⟨n,l,d,k1,k2,k3,k4⟩:=h
 exact⟨n,l,d,k1,k2,by omega,by omega⟩
theorem J0f (w:World)(p:Option Addr)(n c:Nat)(a:Nat→Rat)(L:Nat)(i:Int)(z:Rat)(h:Ke w (.slice p n c) n a L)(h1:0≤i→i < (n:Int)→a i.toNat=z)(h2:¬ (0≤i∧i < (n:Int))→z=0):
  Calls Tryz.prog 30 #[.slice p n c,.int .i64 i] w (Ret w fun r w'=>RatV w' r z L):=by
 have HA:=ξ h
 by_cases hi0:i < 0
 ·obtain rfl:=h2 (by omega)
  clear h h1 h2
  have B:=box3 w (.bool false) (.slice none 0 0) (.slice none 0 0) 68
  go_enter Tryz.func30,Tryz.ntmps30
  go_wp2_with fail
  generalize w.alloc _=W at B ⊢
  obtain⟨G0,t0⟩:=B
  generalize hb0:w.heap.size=b0 at t0  ⊢
  have Hb0:=ξ (show ¬ b0 < w.heap.size by omega)
  have G:=ξ G0
  have T0:=ξ t0
  clear hb0 G0 t0
  have T0_0:=T0.out.load.1
  have T0_1:=T0.out.load.2.1
  have T0_2:=T0.out.load.2.2
  refine bodyPost_ret (by simp[results,Tryz.results30,go_sem,T0_0,T0_1,T0_2];rfl) rfl ?_
  exact⟨_,rfl,G.out,P9 W L⟩
 ·have hi0':0≤i:=by omega
  by_cases hin:i < (n:Int)
  ·have hz:=h1 hi0' hin
   obtain⟨k,rfl⟩:∃ k:Nat,i=k:=⟨i.toNat,by omega⟩
   have hk:k < n:=by omega
   obtain⟨b,o,t,rfl,hv,hc⟩:=h.at hk
   rw[show a k=z from hz] at hv
   have HV:=ξ hv
   have B:=box3 w (.bool false) (.slice none 0 0) (.slice none 0 0) 68
   obtain⟨c0,c1,c2⟩:=hc _ B.1
   have HV:=ξ hv
   clear h h1 h2 hz hv hc B
   go_enter Tryz.func30,Tryz.ntmps30
   go_wp2_with fail
   obtain⟨G1,T0⟩:=box3 w (.bool t.n) (.slice t.p t.k t.c) (.slice t.q t.m t.e) 68
   generalize w.heap.size=b0 at T0 ⊢
   generalize w.alloc _=W1 at G1 T0 ⊢
   have T0_0:=T0.load.1
   have T0_1:=T0.load.2.1
   have T0_2:=T0.load.2.2
   refine bodyPost_ret (by simp[results,Tryz.results30,go_sem,T0_0,T0_1,T0_2];rfl) rfl ?_
   exact⟨_,rfl,G1,HV.out.grow G1⟩
  ·obtain rfl:=h2 (by omega)
   have hin':(n:Int)≤i:=by omega
   clear h h1 h2
   have B:=box3 w (.bool false) (.slice none 0 0) (.slice none 0 0) 68
   go_enter Tryz.func30,Tryz.ntmps30
   go_wp2_with fail
   generalize w.alloc _=W at B ⊢
   obtain⟨G0,t0⟩:=B
   generalize hb0:w.heap.size=b0 at t0  ⊢
   have Hb0:=ξ (show ¬ b0 < w.heap.size by omega)
   have G:=ξ G0
   have T0:=ξ t0
   clear hb0 G0 t0
   have T0_0:=T0.out.load.1
   have T0_1:=T0.out.load.2.1
   have T0_2:=T0.out.load.2.2
   refine bodyPost_ret (by simp[results,Tryz.results30,go_sem,T0_0,T0_1,T0_2];rfl) rfl ?_
   exact⟨_,rfl,G.out,P9 W L⟩
theorem Mk (w:World)(p:Option Addr)(c:Nat)(xs:List Rat)(L k:Nat)(h:Kx w (.slice p xs.length c) xs L):
  Calls Tryz.prog 30 #[.slice p xs.length c,.int .i64 (k:Int)] w (Ret w fun r w'=>RatV w' r (atQ xs k) L):=
 J0f w p xs.length c (atQ xs) L k _ h (fun _ _=>by simp) (fun h=>Rv (by omega))
theorem Js {n:Int}(h:In n) : -9223372036854775808≤n∧n≤9223372036854775807:=by obtain⟨h1,h2⟩:=h;omega
theorem Ky {n:Int}(h:In n):Sz 2 (n:Rat):=Nq (Kf (by
 have:=Ls h
 have e:BB ^ 2=18446744073709551616:=by decide
 rw[e];omega)) (by decide)
theorem J5C (w:World)(n:Int)(vb:Value)(y s:Rat)(M:Nat)(hn:In n)(hb:RatV w vb y M)(hs:(n:Rat) * y=s)(hM:M≤10000):
  Calls Tryz.prog 108 #[.int .i64 n,vb] w (Ret w fun r w'=>RatC w' r s):=by
 have HB:=ξ hb
 have HN:=ξ hn
 have HS:=ξ hs
 obtain⟨s1,p1,k1,c1,e1,m1,n1,rfl⟩:=hb.agg
 clear hb hn hs
 have B:=box33 w (.bool s1) (.slice p1 k1 c1) (.slice e1 m1 n1) (.bool false) (.slice none 0 0) (.slice none 0 0) 68 68
 have Hb1:=ξ (show ¬ w.heap.size+1 < w.heap.size by omega)
 have Hd01:=ξ (show w.heap.size≠w.heap.size+1 by omega)
 go_enter Tryz.func108,Tryz.ntmps108
 go_wp2_with fail
 generalize (w.alloc _).alloc _=W at B ⊢
 obtain⟨G0,t0,t1⟩:=B
 generalize w.heap.size+1=b1 at t1 Hb1 Hd01 ⊢
 generalize hb0:w.heap.size=b0 at t0 Hd01 ⊢
 have Hb0:=ξ (show ¬ b0 < w.heap.size by omega)
 have G:=ξ G0
 have T0:=ξ t0
 have T1:=ξ t1
 clear hb0 G0 t0 t1
 have HB:=ξ (HB.out.grow G.out)
 refine Jp [(0,true),(2,true),(1,false),(3,false),(4,false)] (by kernel_rfl) (by kernel_rfl) rfl (by kernel_rfl) (fun _ _ d _ _ h=>by cases d<;>exact h) ?_
 have T0_0:=T0.out.c0
 have T0_1:=T0.out.c1
 have T0_2:=T0.out.c2
 have T1_0:=T1.out.c0
 have T1_1:=T1.out.c1
 have T1_2:=T1.out.c2
 have g0:Gr W W.drew:=(Gr.refl _).drew
 have G:=ξ (G.out.trans g0)
 have T0:=ξ (T0.out.grow g0)
 have T1:=ξ (T1.out.grow g0)
 have HB:=ξ (HB.out.grow g0)
 repeat(refine Jf (v:=?_) g0 rfl rfl (fun w' hg=>?_) (fun K hK=>?_);rotate_left;(go_simp;rfl);go_simp;refine hK _ _ ?_;clear hK K)
 refine Jd (args:=?_) rfl rfl rfl rfl rfl rfl (by kernel_rfl) (by kernel_rfl) ?_ (fun K hK=>?_)
 rotate_left
 ·go_simp;rfl
 refine(Lj _ n (Js HN.out).1 (Js HN.out).2).mono ?_
 rintro _ w1 ⟨r1,rfl,g1,h1⟩
 refine⟨_,rfl,g1,?_⟩
 go_simp
 refine hK _ _ ?_
 clear hK K
 have G:=ξ (G.out.trans g1)
 have T0:=ξ (T0.out.grow g1)
 have T1:=ξ (T1.out.grow g1)
 have HB:=ξ (HB.out.grow g1)
 replace g0:=g0.trans g1
 clear g1
 have H1:=ξ h1
 clear h1
 refine Jd (args:=?_) rfl rfl rfl rfl rfl rfl (by kernel_rfl) (by kernel_rfl) ?_ (fun K hK=>?_)
 rotate_left
 ·go_simp;rfl
 refine(J5O _ _ _ (n:Rat) y s 2 M (H1.out.v (Ky HN.out)) HB.out HS.out (by decide) hM).mono ?_
 rintro _ w2 ⟨r2,rfl,g2,h2⟩
 refine⟨_,rfl,g2,?_⟩
 go_simp
 refine hK _ _ ?_
 clear hK K
 have G:=ξ (G.out.trans g2)
 have T0:=ξ (T0.out.grow g2)
 have T1:=ξ (T1.out.grow g2)
 have HB:=ξ (HB.out.grow g2)
 have H1:=ξ (H1.out.grow g2)
 replace g0:=g0.trans g2
 clear g2
 have H2:=ξ h2
 clear h2
 obtain⟨s8,p8,k8,c8,e8,m8,n8,rfl⟩:=H2.out.agg
 clear T1_0 T1_1 T1_2
 have T1_0:=T1.out.load.1
 have T1_f0:=T1.out.f0 0
 have T1_1:=T1.out.load.2.1
 have T1_f1:=T1.out.f0 1
 have T1_2:=T1.out.load.2.2
 have T1_f2:=T1.out.f0 2
 refine Jj rfl rfl (fun K hK=>?_)
 go_simp
 refine⟨fun h=>Bool.noConfusion h,hK _ _ ?_⟩
 clear hK K
 clear T0_0 T0_1 T0_2 T1_0 T1_1 T1_2 T1_f0 T1_f1 T1_f2
 have hu:=upd3 w2 b1 (.bool s8) (.slice p8 k8 c8) (.slice e8 m8 n8)
 have H2:=ξ (H2.out.upd T1.out.noInt hu)
 have T0:=ξ (T0.out.upd hu Hd01.out)
 have T1:=ξ (T1.out.set (.bool s8) (.slice p8 k8 c8) (.slice e8 m8 n8))
 have G:=ξ (G.out.three Hb1.out (.bool s8) (.slice p8 k8 c8) (.slice e8 m8 n8))
 clear hu
 generalize ((w2.setCell _ _).setCell _ _).setCell _ _=W1 at G T0 T1 H2 ⊢
 refine Ji ?_
 clear g0
 go_wp2_with fail
 have T1_0:=T1.out.load.1
 have T1_1:=T1.out.load.2.1
 have T1_2:=T1.out.load.2.2
 refine bodyPost_ret (by simp[results,Tryz.results108,go_sem,T1_0,T1_1,T1_2];rfl) rfl ?_
 exact⟨_,rfl,G.out,H2.out⟩
theorem Rw {x:Rat}{c:Int}(h:sgn x.num=c):(c < 0↔x < 0)∧(0 < c↔0 < x):=by
 have e:=J0t x 0
 rw[show x - 0=x by grind,h] at e
 subst e
 unfold cmpQ
 split
 ·rename_i k;exact⟨⟨fun _=>k,fun _=>by decide⟩,⟨fun h=>absurd h (by decide),fun h=>by grind⟩⟩
 ·rename_i k
  split
  ·rename_i k2;subst k2;exact⟨⟨fun h=>absurd h (by decide),fun h=>absurd h k⟩,⟨fun h=>absurd h (by decide),fun h=>absurd h (by decide)⟩⟩
  ·rename_i k2;exact⟨⟨fun h=>absurd h (by decide),fun h=>absurd h k⟩,⟨fun _=>by grind,fun _=>by decide⟩⟩
end Prf
end Go.Proofs.YtcjgimlcefhhmaaGreatDoor
namespace Go.Proofs.YtcjgimlcefhhmaaGreatDoor
open Go.RowKit Go.Lib
theorem J6w (x:Rat):validQ (decide (x.num < 0)) (digs x.num.natAbs) (dd x.den)=true:=by
 rw[← J1P _ _ _ (Dig.digs _) (J2b _),J0c]
 simp
theorem J6n (w:World)(va:Value)(x:Rat)(L:Nat)(ha:RatC w va x)(hx:Sz L x)(hL:L≤1000):
  Calls Tryz.prog 118 #[va] w (Ret w fun r w'=>r = .bool true):=
 J09 w va _ _ _ true L ha hx.1 (Vy hx.2) hL (J6w x)
end Go.Proofs.YtcjgimlcefhhmaaGreatDoor

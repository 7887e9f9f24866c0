/- Texts: RatB RatC RatD RatE. -/
import Derived.Test.YtcjgimlcefhhmaaGreatDoorU20
set_option linter.unusedVariables false
set_option linter.unusedSimpArgs false
set_option maxRecDepth 100000
set_option maxHeartbeats 12800000
namespace Go.Proofs.YtcjgimlcefhhmaaGreatDoor
open Go.RowKit Go.Lib
theorem box2 (w:World)(x y:Value)(t:TypeId):Gr w (w.alloc (.cells #[x,y] t))∧Two (w.alloc (.cells #[x,y] t)) w.heap.size x y:=boxed1 w x y t
theorem box3 (w:World)(x y z:Value)(t:TypeId):Gr w (w.alloc (.cells #[x,y,z] t))∧Jk (w.alloc (.cells #[x,y,z] t)) w.heap.size x y z:=
 ⟨(Gr.refl w).alloc _,Jk.new w x y z t⟩
theorem box22 (w:World)(x00 x01 x10 x11:Value)(t0 t1:TypeId):Gr w ((w.alloc (.cells #[x00,x01] t0)).alloc (.cells #[x10,x11] t1))∧Two ((w.alloc (.cells #[x00,x01] t0)).alloc (.cells #[x10,x11] t1)) (w.heap.size) x00 x01∧Two ((w.alloc (.cells #[x00,x01] t0)).alloc (.cells #[x10,x11] t1)) (w.heap.size+1) x10 x11:=by
 obtain⟨g,h0⟩:=box2 w x00 x01 t0
 obtain⟨g',h'⟩:=box2 (w.alloc (.cells #[x00,x01] t0)) x10 x11 t1
 rw[World.size_alloc] at h'
 exact⟨g.trans g',h0.grow g',h'⟩
theorem box23 (w:World)(x00 x01 x10 x11 x12:Value)(t0 t1:TypeId):Gr w ((w.alloc (.cells #[x00,x01] t0)).alloc (.cells #[x10,x11,x12] t1))∧Two ((w.alloc (.cells #[x00,x01] t0)).alloc (.cells #[x10,x11,x12] t1)) (w.heap.size) x00 x01∧Jk ((w.alloc (.cells #[x00,x01] t0)).alloc (.cells #[x10,x11,x12] t1)) (w.heap.size+1) x10 x11 x12:=by
 obtain⟨g,h0⟩:=box2 w x00 x01 t0
 obtain⟨g',h'⟩:=box3 (w.alloc (.cells #[x00,x01] t0)) x10 x11 x12 t1
 rw[World.size_alloc] at h'
 exact⟨g.trans g',h0.grow g',h'⟩
theorem box32 (w:World)(x00 x01 x02 x10 x11:Value)(t0 t1:TypeId):Gr w ((w.alloc (.cells #[x00,x01,x02] t0)).alloc (.cells #[x10,x11] t1))∧Jk ((w.alloc (.cells #[x00,x01,x02] t0)).alloc (.cells #[x10,x11] t1)) (w.heap.size) x00 x01 x02∧Two ((w.alloc (.cells #[x00,x01,x02] t0)).alloc (.cells #[x10,x11] t1)) (w.heap.size+1) x10 x11:=by
 obtain⟨g,h0⟩:=box3 w x00 x01 x02 t0
 obtain⟨g',h'⟩:=box2 (w.alloc (.cells #[x00,x01,x02] t0)) x10 x11 t1
 rw[World.size_alloc] at h'
 exact⟨g.trans g',h0.grow g',h'⟩
theorem box33 (w:World)(x00 x01 x02 x10 x11 x12:Value)(t0 t1:TypeId):Gr w ((w.alloc (.cells #[x00,x01,x02] t0)).alloc (.cells #[x10,x11,x12] t1))∧Jk ((w.alloc (.cells #[x00,x01,x02] t0)).alloc (.cells #[x10,x11,x12] t1)) (w.heap.size) x00 x01 x02∧Jk ((w.alloc (.cells #[x00,x01,x02] t0)).alloc (.cells #[x10,x11,x12] t1)) (w.heap.size+1) x10 x11 x12:=by
 obtain⟨g,h0⟩:=box3 w x00 x01 x02 t0
 obtain⟨g',h'⟩:=box3 (w.alloc (.cells #[x00,x01,x02] t0)) x10 x11 x12 t1
 rw[World.size_alloc] at h'
 exact⟨g.trans g',h0.grow g',h'⟩
theorem box222 (w:World)(x00 x01 x10 x11 x20 x21:Value)(t0 t1 t2:TypeId):Gr w (((w.alloc (.cells #[x00,x01] t0)).alloc (.cells #[x10,x11] t1)).alloc (.cells #[x20,x21] t2))∧Two (((w.alloc (.cells #[x00,x01] t0)).alloc (.cells #[x10,x11] t1)).alloc (.cells #[x20,x21] t2)) (w.heap.size) x00 x01∧Two (((w.alloc (.cells #[x00,x01] t0)).alloc (.cells #[x10,x11] t1)).alloc (.cells #[x20,x21] t2)) (w.heap.size+1) x10 x11∧Two (((w.alloc (.cells #[x00,x01] t0)).alloc (.cells #[x10,x11] t1)).alloc (.cells #[x20,x21] t2)) (w.heap.size+1+1) x20 x21:=by
 obtain⟨g,h0,h1⟩:=box22 w x00 x01 x10 x11 t0 t1
 obtain⟨g',h'⟩:=box2 ((w.alloc (.cells #[x00,x01] t0)).alloc (.cells #[x10,x11] t1)) x20 x21 t2
 rw[World.size_alloc,World.size_alloc] at h'
 exact⟨g.trans g',h0.grow g',h1.grow g',h'⟩
theorem box223 (w:World)(x00 x01 x10 x11 x20 x21 x22:Value)(t0 t1 t2:TypeId):Gr w (((w.alloc (.cells #[x00,x01] t0)).alloc (.cells #[x10,x11] t1)).alloc (.cells #[x20,x21,x22] t2))∧Two (((w.alloc (.cells #[x00,x01] t0)).alloc (.cells #[x10,x11] t1)).alloc (.cells #[x20,x21,x22] t2)) (w.heap.size) x00 x01∧Two (((w.alloc (.cells #[x00,x01] t0)).alloc (.cells #[x10,x11] t1)).alloc (.cells #[x20,x21,x22] t2)) (w.heap.size+1) x10 x11∧Jk (((w.alloc (.cells #[x00,x01] t0)).alloc (.cells #[x10,x11] t1)).alloc (.cells #[x20,x21,x22] t2)) (w.heap.size+1+1) x20 x21 x22:=by
 obtain⟨g,h0,h1⟩:=box22 w x00 x01 x10 x11 t0 t1
 obtain⟨g',h'⟩:=box3 ((w.alloc (.cells #[x00,x01] t0)).alloc (.cells #[x10,x11] t1)) x20 x21 x22 t2
 rw[World.size_alloc,World.size_alloc] at h'
 exact⟨g.trans g',h0.grow g',h1.grow g',h'⟩
theorem box333 (w:World)(x00 x01 x02 x10 x11 x12 x20 x21 x22:Value)(t0 t1 t2:TypeId):Gr w (((w.alloc (.cells #[x00,x01,x02] t0)).alloc (.cells #[x10,x11,x12] t1)).alloc (.cells #[x20,x21,x22] t2))∧Jk (((w.alloc (.cells #[x00,x01,x02] t0)).alloc (.cells #[x10,x11,x12] t1)).alloc (.cells #[x20,x21,x22] t2)) (w.heap.size) x00 x01 x02∧Jk (((w.alloc (.cells #[x00,x01,x02] t0)).alloc (.cells #[x10,x11,x12] t1)).alloc (.cells #[x20,x21,x22] t2)) (w.heap.size+1) x10 x11 x12∧Jk (((w.alloc (.cells #[x00,x01,x02] t0)).alloc (.cells #[x10,x11,x12] t1)).alloc (.cells #[x20,x21,x22] t2)) (w.heap.size+1+1) x20 x21 x22:=by
 obtain⟨g,h0,h1⟩:=box33 w x00 x01 x02 x10 x11 x12 t0 t1
 obtain⟨g',h'⟩:=box3 ((w.alloc (.cells #[x00,x01,x02] t0)).alloc (.cells #[x10,x11,x12] t1)) x20 x21 x22 t2
 rw[World.size_alloc,World.size_alloc] at h'
 exact⟨g.trans g',h0.grow g',h1.grow g',h'⟩
theorem box2222 (w:World)(x00 x01 x10 x11 x20 x21 x30 x31:Value)(t0 t1 t2 t3:TypeId):Gr w ((((w.alloc (.cells #[x00,x01] t0)).alloc (.cells #[x10,x11] t1)).alloc (.cells #[x20,x21] t2)).alloc (.cells #[x30,x31] t3))∧Two ((((w.alloc (.cells #[x00,x01] t0)).alloc (.cells #[x10,x11] t1)).alloc (.cells #[x20,x21] t2)).alloc (.cells #[x30,x31] t3)) (w.heap.size) x00 x01∧Two ((((w.alloc (.cells #[x00,x01] t0)).alloc (.cells #[x10,x11] t1)).alloc (.cells #[x20,x21] t2)).alloc (.cells #[x30,x31] t3)) (w.heap.size+1) x10 x11∧Two ((((w.alloc (.cells #[x00,x01] t0)).alloc (.cells #[x10,x11] t1)).alloc (.cells #[x20,x21] t2)).alloc (.cells #[x30,x31] t3)) (w.heap.size+1+1) x20 x21∧Two ((((w.alloc (.cells #[x00,x01] t0)).alloc (.cells #[x10,x11] t1)).alloc (.cells #[x20,x21] t2)).alloc (.cells #[x30,x31] t3)) (w.heap.size+1+1+1) x30 x31:=by
 obtain⟨g,h0,h1,h2⟩:=box222 w x00 x01 x10 x11 x20 x21 t0 t1 t2
 obtain⟨g',h'⟩:=box2 (((w.alloc (.cells #[x00,x01] t0)).alloc (.cells #[x10,x11] t1)).alloc (.cells #[x20,x21] t2)) x30 x31 t3
 rw[World.size_alloc,World.size_alloc,World.size_alloc] at h'
 exact⟨g.trans g',h0.grow g',h1.grow g',h2.grow g',h'⟩
theorem box22222 (w:World)(x00 x01 x10 x11 x20 x21 x30 x31 x40 x41:Value)(t0 t1 t2 t3 t4:TypeId):Gr w (((((w.alloc (.cells #[x00,x01] t0)).alloc (.cells #[x10,x11] t1)).alloc (.cells #[x20,x21] t2)).alloc (.cells #[x30,x31] t3)).alloc (.cells #[x40,x41] t4))∧Two (((((w.alloc (.cells #[x00,x01] t0)).alloc (.cells #[x10,x11] t1)).alloc (.cells #[x20,x21] t2)).alloc (.cells #[x30,x31] t3)).alloc (.cells #[x40,x41] t4)) (w.heap.size) x00 x01∧Two (((((w.alloc (.cells #[x00,x01] t0)).alloc (.cells #[x10,x11] t1)).alloc (.cells #[x20,x21] t2)).alloc (.cells #[x30,x31] t3)).alloc (.cells #[x40,x41] t4)) (w.heap.size+1) x10 x11∧Two (((((w.alloc (.cells #[x00,x01] t0)).alloc (.cells #[x10,x11] t1)).alloc (.cells #[x20,x21] t2)).alloc (.cells #[x30,x31] t3)).alloc (.cells #[x40,x41] t4)) (w.heap.size+1+1) x20 x21∧Two (((((w.alloc (.cells #[x00,x01] t0)).alloc (.cells #[x10,x11] t1)).alloc (.cells #[x20,x21] t2)).alloc (.cells #[x30,x31] t3)).alloc (.cells #[x40,x41] t4)) (w.heap.size+1+1+1) x30 x31∧Two (((((w.alloc (.cells #[x00,x01] t0)).alloc (.cells #[x10,x11] t1)).alloc (.cells #[x20,x21] t2)).alloc (.cells #[x30,x31] t3)).alloc (.cells #[x40,x41] t4)) (w.heap.size+1+1+1+1) x40 x41:=by
 obtain⟨g,h0,h1,h2,h3⟩:=box2222 w x00 x01 x10 x11 x20 x21 x30 x31 t0 t1 t2 t3
 obtain⟨g',h'⟩:=box2 ((((w.alloc (.cells #[x00,x01] t0)).alloc (.cells #[x10,x11] t1)).alloc (.cells #[x20,x21] t2)).alloc (.cells #[x30,x31] t3)) x40 x41 t4
 rw[World.size_alloc,World.size_alloc,World.size_alloc,World.size_alloc] at h'
 exact⟨g.trans g',h0.grow g',h1.grow g',h2.grow g',h3.grow g',h'⟩
theorem box222222 (w:World)(x00 x01 x10 x11 x20 x21 x30 x31 x40 x41 x50 x51:Value)(t0 t1 t2 t3 t4 t5:TypeId):Gr w ((((((w.alloc (.cells #[x00,x01] t0)).alloc (.cells #[x10,x11] t1)).alloc (.cells #[x20,x21] t2)).alloc (.cells #[x30,x31] t3)).alloc (.cells #[x40,x41] t4)).alloc (.cells #[x50,x51] t5))∧Two ((((((w.alloc (.cells #[x00,x01] t0)).alloc (.cells #[x10,x11] t1)).alloc (.cells #[x20,x21] t2)).alloc (.cells #[x30,x31] t3)).alloc (.cells #[x40,x41] t4)).alloc (.cells #[x50,x51] t5)) (w.heap.size) x00 x01∧Two ((((((w.alloc (.cells #[x00,x01] t0)).alloc (.cells #[x10,x11] t1)).alloc (.cells #[x20,x21] t2)).alloc (.cells #[x30,x31] t3)).alloc (.cells #[x40,x41] t4)).alloc (.cells #[x50,x51] t5)) (w.heap.size+1) x10 x11∧Two ((((((w.alloc (.cells #[x00,x01] t0)).alloc (.cells #[x10,x11] t1)).alloc (.cells #[x20,x21] t2)).alloc (.cells #[x30,x31] t3)).alloc (.cells #[x40,x41] t4)).alloc (.cells #[x50,x51] t5)) (w.heap.size+1+1) x20 x21∧Two ((((((w.alloc (.cells #[x00,x01] t0)).alloc (.cells #[x10,x11] t1)).alloc (.cells #[x20,x21] t2)).alloc (.cells #[x30,x31] t3)).alloc (.cells #[x40,x41] t4)).alloc (.cells #[x50,x51] t5)) (w.heap.size+1+1+1) x30 x31∧Two ((((((w.alloc (.cells #[x00,x01] t0)).alloc (.cells #[x10,x11] t1)).alloc (.cells #[x20,x21] t2)).alloc (.cells #[x30,x31] t3)).alloc (.cells #[x40,x41] t4)).alloc (.cells #[x50,x51] t5)) (w.heap.size+1+1+1+1) x40 x41∧Two ((((((w.alloc (.cells #[x00,x01] t0)).alloc (.cells #[x10,x11] t1)).alloc (.cells #[x20,x21] t2)).alloc (.cells #[x30,x31] t3)).alloc (.cells #[x40,x41] t4)).alloc (.cells #[x50,x51] t5)) (w.heap.size+1+1+1+1+1) x50 x51:=by
 obtain⟨g,h0,h1,h2,h3,h4⟩:=box22222 w x00 x01 x10 x11 x20 x21 x30 x31 x40 x41 t0 t1 t2 t3 t4
 obtain⟨g',h'⟩:=box2 (((((w.alloc (.cells #[x00,x01] t0)).alloc (.cells #[x10,x11] t1)).alloc (.cells #[x20,x21] t2)).alloc (.cells #[x30,x31] t3)).alloc (.cells #[x40,x41] t4)) x50 x51 t5
 rw[World.size_alloc,World.size_alloc,World.size_alloc,World.size_alloc,World.size_alloc] at h'
 exact⟨g.trans g',h0.grow g',h1.grow g',h2.grow g',h3.grow g',h4.grow g',h'⟩
theorem J0m {w w3:World}{z:Int}{L b:Nat}{s sg:Bool}{p p3:Option Addr}{k c k3 c3:Nat}(hb:¬ b < w.heap.size)(g:Gr w w3)(t:Two w3 b (.bool s) (.slice p k c))
  (h:IntV w3 (.agg #[.bool sg,.slice p3 k3 c3]) z L):
  Ret w (fun r w'=>IntV w' r z L) (.returned (.agg #[.bool sg,.slice p3 k3 c3])) ((w3.setCell ⟨b,0,none⟩ (.bool sg)).setCell ⟨b,1,none⟩ (.slice p3 k3 c3)):=
 ⟨_,rfl,g.two hb _ _,h.upd t.noInt (upd2 _ _ _ _)⟩
theorem IntV.nat' {w:World}{s:Bool}{p:Option Addr}{k c L:Nat}{z:Int}(h:IntV w (.agg #[.bool s,.slice p k c]) z L):∃ l,NatL w (.slice p k c) l∧nval l=z.natAbs∧l.length≤L:=by
 obtain⟨n,l,⟨p',k',c',e,h⟩,rfl,h3⟩:=h
 simp only[Value.agg.injEq,Array.mk.injEq,List.cons.injEq,Value.bool.injEq,Value.slice.injEq,and_true] at e
 obtain⟨rfl,rfl,rfl,rfl⟩:=e
 exact⟨l,h,by rw[O8],h3⟩
theorem IntV.agg {w:World}{v:Value}{z:Int}{L:Nat}(h:IntV w v z L):∃ s p k c,v = .agg #[.bool s,.slice p k c]:=by
 obtain⟨n,l,⟨p',k',c',e,h⟩,rfl,h3⟩:=h
 exact⟨_,_,_,_,e⟩
theorem IntC.agg {w:World}{v:Value}{z:Int}(h:IntC w v z):∃ p k c,v = .agg #[.bool (decide (z < 0)),.slice p k c]:=by
 obtain⟨p',k',c',e,h⟩:=h
 exact⟨_,_,_,e⟩
theorem IntC.mag {w:World}{s:Bool}{p:Option Addr}{k c:Nat}{z:Int}(h:IntC w (.agg #[.bool s,.slice p k c]) z):NatL w (.slice p k c) (digs z.natAbs):=by
 obtain⟨p',k',c',e,h⟩:=h
 simp only[Value.agg.injEq,Array.mk.injEq,List.cons.injEq,Value.bool.injEq,Value.slice.injEq,and_true] at e
 obtain⟨-,rfl,rfl,rfl⟩:=e
 exact h
theorem J2i {d:List Nat}(h:bitsN (nval d)=0):denV d=1:=by
 unfold denV
 rw[if_pos]
 rcases Nat.eq_zero_or_pos (nval d) with h0|h0
 ·exact h0
 ·have:=Ry (n:=nval d) (by omega);omega
theorem J2h {d:List Nat}(h:bitsN (nval d)≠0):denV d=nval d:=by
 unfold denV
 rw[if_neg]
 intro h0
 rw[h0,Vj] at h
 exact h rfl
theorem J5n (w:World)(va:Value)(n:Bool)(l d:List Nat)(L:Nat)(ha:RatL w va n l d)(hd:d.length≤L)(hL:L≤1000000):
  Calls Tryz.prog 132 #[va] w (Ret w fun r w'=>IntV w' r (denV d:Int) (L+1)):=by
 obtain⟨p,k,c,q,m,e,rfl,h1,h2⟩:=ha
 have HD:=ξ h2
 clear h1 h2
 have B:=box32 w (.bool n) (.slice p k c) (.slice q m e) (.bool false) (.slice none 0 0) 68 66
 have Hb1:=ξ (show ¬ w.heap.size+1 < w.heap.size by omega)
 have Hd01:=ξ (show w.heap.size≠w.heap.size+1 by omega)
 go_enter Tryz.func132,Tryz.ntmps132
 go_wp2_with fail
 generalize (w.alloc _).alloc _=W at B ⊢
 obtain⟨G0,t0,t1⟩:=B
 generalize w.heap.size+1=b1 at t1 Hb1 Hd01 ⊢
 generalize hb0:w.heap.size=b0 at t0 Hd01 ⊢
 have Hb0:=ξ (show ¬ b0 < w.heap.size by omega)
 have G:=ξ G0
 have T0:=ξ t0
 have T1:=ξ t1
 clear hb0 G0 t0 t1
 have HD:=ξ (HD.out.grow G.out)
 refine(Pr W _ d HD.out (by omega)).mono ?_
 rintro _ _ ⟨rfl,rfl⟩
 obtain⟨B0,hB0⟩:∃ B0,bitsN (nval d)=B0:=⟨_,rfl⟩
 have HB0:=ξ hB0
 rw[hB0]
 clear hB0
 by_cases h0:B0=0
 ·subst h0
  go_wp2_with fail
  refine(Yb W 1 (by decide) (by decide)).mono ?_
  rintro _ w2 ⟨r,rfl,g2,hr⟩
  obtain⟨p2,k2,c2,rfl⟩:=hr.agg
  have RR:=ξ (J0m Hb1.out (G.out.trans g2) (T1.out.grow g2) (L:=L+1) (by rw[J2i HB0.out];exact hr.v (Nat.le_trans (J3M 1 (by decide) (by decide)) (Nat.le_add_left _ _)):IntV w2 _ (denV d:Int) (L+1)))
  have G:=ξ (G.out.trans g2)
  have T0:=ξ (T0.out.grow g2)
  have T1:=ξ (T1.out.grow g2)
  have HD:=ξ (HD.out.grow g2)
  clear g2
  have T1_0:=T1.out.load.1
  have T1_f0:=T1.out.f0 0
  have T1_1:=T1.out.load.2
  have T1_f1:=T1.out.f0 1
  go_wp2_with fail
  refine bodyPost_ret (by simp[results,Tryz.results132,go_sem,T1_0,T1_1];rfl) rfl ?_
  exact RR.out
 ·have hne:¬ (B0:Int)=0:=by omega
  have RR:=ξ (J0m Hb1.out G.out T1.out (L:=L+1) (by rw[J2h (by rw[HB0.out];exact h0)];exact IntV.nat HD.out (Nat.le_succ_of_le hd):IntV W _ (denV d:Int) (L+1)))
  have T0_0:=T0.out.load.1
  have T0_f0:=T0.out.f0 0
  have T0_1:=T0.out.load.2.1
  have T0_f1:=T0.out.f0 1
  have T0_2:=T0.out.load.2.2
  have T0_f2:=T0.out.f0 2
  have T1_0:=T1.out.load.1
  have T1_f0:=T1.out.f0 0
  have T1_1:=T1.out.load.2
  have T1_f1:=T1.out.f0 1
  go_wp2_with fail
  refine bodyPost_ret (by simp[results,Tryz.results132,go_sem,T1_0,T1_1];rfl) rfl ?_
  exact RR.out
theorem Sv {q L:Nat}(z:Nat)(hq:q≠0)(h:(digs q).length≤L):(digs (Nat.gcd z q)).length≤L:=
 Nat.le_trans (Kn (Nat.gcd_le_right _ (by omega))) h
theorem Ol (k:Nat):cmpZ (k:Int) ((1:Nat):Int)=0↔k=1:=by
 unfold cmpZ
 split<;>(try split)<;>omega
theorem Q2 (w:World)(va vb:Value)(x y:Int)(L M:Nat)(hx:IntV w va x L)(hy:IntV w vb y M)(h0:y≠0)(hL:L≤1000000)(hM:M≤1000000):
  Calls Tryz.prog 146 #[va,vb] w (Ret w fun r w'=>RatC w' r (Rat.divInt x y)):=by
 have HX:=ξ hx
 have HY:=ξ hy
 have HL:=ξ hL
 have HM:=ξ hM
 obtain⟨s0,p0,k0,c0,rfl⟩:=hx.agg
 obtain⟨s1,p1,k1,c1,rfl⟩:=hy.agg
 clear hx hy hL hM
 have B:=box223 w (.bool s0) (.slice p0 k0 c0) (.bool s1) (.slice p1 k1 c1) (.bool false) (.slice none 0 0) (.slice none 0 0) 66 66 68
 have Hb1:=ξ (show ¬ w.heap.size+1 < w.heap.size by omega)
 have Hb2:=ξ (show ¬ w.heap.size+1+1 < w.heap.size by omega)
 have Hd01:=ξ (show w.heap.size≠w.heap.size+1 by omega)
 have Hd02:=ξ (show w.heap.size≠w.heap.size+1+1 by omega)
 have Hd12:=ξ (show w.heap.size+1≠w.heap.size+1+1 by omega)
 go_enter Tryz.func146,Tryz.ntmps146
 go_wp2_with fail
 generalize ((w.alloc _).alloc _).alloc _=W at B ⊢
 obtain⟨G0,t0,t1,t2⟩:=B
 generalize w.heap.size+1+1=b2 at t2 Hb2 Hd02 Hd12 ⊢
 generalize w.heap.size+1=b1 at t1 Hb1 Hd01 Hd12 ⊢
 generalize hb0:w.heap.size=b0 at t0 Hd01 Hd02 ⊢
 have Hb0:=ξ (show ¬ b0 < w.heap.size by omega)
 have G:=ξ G0
 have T0:=ξ t0
 have T1:=ξ t1
 have T2:=ξ t2
 clear hb0 G0 t0 t1 t2
 have HX:=ξ (HX.out.grow G.out)
 have HY:=ξ (HY.out.grow G.out)
 obtain⟨sy,hsy⟩:∃ sy,sgn y=sy:=⟨_,rfl⟩
 refine(Ur W _ y sy M HY.out hsy HM.out).mono ?_
 rintro _ w1 ⟨_,rfl,g1,rfl⟩
 have G:=ξ (G.out.trans g1)
 have T0:=ξ (T0.out.grow g1)
 have T1:=ξ (T1.out.grow g1)
 have T2:=ξ (T2.out.grow g1)
 have HX:=ξ (HX.out.grow g1)
 have HY:=ξ (HY.out.grow g1)
 clear g1
 by_cases hneg:y < 0
 ·have hs:sy < 0:=by rw[← hsy];unfold sgn;rw[if_pos hneg];decide
  have HR:=ξ (J2p (a:=x) hneg)
  have HY2:=ξ (show -y=(y.natAbs:Int) by omega)
  have Hq:=ξ (show y.natAbs≠0 by omega)
  obtain⟨q,hq⟩:∃ q,y.natAbs=q:=⟨_,rfl⟩
  obtain⟨z,hz⟩:∃ z,-x=z:=⟨_,rfl⟩
  rw[hq] at HR HY2 Hq
  rw[hz] at HR
  clear hsy hneg h0 hq
  go_wp2_with fail
  refine Jp [(0,true),(2,true),(1,false),(3,false),(4,false),(5,false)] (by kernel_rfl) (by kernel_rfl) rfl (by kernel_rfl) (fun _ _ d _ _ h=>by cases d<;>exact h) ?_
  have g0:Gr w1 w1.drew:=(Gr.refl _).drew
  have T0_0:=T0.out.c0
  have T0_1:=T0.out.c1
  have T1_0:=T1.out.c0
  have T1_1:=T1.out.c1
  repeat(refine Jf (v:=?_) g0 rfl rfl (fun w' hg=>?_) (fun K hK=>?_);rotate_left;(go_simp;rfl);go_simp;refine hK _ _ ?_;clear hK K)
  refine Jd (args:=?_) rfl rfl rfl rfl rfl rfl (by kernel_rfl) (by kernel_rfl) ?_ (fun K hK=>?_)
  rotate_left
  ·go_simp;rfl
  refine(Re _ _ x z L (HX.out.grow g0) hz HL.out).mono ?_
  rintro _ w2 ⟨r2,rfl,g2,h2⟩
  refine⟨_,rfl,g2,?_⟩
  go_simp
  refine hK _ _ ?_
  clear hK K
  replace g0:=g0.trans g2
  have H2:=ξ h2.2
  obtain⟨s2,p2,k2,c2,rfl⟩:=h2.2.agg
  clear h2 g2
  refine Jd (args:=?_) rfl rfl rfl rfl rfl rfl (by kernel_rfl) (by kernel_rfl) ?_ (fun K hK=>?_)
  rotate_left
  ·go_simp;rfl
  refine(Re _ _ y (q:Int) M (HY.out.grow g0) HY2.out HM.out).mono ?_
  rintro _ w3 ⟨r3,rfl,g3,h3⟩
  refine⟨_,rfl,g3,?_⟩
  go_simp
  refine hK _ _ ?_
  clear hK K
  replace g0:=g0.trans g3
  have H2:=ξ (H2.out.grow g3)
  have H3:=ξ h3.2
  obtain⟨s3,p3,k3,c3,rfl⟩:=h3.2.agg
  clear h3 g3
  clear T0_0 T0_1 T1_0 T1_1
  have G:=ξ (G.out.trans g0)
  have T0:=ξ (T0.out.grow g0)
  have T1:=ξ (T1.out.grow g0)
  have T2:=ξ (T2.out.grow g0)
  have HX:=ξ (HX.out.grow g0)
  have HY:=ξ (HY.out.grow g0)
  clear g0
  have T0_0:=T0.out.load.1
  have T0_f0:=T0.out.f0 0
  have T0_1:=T0.out.load.2
  have T0_f1:=T0.out.f0 1
  refine Jj rfl rfl (fun K hK=>?_)
  go_simp
  refine⟨fun h=>Bool.noConfusion h,hK _ _ ?_⟩
  clear hK K
  clear T0_0 T0_f0 T0_1 T0_f1
  have hu:=upd2 w3 b0 (.bool s2) (.slice p2 k2 c2)
  have H2:=ξ (H2.out.upd T0.out.noInt hu)
  have H3:=ξ (H3.out.upd T0.out.noInt hu)
  have T1:=ξ (T1.out.upd hu Hd01.out.symm)
  have T2:=ξ (T2.out.upd hu Hd02.out.symm)
  have T0:=ξ (T0.out.set (.bool s2) (.slice p2 k2 c2))
  have G:=ξ (G.out.two Hb0.out (.bool s2) (.slice p2 k2 c2))
  clear hu
  generalize (w3.setCell _ _).setCell _ _=W1 at G T0 T1 T2 H2 H3 ⊢
  have T1_0:=T1.out.load.1
  have T1_f0:=T1.out.f0 0
  have T1_1:=T1.out.load.2
  have T1_f1:=T1.out.f0 1
  refine Jj rfl rfl (fun K hK=>?_)
  go_simp
  refine⟨fun h=>Bool.noConfusion h,hK _ _ ?_⟩
  clear hK K
  clear T1_0 T1_f0 T1_1 T1_f1
  have hu:=upd2 W1 b1 (.bool s3) (.slice p3 k3 c3)
  have H2:=ξ (H2.out.upd T1.out.noInt hu)
  have H3:=ξ (H3.out.upd T1.out.noInt hu)
  have T0:=ξ (T0.out.upd hu Hd01.out)
  have T2:=ξ (T2.out.upd hu Hd12.out.symm)
  have T1:=ξ (T1.out.set (.bool s3) (.slice p3 k3 c3))
  have G:=ξ (G.out.two Hb1.out (.bool s3) (.slice p3 k3 c3))
  clear hu
  generalize (W1.setCell _ _).setCell _ _=W2 at G T0 T1 T2 H2 H3 ⊢
  refine Ji ?_
  have HX:=H2
  have HY:=H3
  clear H2 H3 hz
  have T0_0:=T0.out.load.1
  have T0_1:=T0.out.load.2
  have T1_0:=T1.out.load.1
  have T1_1:=T1.out.load.2
  have T2_0:=T2.out.load.1
  have T2_1:=T2.out.load.2.1
  have T2_2:=T2.out.load.2.2
  go_wp2_with fail
  obtain⟨lx,hlx,elx,llx⟩:=HX.out.nat'
  obtain⟨ly,hly,ely,lly⟩:=HY.out.nat'
  refine(Tf _ _ _ lx ly z.natAbs q hlx hly elx (by rw[ely,Int.natAbs_natCast]) (Nat.le_trans llx HL.out) (Nat.le_trans lly HM.out)).mono ?_
  rintro _ w2 ⟨rg,rfl,g2,hg⟩
  clear hlx elx llx hly ely lly
  obtain⟨pg,kg,cg,rfl,-⟩:=hg.slice
  have HGC:=ξ (IntV.nat hg (Sv _ Hq.out (by have:=HY.out.len;rw[Int.natAbs_natCast] at this;exact this)))
  rw[Je] at HGC
  clear hg
  clear T0_0 T0_1 T1_0 T1_1 T2_0 T2_1 T2_2
  have G:=ξ (G.out.trans g2)
  have T0:=ξ (T0.out.grow g2)
  have T1:=ξ (T1.out.grow g2)
  have T2:=ξ (T2.out.grow g2)
  have HX:=ξ (HX.out.grow g2)
  have HY:=ξ (HY.out.grow g2)
  clear g2
  have B:=box2 w2 (.bool false) (.slice pg kg cg) 66
  have GB:=ξ B.1
  have T0_0:=(T0.out.grow B.1).load.1
  have T0_1:=(T0.out.grow B.1).load.2
  have T1_0:=(T1.out.grow B.1).load.1
  have T1_1:=(T1.out.grow B.1).load.2
  have T2_0:=(T2.out.grow B.1).load.1
  have T2_1:=(T2.out.grow B.1).load.2.1
  have T2_2:=(T2.out.grow B.1).load.2.2
  have T3:=ξ B.2
  have T3_0:=B.2.load.1
  have T3_1:=B.2.load.2
  clear B
  go_wp2_with fail
  clear T0_0 T0_1 T1_0 T1_1 T2_0 T2_1 T2_2 T3_0 T3_1
  generalize w2.heap.size=b_T3 at T3 ⊢
  generalize w2.alloc _=W3 at GB T3 ⊢
  have G:=ξ (G.out.trans GB.out)
  have T0:=ξ (T0.out.grow GB.out)
  have T1:=ξ (T1.out.grow GB.out)
  have T2:=ξ (T2.out.grow GB.out)
  have HX:=ξ (HX.out.grow GB.out)
  have HY:=ξ (HY.out.grow GB.out)
  have HGC:=ξ (HGC.out.grow GB.out)
  refine(P3 W3 _ _ z (Nat.gcd z.natAbs q:Nat) (mkRat z q).num L M HX.out HGC.out (by have:=Nat.gcd_pos_of_pos_right z.natAbs (show 0 < q by have:=Hq.out;omega);omega) (J03 z q Hq.out) HL.out HM.out).mono ?_
  rintro _ w4 ⟨_,rfl,g4,x4,y4,rfl,hx4,hy4⟩
  have G:=ξ (G.out.trans g4)
  have T0:=ξ (T0.out.grow g4)
  have T1:=ξ (T1.out.grow g4)
  have T2:=ξ (T2.out.grow g4)
  have T3:=ξ (T3.out.grow g4)
  have HX:=ξ (HX.out.grow g4)
  have HY:=ξ (HY.out.grow g4)
  have HGC:=ξ (HGC.out.grow g4)
  clear g4
  have HN:=ξ hx4
  clear hx4
  obtain⟨p4,k4,c4,rfl⟩:=HN.out.agg
  obtain⟨p5,k5,c5,rfl⟩:=hy4.agg
  clear hy4
  generalize hs4:decide ((mkRat z q).num < 0)=s4 at HN ⊢
  generalize decide (z - (mkRat z q).num * (Nat.gcd z.natAbs q:Nat) < 0)=s5
  have B:=box22 w4 (.bool s4) (.slice p4 k4 c4) (.bool s5) (.slice p5 k5 c5) 66 66
  have GB:=ξ B.1
  have T0_0:=(T0.out.grow B.1).load.1
  have T0_1:=(T0.out.grow B.1).load.2
  have T1_0:=(T1.out.grow B.1).load.1
  have T1_1:=(T1.out.grow B.1).load.2
  have T2_0:=(T2.out.grow B.1).load.1
  have T2_1:=(T2.out.grow B.1).load.2.1
  have T2_2:=(T2.out.grow B.1).load.2.2
  have T3_0:=(T3.out.grow B.1).load.1
  have T3_1:=(T3.out.grow B.1).load.2
  have T4:=ξ B.2.1
  have T4_0:=B.2.1.load.1
  have T4_1:=B.2.1.load.2
  have T5:=ξ B.2.2
  have T5_0:=B.2.2.load.1
  have T5_1:=B.2.2.load.2
  clear B
  go_wp2_with fail
  clear T0_0 T0_1 T1_0 T1_1 T2_0 T2_1 T2_2 T3_0 T3_1 T4_0 T4_1 T5_0 T5_1
  generalize w4.heap.size+1=b_T5 at T5 ⊢
  generalize w4.heap.size=b_T4 at T4 ⊢
  generalize (w4.alloc _).alloc _=W4 at GB T4 T5 ⊢
  have G:=ξ (G.out.trans GB.out)
  have T0:=ξ (T0.out.grow GB.out)
  have T1:=ξ (T1.out.grow GB.out)
  have T2:=ξ (T2.out.grow GB.out)
  have T3:=ξ (T3.out.grow GB.out)
  have HX:=ξ (HX.out.grow GB.out)
  have HY:=ξ (HY.out.grow GB.out)
  have HGC:=ξ (HGC.out.grow GB.out)
  have HN:=ξ (HN.out.grow GB.out)
  refine(P3 W4 _ _ (q:Int) (Nat.gcd z.natAbs q:Nat) ((mkRat z q).den:Int) M M HY.out HGC.out (by have:=Nat.gcd_pos_of_pos_right z.natAbs (show 0 < q by have:=Hq.out;omega);omega) (J04 z q Hq.out) HM.out HM.out).mono ?_
  rintro _ w6 ⟨_,rfl,g6,x6,y6,rfl,hx6,hy6⟩
  have G:=ξ (G.out.trans g6)
  have T0:=ξ (T0.out.grow g6)
  have T1:=ξ (T1.out.grow g6)
  have T2:=ξ (T2.out.grow g6)
  have T3:=ξ (T3.out.grow g6)
  have T4:=ξ (T4.out.grow g6)
  have T5:=ξ (T5.out.grow g6)
  have HX:=ξ (HX.out.grow g6)
  have HY:=ξ (HY.out.grow g6)
  have HGC:=ξ (HGC.out.grow g6)
  have HN:=ξ (HN.out.grow g6)
  clear g6
  have HDn:=ξ hx6
  clear hx6
  obtain⟨p6,k6,c6,rfl⟩:=HDn.out.agg
  obtain⟨p7,k7,c7,rfl⟩:=hy6.agg
  clear hy6
  generalize decide (((mkRat z q).den:Int) < 0)=s6 at HDn ⊢
  generalize decide ((q:Int) - ((mkRat z q).den:Int) * (Nat.gcd z.natAbs q:Nat) < 0)=s7
  have HDm:=ξ HDn.out.mag
  rw[Int.natAbs_natCast] at HDm
  have B:=box22 w6 (.bool s6) (.slice p6 k6 c6) (.bool s7) (.slice p7 k7 c7) 66 66
  have GB:=ξ B.1
  have T0_0:=(T0.out.grow B.1).load.1
  have T0_1:=(T0.out.grow B.1).load.2
  have T1_0:=(T1.out.grow B.1).load.1
  have T1_1:=(T1.out.grow B.1).load.2
  have T2_0:=(T2.out.grow B.1).load.1
  have T2_1:=(T2.out.grow B.1).load.2.1
  have T2_2:=(T2.out.grow B.1).load.2.2
  have T3_0:=(T3.out.grow B.1).load.1
  have T3_1:=(T3.out.grow B.1).load.2
  have T4_0:=(T4.out.grow B.1).load.1
  have T4_1:=(T4.out.grow B.1).load.2
  have T5_0:=(T5.out.grow B.1).load.1
  have T5_1:=(T5.out.grow B.1).load.2
  have T6:=ξ B.2.1
  have T6_0:=B.2.1.load.1
  have T6_1:=B.2.1.load.2
  have T7:=ξ B.2.2
  have T7_0:=B.2.2.load.1
  have T7_1:=B.2.2.load.2
  clear B
  go_wp2_with fail
  clear T0_0 T0_1 T1_0 T1_1 T2_0 T2_1 T2_2 T3_0 T3_1 T4_0 T4_1 T5_0 T5_1 T6_0 T6_1 T7_0 T7_1
  generalize w6.heap.size+1=b_T7 at T7 ⊢
  generalize w6.heap.size=b_T6 at T6 ⊢
  generalize (w6.alloc _).alloc _=W6 at GB T6 T7 ⊢
  have G:=ξ (G.out.trans GB.out)
  have T0:=ξ (T0.out.grow GB.out)
  have T1:=ξ (T1.out.grow GB.out)
  have T2:=ξ (T2.out.grow GB.out)
  have T3:=ξ (T3.out.grow GB.out)
  have T4:=ξ (T4.out.grow GB.out)
  have T5:=ξ (T5.out.grow GB.out)
  have HX:=ξ (HX.out.grow GB.out)
  have HY:=ξ (HY.out.grow GB.out)
  have HGC:=ξ (HGC.out.grow GB.out)
  have HN:=ξ (HN.out.grow GB.out)
  have HDn:=ξ (HDn.out.grow GB.out)
  have HDm:=ξ (HDm.out.grow GB.out)
  have HDl:=ξ (show(digs (mkRat z q).den).length≤M from by have h:=HY.out.len;rw[Int.natAbs_natCast] at h;exact Nat.le_trans (Kn (S8 z Hq.out).2) h)
  obtain⟨cz,hcz⟩:∃ cz,cmpZ ((mkRat z q).den:Int) ((1:Nat):Int)=cz:=⟨_,rfl⟩
  refine Jp [(0,true),(1,true),(2,false),(3,false),(4,true)] (by kernel_rfl) (by kernel_rfl) rfl (by kernel_rfl) (fun _ _ d _ _ h=>by cases d<;>exact h) ?_
  have T0_0:=T0.out.c0
  have T0_1:=T0.out.c1
  have T1_0:=T1.out.c0
  have T1_1:=T1.out.c1
  have T2_0:=T2.out.c0
  have T2_1:=T2.out.c1
  have T2_2:=T2.out.c2
  have T3_0:=T3.out.c0
  have T3_1:=T3.out.c1
  have T4_0:=T4.out.c0
  have T4_1:=T4.out.c1
  have T5_0:=T5.out.c0
  have T5_1:=T5.out.c1
  have T6_0:=T6.out.c0
  have T6_1:=T6.out.c1
  have T7_0:=T7.out.c0
  have T7_1:=T7.out.c1
  have g0:Gr W6 W6.drew:=(Gr.refl _).drew
  have G:=ξ (G.out.trans g0)
  have T0:=ξ (T0.out.grow g0)
  have T1:=ξ (T1.out.grow g0)
  have T2:=ξ (T2.out.grow g0)
  have T3:=ξ (T3.out.grow g0)
  have T4:=ξ (T4.out.grow g0)
  have T5:=ξ (T5.out.grow g0)
  have T6:=ξ (T6.out.grow g0)
  have T7:=ξ (T7.out.grow g0)
  have HX:=ξ (HX.out.grow g0)
  have HY:=ξ (HY.out.grow g0)
  have HGC:=ξ (HGC.out.grow g0)
  have HN:=ξ (HN.out.grow g0)
  have HDn:=ξ (HDn.out.grow g0)
  have HDm:=ξ (HDm.out.grow g0)
  repeat(refine Jf (v:=?_) g0 rfl rfl (fun w' hg=>?_) (fun K hK=>?_);rotate_left;(go_simp;rfl);go_simp;refine hK _ _ ?_;clear hK K)
  refine Jd (args:=?_) rfl rfl rfl rfl rfl rfl (by kernel_rfl) (by kernel_rfl) ?_ (fun K hK=>?_)
  rotate_left
  ·go_simp;rfl
  refine(L3 _ 1 (by decide)).mono ?_
  rintro _ w8 ⟨r8,rfl,g8,h8⟩
  refine⟨_,rfl,g8,?_⟩
  go_simp
  refine hK _ _ ?_
  clear hK K
  have G:=ξ (G.out.trans g8)
  have T0:=ξ (T0.out.grow g8)
  have T1:=ξ (T1.out.grow g8)
  have T2:=ξ (T2.out.grow g8)
  have T3:=ξ (T3.out.grow g8)
  have T4:=ξ (T4.out.grow g8)
  have T5:=ξ (T5.out.grow g8)
  have T6:=ξ (T6.out.grow g8)
  have T7:=ξ (T7.out.grow g8)
  have HX:=ξ (HX.out.grow g8)
  have HY:=ξ (HY.out.grow g8)
  have HGC:=ξ (HGC.out.grow g8)
  have HN:=ξ (HN.out.grow g8)
  have HDn:=ξ (HDn.out.grow g8)
  have HDm:=ξ (HDm.out.grow g8)
  replace g0:=g0.trans g8
  clear g8
  have H8:=ξ h8
  clear h8
  refine Jd (args:=?_) rfl rfl rfl rfl rfl rfl (by kernel_rfl) (by kernel_rfl) ?_ (fun K hK=>?_)
  rotate_left
  ·go_simp;rfl
  refine(Pp _ _ _ (mkRat z q).den 1 M 1 cz ⟨_,HDm.out,Je _,HDl.out⟩ ⟨_,H8.out,Je _,by decide +kernel⟩ hcz HM.out (by decide)).mono ?_
  rintro _ w9 ⟨_,rfl,g9,rfl⟩
  refine⟨_,rfl,g9,?_⟩
  go_simp
  refine hK _ _ ?_
  clear hK K
  have G:=ξ (G.out.trans g9)
  have T0:=ξ (T0.out.grow g9)
  have T1:=ξ (T1.out.grow g9)
  have T2:=ξ (T2.out.grow g9)
  have T3:=ξ (T3.out.grow g9)
  have T4:=ξ (T4.out.grow g9)
  have T5:=ξ (T5.out.grow g9)
  have T6:=ξ (T6.out.grow g9)
  have T7:=ξ (T7.out.grow g9)
  have HX:=ξ (HX.out.grow g9)
  have HY:=ξ (HY.out.grow g9)
  have HGC:=ξ (HGC.out.grow g9)
  have HN:=ξ (HN.out.grow g9)
  have HDn:=ξ (HDn.out.grow g9)
  have HDm:=ξ (HDm.out.grow g9)
  have H8:=ξ (H8.out.grow g9)
  replace g0:=g0.trans g9
  clear g9
  repeat(refine Jf (v:=?_) g0 rfl rfl (fun w' hg=>?_) (fun K hK=>?_);rotate_left;(go_simp;rfl);go_simp;refine hK _ _ ?_;clear hK K)
  refine Ji ?_
  clear g0
  clear T0_0 T0_1 T1_0 T1_1 T2_0 T2_1 T2_2 T3_0 T3_1 T4_0 T4_1 T5_0 T5_1 T6_0 T6_1 T7_0 T7_1
  by_cases h1:(mkRat z q).den=1
  ·have hc0:cz=0:=by rw[← hcz];exact(Ol _).2 h1
   have HV:=ξ (RatC.mk HN.out (show NatL _ (.slice none 0 0) (dd (mkRat z q).den) by rw[h1];exact NatL.nil _))
   subst hc0
   clear hcz h1
   have T2_0:=T2.out.load.1
   have T2_f0:=T2.out.f0 0
   have T2_1:=T2.out.load.2.1
   have T2_f1:=T2.out.f0 1
   have T2_2:=T2.out.load.2.2
   have T2_f2:=T2.out.f0 2
   have T4_0:=T4.out.load.1
   have T4_f0:=T4.out.f0 0
   have T4_1:=T4.out.load.2
   have T4_f1:=T4.out.f0 1
   go_wp2_with fail
   clear T2_0 T2_f0 T2_1 T2_f1 T2_2 T2_f2 T4_0 T4_f0 T4_1 T4_f1
   have hu:=upd3 w9 b2 (.bool s4) (.slice p4 k4 c4) (.slice none 0 0)
   have HV:=ξ (HV.out.upd T2.out.noInt hu)
   have T0:=ξ (T0.out.upd hu Hd02.out)
   have T1:=ξ (T1.out.upd hu Hd12.out)
   have T2:=ξ (T2.out.set (.bool s4) (.slice p4 k4 c4) (.slice none 0 0))
   have G:=ξ (G.out.three Hb2.out (.bool s4) (.slice p4 k4 c4) (.slice none 0 0))
   clear hu
   generalize ((w9.setCell _ _).setCell _ _).setCell _ _=W9 at G T0 T1 T2 HV ⊢
   have T2_0:=T2.out.load.1
   have T2_1:=T2.out.load.2.1
   have T2_2:=T2.out.load.2.2
   refine bodyPost_ret (by simp[results,Tryz.results146,go_sem,T2_0,T2_1,T2_2];rfl) rfl ?_
   exact⟨_,rfl,G.out,by rw[HR.out];exact HV.out⟩
  ·have hc0:¬ cz=0:=by rw[← hcz];exact fun h=>h1 ((Ol _).1 h)
   have HV:=ξ (RatC.mk HN.out (show NatL _ (.slice p6 k6 c6) (dd (mkRat z q).den) by unfold dd;rw[if_neg h1];exact HDm.out))
   clear hcz h1
   have T2_0:=T2.out.load.1
   have T2_f0:=T2.out.f0 0
   have T2_1:=T2.out.load.2.1
   have T2_f1:=T2.out.f0 1
   have T2_2:=T2.out.load.2.2
   have T2_f2:=T2.out.f0 2
   have T4_0:=T4.out.load.1
   have T4_f0:=T4.out.f0 0
   have T4_1:=T4.out.load.2
   have T4_f1:=T4.out.f0 1
   have T6_0:=T6.out.load.1
   have T6_f0:=T6.out.f0 0
   have T6_1:=T6.out.load.2
   have T6_f1:=T6.out.f0 1
   go_wp2_with fail
   clear T2_0 T2_f0 T2_1 T2_f1 T2_2 T2_f2 T4_0 T4_f0 T4_1 T4_f1 T6_0 T6_f0 T6_1 T6_f1
   have hu:=upd3 w9 b2 (.bool s4) (.slice p4 k4 c4) (.slice p6 k6 c6)
   have HV:=ξ (HV.out.upd T2.out.noInt hu)
   have T0:=ξ (T0.out.upd hu Hd02.out)
   have T1:=ξ (T1.out.upd hu Hd12.out)
   have T2:=ξ (T2.out.set (.bool s4) (.slice p4 k4 c4) (.slice p6 k6 c6))
   have G:=ξ (G.out.three Hb2.out (.bool s4) (.slice p4 k4 c4) (.slice p6 k6 c6))
   clear hu
   generalize ((w9.setCell _ _).setCell _ _).setCell _ _=W9 at G T0 T1 T2 HV ⊢
   have T2_0:=T2.out.load.1
   have T2_1:=T2.out.load.2.1
   have T2_2:=T2.out.load.2.2
   refine bodyPost_ret (by simp[results,Tryz.results146,go_sem,T2_0,T2_1,T2_2];rfl) rfl ?_
   exact⟨_,rfl,G.out,by rw[HR.out];exact HV.out⟩
 ·have hs:¬ sy < 0:=by rw[← hsy];unfold sgn;rw[if_neg hneg];split<;>decide
  have HR:=ξ (J2q (a:=x) (show 0 < y by omega))
  obtain⟨q,hq⟩:∃ q,y.natAbs=q:=⟨_,rfl⟩
  rw[hq] at HR
  have hyq:y=(q:Int):=by omega
  have Hq:=ξ (show q≠0 by omega)
  obtain⟨z,hz⟩:∃ z,x=z:=⟨_,rfl⟩
  have HR:=ξ (show Rat.divInt x y=mkRat z q by rw[HR.out,hz])
  rw[hz] at HX
  rw[hyq] at HY
  clear hsy hneg h0 hq hz hyq
  have T0_0:=T0.out.load.1
  have T0_1:=T0.out.load.2
  have T1_0:=T1.out.load.1
  have T1_1:=T1.out.load.2
  have T2_0:=T2.out.load.1
  have T2_1:=T2.out.load.2.1
  have T2_2:=T2.out.load.2.2
  go_wp2_with fail
  obtain⟨lx,hlx,elx,llx⟩:=HX.out.nat'
  obtain⟨ly,hly,ely,lly⟩:=HY.out.nat'
  refine(Tf _ _ _ lx ly z.natAbs q hlx hly elx (by rw[ely,Int.natAbs_natCast]) (Nat.le_trans llx HL.out) (Nat.le_trans lly HM.out)).mono ?_
  rintro _ w2 ⟨rg,rfl,g2,hg⟩
  clear hlx elx llx hly ely lly
  obtain⟨pg,kg,cg,rfl,-⟩:=hg.slice
  have HGC:=ξ (IntV.nat hg (Sv _ Hq.out (by have:=HY.out.len;rw[Int.natAbs_natCast] at this;exact this)))
  rw[Je] at HGC
  clear hg
  clear T0_0 T0_1 T1_0 T1_1 T2_0 T2_1 T2_2
  have G:=ξ (G.out.trans g2)
  have T0:=ξ (T0.out.grow g2)
  have T1:=ξ (T1.out.grow g2)
  have T2:=ξ (T2.out.grow g2)
  have HX:=ξ (HX.out.grow g2)
  have HY:=ξ (HY.out.grow g2)
  clear g2
  have B:=box2 w2 (.bool false) (.slice pg kg cg) 66
  have GB:=ξ B.1
  have T0_0:=(T0.out.grow B.1).load.1
  have T0_1:=(T0.out.grow B.1).load.2
  have T1_0:=(T1.out.grow B.1).load.1
  have T1_1:=(T1.out.grow B.1).load.2
  have T2_0:=(T2.out.grow B.1).load.1
  have T2_1:=(T2.out.grow B.1).load.2.1
  have T2_2:=(T2.out.grow B.1).load.2.2
  have T3:=ξ B.2
  have T3_0:=B.2.load.1
  have T3_1:=B.2.load.2
  clear B
  go_wp2_with fail
  clear T0_0 T0_1 T1_0 T1_1 T2_0 T2_1 T2_2 T3_0 T3_1
  generalize w2.heap.size=b_T3 at T3 ⊢
  generalize w2.alloc _=W3 at GB T3 ⊢
  have G:=ξ (G.out.trans GB.out)
  have T0:=ξ (T0.out.grow GB.out)
  have T1:=ξ (T1.out.grow GB.out)
  have T2:=ξ (T2.out.grow GB.out)
  have HX:=ξ (HX.out.grow GB.out)
  have HY:=ξ (HY.out.grow GB.out)
  have HGC:=ξ (HGC.out.grow GB.out)
  refine(P3 W3 _ _ z (Nat.gcd z.natAbs q:Nat) (mkRat z q).num L M HX.out HGC.out (by have:=Nat.gcd_pos_of_pos_right z.natAbs (show 0 < q by have:=Hq.out;omega);omega) (J03 z q Hq.out) HL.out HM.out).mono ?_
  rintro _ w4 ⟨_,rfl,g4,x4,y4,rfl,hx4,hy4⟩
  have G:=ξ (G.out.trans g4)
  have T0:=ξ (T0.out.grow g4)
  have T1:=ξ (T1.out.grow g4)
  have T2:=ξ (T2.out.grow g4)
  have T3:=ξ (T3.out.grow g4)
  have HX:=ξ (HX.out.grow g4)
  have HY:=ξ (HY.out.grow g4)
  have HGC:=ξ (HGC.out.grow g4)
  clear g4
  have HN:=ξ hx4
  clear hx4
  obtain⟨p4,k4,c4,rfl⟩:=HN.out.agg
  obtain⟨p5,k5,c5,rfl⟩:=hy4.agg
  clear hy4
  generalize hs4:decide ((mkRat z q).num < 0)=s4 at HN ⊢
  generalize decide (z - (mkRat z q).num * (Nat.gcd z.natAbs q:Nat) < 0)=s5
  have B:=box22 w4 (.bool s4) (.slice p4 k4 c4) (.bool s5) (.slice p5 k5 c5) 66 66
  have GB:=ξ B.1
  have T0_0:=(T0.out.grow B.1).load.1
  have T0_1:=(T0.out.grow B.1).load.2
  have T1_0:=(T1.out.grow B.1).load.1
  have T1_1:=(T1.out.grow B.1).load.2
  have T2_0:=(T2.out.grow B.1).load.1
  have T2_1:=(T2.out.grow B.1).load.2.1
  have T2_2:=(T2.out.grow B.1).load.2.2
  have T3_0:=(T3.out.grow B.1).load.1
  have T3_1:=(T3.out.grow B.1).load.2
  have T4:=ξ B.2.1
  have T4_0:=B.2.1.load.1
  have T4_1:=B.2.1.load.2
  have T5:=ξ B.2.2
  have T5_0:=B.2.2.load.1
  have T5_1:=B.2.2.load.2
  clear B
  go_wp2_with fail
  clear T0_0 T0_1 T1_0 T1_1 T2_0 T2_1 T2_2 T3_0 T3_1 T4_0 T4_1 T5_0 T5_1
  generalize w4.heap.size+1=b_T5 at T5 ⊢
  generalize w4.heap.size=b_T4 at T4 ⊢
  generalize (w4.alloc _).alloc _=W4 at GB T4 T5 ⊢
  have G:=ξ (G.out.trans GB.out)
  have T0:=ξ (T0.out.grow GB.out)
  have T1:=ξ (T1.out.grow GB.out)
  have T2:=ξ (T2.out.grow GB.out)
  have T3:=ξ (T3.out.grow GB.out)
  have HX:=ξ (HX.out.grow GB.out)
  have HY:=ξ (HY.out.grow GB.out)
  have HGC:=ξ (HGC.out.grow GB.out)
  have HN:=ξ (HN.out.grow GB.out)
  refine(P3 W4 _ _ (q:Int) (Nat.gcd z.natAbs q:Nat) ((mkRat z q).den:Int) M M HY.out HGC.out (by have:=Nat.gcd_pos_of_pos_right z.natAbs (show 0 < q by have:=Hq.out;omega);omega) (J04 z q Hq.out) HM.out HM.out).mono ?_
  rintro _ w6 ⟨_,rfl,g6,x6,y6,rfl,hx6,hy6⟩
  have G:=ξ (G.out.trans g6)
  have T0:=ξ (T0.out.grow g6)
  have T1:=ξ (T1.out.grow g6)
  have T2:=ξ (T2.out.grow g6)
  have T3:=ξ (T3.out.grow g6)
  have T4:=ξ (T4.out.grow g6)
  have T5:=ξ (T5.out.grow g6)
  have HX:=ξ (HX.out.grow g6)
  have HY:=ξ (HY.out.grow g6)
  have HGC:=ξ (HGC.out.grow g6)
  have HN:=ξ (HN.out.grow g6)
  clear g6
  have HDn:=ξ hx6
  clear hx6
  obtain⟨p6,k6,c6,rfl⟩:=HDn.out.agg
  obtain⟨p7,k7,c7,rfl⟩:=hy6.agg
  clear hy6
  generalize decide (((mkRat z q).den:Int) < 0)=s6 at HDn ⊢
  generalize decide ((q:Int) - ((mkRat z q).den:Int) * (Nat.gcd z.natAbs q:Nat) < 0)=s7
  have HDm:=ξ HDn.out.mag
  rw[Int.natAbs_natCast] at HDm
  have B:=box22 w6 (.bool s6) (.slice p6 k6 c6) (.bool s7) (.slice p7 k7 c7) 66 66
  have GB:=ξ B.1
  have T0_0:=(T0.out.grow B.1).load.1
  have T0_1:=(T0.out.grow B.1).load.2
  have T1_0:=(T1.out.grow B.1).load.1
  have T1_1:=(T1.out.grow B.1).load.2
  have T2_0:=(T2.out.grow B.1).load.1
  have T2_1:=(T2.out.grow B.1).load.2.1
  have T2_2:=(T2.out.grow B.1).load.2.2
  have T3_0:=(T3.out.grow B.1).load.1
  have T3_1:=(T3.out.grow B.1).load.2
  have T4_0:=(T4.out.grow B.1).load.1
  have T4_1:=(T4.out.grow B.1).load.2
  have T5_0:=(T5.out.grow B.1).load.1
  have T5_1:=(T5.out.grow B.1).load.2
  have T6:=ξ B.2.1
  have T6_0:=B.2.1.load.1
  have T6_1:=B.2.1.load.2
  have T7:=ξ B.2.2
  have T7_0:=B.2.2.load.1
  have T7_1:=B.2.2.load.2
  clear B
  go_wp2_with fail
  clear T0_0 T0_1 T1_0 T1_1 T2_0 T2_1 T2_2 T3_0 T3_1 T4_0 T4_1 T5_0 T5_1 T6_0 T6_1 T7_0 T7_1
  generalize w6.heap.size+1=b_T7 at T7 ⊢
  generalize w6.heap.size=b_T6 at T6 ⊢
  generalize (w6.alloc _).alloc _=W6 at GB T6 T7 ⊢
  have G:=ξ (G.out.trans GB.out)
  have T0:=ξ (T0.out.grow GB.out)
  have T1:=ξ (T1.out.grow GB.out)
  have T2:=ξ (T2.out.grow GB.out)
  have T3:=ξ (T3.out.grow GB.out)
  have T4:=ξ (T4.out.grow GB.out)
  have T5:=ξ (T5.out.grow GB.out)
  have HX:=ξ (HX.out.grow GB.out)
  have HY:=ξ (HY.out.grow GB.out)
  have HGC:=ξ (HGC.out.grow GB.out)
  have HN:=ξ (HN.out.grow GB.out)
  have HDn:=ξ (HDn.out.grow GB.out)
  have HDm:=ξ (HDm.out.grow GB.out)
  have HDl:=ξ (show(digs (mkRat z q).den).length≤M from by have h:=HY.out.len;rw[Int.natAbs_natCast] at h;exact Nat.le_trans (Kn (S8 z Hq.out).2) h)
  obtain⟨cz,hcz⟩:∃ cz,cmpZ ((mkRat z q).den:Int) ((1:Nat):Int)=cz:=⟨_,rfl⟩
  refine Jp [(0,true),(1,true),(2,false),(3,false),(4,true)] (by kernel_rfl) (by kernel_rfl) rfl (by kernel_rfl) (fun _ _ d _ _ h=>by cases d<;>exact h) ?_
  have T0_0:=T0.out.c0
  have T0_1:=T0.out.c1
  have T1_0:=T1.out.c0
  have T1_1:=T1.out.c1
  have T2_0:=T2.out.c0
  have T2_1:=T2.out.c1
  have T2_2:=T2.out.c2
  have T3_0:=T3.out.c0
  have T3_1:=T3.out.c1
  have T4_0:=T4.out.c0
  have T4_1:=T4.out.c1
  have T5_0:=T5.out.c0
  have T5_1:=T5.out.c1
  have T6_0:=T6.out.c0
  have T6_1:=T6.out.c1
  have T7_0:=T7.out.c0
  have T7_1:=T7.out.c1
  have g0:Gr W6 W6.drew:=(Gr.refl _).drew
  have G:=ξ (G.out.trans g0)
  have T0:=ξ (T0.out.grow g0)
  have T1:=ξ (T1.out.grow g0)
  have T2:=ξ (T2.out.grow g0)
  have T3:=ξ (T3.out.grow g0)
  have T4:=ξ (T4.out.grow g0)
  have T5:=ξ (T5.out.grow g0)
  have T6:=ξ (T6.out.grow g0)
  have T7:=ξ (T7.out.grow g0)
  have HX:=ξ (HX.out.grow g0)
  have HY:=ξ (HY.out.grow g0)
  have HGC:=ξ (HGC.out.grow g0)
  have HN:=ξ (HN.out.grow g0)
  have HDn:=ξ (HDn.out.grow g0)
  have HDm:=ξ (HDm.out.grow g0)
  repeat(refine Jf (v:=?_) g0 rfl rfl (fun w' hg=>?_) (fun K hK=>?_);rotate_left;(go_simp;rfl);go_simp;refine hK _ _ ?_;clear hK K)
  refine Jd (args:=?_) rfl rfl rfl rfl rfl rfl (by kernel_rfl) (by kernel_rfl) ?_ (fun K hK=>?_)
  rotate_left
  ·go_simp;rfl
  refine(L3 _ 1 (by decide)).mono ?_
  rintro _ w8 ⟨r8,rfl,g8,h8⟩
  refine⟨_,rfl,g8,?_⟩
  go_simp
  refine hK _ _ ?_
  clear hK K
  have G:=ξ (G.out.trans g8)
  have T0:=ξ (T0.out.grow g8)
  have T1:=ξ (T1.out.grow g8)
  have T2:=ξ (T2.out.grow g8)
  have T3:=ξ (T3.out.grow g8)
  have T4:=ξ (T4.out.grow g8)
  have T5:=ξ (T5.out.grow g8)
  have T6:=ξ (T6.out.grow g8)
  have T7:=ξ (T7.out.grow g8)
  have HX:=ξ (HX.out.grow g8)
  have HY:=ξ (HY.out.grow g8)
  have HGC:=ξ (HGC.out.grow g8)
  have HN:=ξ (HN.out.grow g8)
  have HDn:=ξ (HDn.out.grow g8)
  have HDm:=ξ (HDm.out.grow g8)
  replace g0:=g0.trans g8
  clear g8
  have H8:=ξ h8
  clear h8
  refine Jd (args:=?_) rfl rfl rfl rfl rfl rfl (by kernel_rfl) (by kernel_rfl) ?_ (fun K hK=>?_)
  rotate_left
  ·go_simp;rfl
  refine(Pp _ _ _ (mkRat z q).den 1 M 1 cz ⟨_,HDm.out,Je _,HDl.out⟩ ⟨_,H8.out,Je _,by decide +kernel⟩ hcz HM.out (by decide)).mono ?_
  rintro _ w9 ⟨_,rfl,g9,rfl⟩
  refine⟨_,rfl,g9,?_⟩
  go_simp
  refine hK _ _ ?_
  clear hK K
  have G:=ξ (G.out.trans g9)
  have T0:=ξ (T0.out.grow g9)
  have T1:=ξ (T1.out.grow g9)
  have T2:=ξ (T2.out.grow g9)
  have T3:=ξ (T3.out.grow g9)
  have T4:=ξ (T4.out.grow g9)
  have T5:=ξ (T5.out.grow g9)
  have T6:=ξ (T6.out.grow g9)
  have T7:=ξ (T7.out.grow g9)
  have HX:=ξ (HX.out.grow g9)
  have HY:=ξ (HY.out.grow g9)
  have HGC:=ξ (HGC.out.grow g9)
  have HN:=ξ (HN.out.grow g9)
  have HDn:=ξ (HDn.out.grow g9)
  have HDm:=ξ (HDm.out.grow g9)
  have H8:=ξ (H8.out.grow g9)
  replace g0:=g0.trans g9
  clear g9
  repeat(refine Jf (v:=?_) g0 rfl rfl (fun w' hg=>?_) (fun K hK=>?_);rotate_left;(go_simp;rfl);go_simp;refine hK _ _ ?_;clear hK K)
  refine Ji ?_
  clear g0
  clear T0_0 T0_1 T1_0 T1_1 T2_0 T2_1 T2_2 T3_0 T3_1 T4_0 T4_1 T5_0 T5_1 T6_0 T6_1 T7_0 T7_1
  by_cases h1:(mkRat z q).den=1
  ·have hc0:cz=0:=by rw[← hcz];exact(Ol _).2 h1
   have HV:=ξ (RatC.mk HN.out (show NatL _ (.slice none 0 0) (dd (mkRat z q).den) by rw[h1];exact NatL.nil _))
   subst hc0
   clear hcz h1
   have T2_0:=T2.out.load.1
   have T2_f0:=T2.out.f0 0
   have T2_1:=T2.out.load.2.1
   have T2_f1:=T2.out.f0 1
   have T2_2:=T2.out.load.2.2
   have T2_f2:=T2.out.f0 2
   have T4_0:=T4.out.load.1
   have T4_f0:=T4.out.f0 0
   have T4_1:=T4.out.load.2
   have T4_f1:=T4.out.f0 1
   go_wp2_with fail
   clear T2_0 T2_f0 T2_1 T2_f1 T2_2 T2_f2 T4_0 T4_f0 T4_1 T4_f1
   have hu:=upd3 w9 b2 (.bool s4) (.slice p4 k4 c4) (.slice none 0 0)
   have HV:=ξ (HV.out.upd T2.out.noInt hu)
   have T0:=ξ (T0.out.upd hu Hd02.out)
   have T1:=ξ (T1.out.upd hu Hd12.out)
   have T2:=ξ (T2.out.set (.bool s4) (.slice p4 k4 c4) (.slice none 0 0))
   have G:=ξ (G.out.three Hb2.out (.bool s4) (.slice p4 k4 c4) (.slice none 0 0))
   clear hu
   generalize ((w9.setCell _ _).setCell _ _).setCell _ _=W9 at G T0 T1 T2 HV ⊢
   have T2_0:=T2.out.load.1
   have T2_1:=T2.out.load.2.1
   have T2_2:=T2.out.load.2.2
   refine bodyPost_ret (by simp[results,Tryz.results146,go_sem,T2_0,T2_1,T2_2];rfl) rfl ?_
   exact⟨_,rfl,G.out,by rw[HR.out];exact HV.out⟩
  ·have hc0:¬ cz=0:=by rw[← hcz];exact fun h=>h1 ((Ol _).1 h)
   have HV:=ξ (RatC.mk HN.out (show NatL _ (.slice p6 k6 c6) (dd (mkRat z q).den) by unfold dd;rw[if_neg h1];exact HDm.out))
   clear hcz h1
   have T2_0:=T2.out.load.1
   have T2_f0:=T2.out.f0 0
   have T2_1:=T2.out.load.2.1
   have T2_f1:=T2.out.f0 1
   have T2_2:=T2.out.load.2.2
   have T2_f2:=T2.out.f0 2
   have T4_0:=T4.out.load.1
   have T4_f0:=T4.out.f0 0
   have T4_1:=T4.out.load.2
   have T4_f1:=T4.out.f0 1
   have T6_0:=T6.out.load.1
   have T6_f0:=T6.out.f0 0
   have T6_1:=T6.out.load.2
   have T6_f1:=T6.out.f0 1
   go_wp2_with fail
   clear T2_0 T2_f0 T2_1 T2_f1 T2_2 T2_f2 T4_0 T4_f0 T4_1 T4_f1 T6_0 T6_f0 T6_1 T6_f1
   have hu:=upd3 w9 b2 (.bool s4) (.slice p4 k4 c4) (.slice p6 k6 c6)
   have HV:=ξ (HV.out.upd T2.out.noInt hu)
   have T0:=ξ (T0.out.upd hu Hd02.out)
   have T1:=ξ (T1.out.upd hu Hd12.out)
   have T2:=ξ (T2.out.set (.bool s4) (.slice p4 k4 c4) (.slice p6 k6 c6))
   have G:=ξ (G.out.three Hb2.out (.bool s4) (.slice p4 k4 c4) (.slice p6 k6 c6))
   clear hu
   generalize ((w9.setCell _ _).setCell _ _).setCell _ _=W9 at G T0 T1 T2 HV ⊢
   have T2_0:=T2.out.load.1
   have T2_1:=T2.out.load.2.1
   have T2_2:=T2.out.load.2.2
   refine bodyPost_ret (by simp[results,Tryz.results146,go_sem,T2_0,T2_1,T2_2];rfl) rfl ?_
   exact⟨_,rfl,G.out,by rw[HR.out];exact HV.out⟩
def RatP (w:World)(v:Value)(z:Int)(q L:Nat):Prop:=∃ n l d,RatL w v n l d∧zval n l=z∧denV d=q∧l.length≤L∧d.length≤L
theorem RatP.grow {w w':World}{v:Value}{z:Int}{q L:Nat}(h:RatP w v z q L)(g:Gr w w'):RatP w' v z q L:=by
 obtain⟨n,l,d,h1,h2⟩:=h;exact⟨n,l,d,h1.grow g,h2⟩
theorem RatP.upd {w w':World}{v:Value}{z:Int}{q L b:Nat}(h:RatP w v z q L)(hb:Ki w b)(hu:Upd b w w'):RatP w' v z q L:=by
 obtain⟨n,l,d,h1,h2⟩:=h;exact⟨n,l,d,h1.upd hb hu,h2⟩
theorem RatP.ne {w:World}{v:Value}{z:Int}{q L:Nat}(h:RatP w v z q L):q≠0:=by
 obtain⟨n,l,d,h1,h2,rfl,h3⟩:=h;exact Sc d
theorem RatV.p {w:World}{v:Value}{x:Rat}{L:Nat}(h:RatV w v x L):∃ z q,RatP w v z q L∧mkRat z q=x:=by
 obtain⟨n,l,d,h1,h2,h3,h4⟩:=h
 exact⟨_,_,⟨n,l,d,h1,rfl,rfl,h3,h4⟩,h2⟩
theorem RatP.v {w:World}{v:Value}{z:Int}{q L:Nat}(h:RatP w v z q L):RatV w v (mkRat z q) L:=by
 obtain⟨n,l,d,h1,rfl,rfl,h3,h4⟩:=h
 exact⟨n,l,d,h1,rfl,h3,h4⟩
theorem RatP.agg {w:World}{v:Value}{z:Int}{q L:Nat}(h:RatP w v z q L):∃ s p k c p' m e,v = .agg #[.bool s,.slice p k c,.slice p' m e]:=by
 obtain⟨n,l,d,⟨p,k,c,q,m,e,rfl,h1,h2⟩,h3⟩:=h
 exact⟨_,_,_,_,_,_,_,rfl⟩
theorem RatP.num {w:World}{s:Bool}{p p':Option Addr}{k c m e:Nat}{z:Int}{q L:Nat}(h:RatP w (.agg #[.bool s,.slice p k c,.slice p' m e]) z q L):IntV w (.agg #[.bool s,.slice p k c]) z L:=by
 obtain⟨n,l,d,⟨p1,k1,c1,q1,m1,e1,hv,h1,h2⟩,h3,h4,h5,h6⟩:=h
 simp only[Value.agg.injEq,Array.mk.injEq,List.cons.injEq,Value.bool.injEq,Value.slice.injEq,and_true] at hv
 obtain⟨rfl,⟨rfl,rfl,rfl⟩,rfl,rfl,rfl⟩:=hv
 exact⟨_,l,⟨_,_,_,rfl,h1⟩,h3,h5⟩
theorem RatP.den {w:World}{s:Bool}{p p':Option Addr}{k c m e:Nat}{z:Int}{q L:Nat}(h:RatP w (.agg #[.bool s,.slice p k c,.slice p' m e]) z q L):∃ d,NatL w (.slice p' m e) d∧denV d=q∧d.length≤L:=by
 obtain⟨n,l,d,⟨p1,k1,c1,q1,m1,e1,hv,h1,h2⟩,h3,h4,h5,h6⟩:=h
 simp only[Value.agg.injEq,Array.mk.injEq,List.cons.injEq,Value.bool.injEq,Value.slice.injEq,and_true] at hv
 obtain⟨rfl,⟨rfl,rfl,rfl⟩,rfl,rfl,rfl⟩:=hv
 exact⟨d,h2,h4,h6⟩
theorem Mi (w:World)(va:Value)(z:Int)(q L:Nat)(h:RatP w va z q L)(hL:L≤100000):Calls Tryz.prog 132 #[va] w (Ret w fun r w'=>IntV w' r (q:Int) (L+1)):=by
 obtain⟨n,l,d,h1,rfl,rfl,h3,h4⟩:=h
 exact J5n w va n l d L h1 h4 (by omega)
theorem RatC.agg {w:World}{v:Value}{x:Rat}(h:RatC w v x):∃ s p k c p' m e,v = .agg #[.bool s,.slice p k c,.slice p' m e]:=by
 obtain⟨p,k,c,q,m,e,rfl,h1,h2⟩:=h
 exact⟨_,_,_,_,_,_,_,rfl⟩
theorem J1W (w:World)(va vb vc vd:Value)(p q r s:Int)(L M:Nat)(ha:IntV w va p L)(hb:IntV w vb q L)(hc:IntV w vc r M)(hd:IntV w vd s M)(hL:L≤100000)(hM:M≤100000):
  Calls Tryz.prog 201 #[va,vb,vc,vd] w (Ret w fun x w'=>∃ u v,x = .tuple #[u,v]∧IntV w' u (p * s+r * q) (2 * L+2 * M+4)∧IntV w' v (q * s) (2 * L+2 * M+4)):=by
 have HA:=ξ ha
 have HB:=ξ hb
 have HC:=ξ hc
 have HD:=ξ hd
 obtain⟨s0,p0,k0,c0,rfl⟩:=ha.agg
 obtain⟨s1,p1,k1,c1,rfl⟩:=hb.agg
 obtain⟨s2,p2,k2,c2,rfl⟩:=hc.agg
 obtain⟨s3,p3,k3,c3,rfl⟩:=hd.agg
 clear ha hb hc hd
 have B:=box222222 w (.bool s0) (.slice p0 k0 c0) (.bool s1) (.slice p1 k1 c1) (.bool s2) (.slice p2 k2 c2) (.bool s3) (.slice p3 k3 c3) (.bool false) (.slice none 0 0) (.bool false) (.slice none 0 0) 66 66 66 66 66 66
 have Hb1:=ξ (show ¬ w.heap.size+1 < w.heap.size by omega)
 have Hb2:=ξ (show ¬ w.heap.size+1+1 < w.heap.size by omega)
 have Hb3:=ξ (show ¬ w.heap.size+1+1+1 < w.heap.size by omega)
 have Hb4:=ξ (show ¬ w.heap.size+1+1+1+1 < w.heap.size by omega)
 have Hb5:=ξ (show ¬ w.heap.size+1+1+1+1+1 < w.heap.size by omega)
 have Hd01:=ξ (show w.heap.size≠w.heap.size+1 by omega)
 have Hd02:=ξ (show w.heap.size≠w.heap.size+1+1 by omega)
 have Hd03:=ξ (show w.heap.size≠w.heap.size+1+1+1 by omega)
 have Hd04:=ξ (show w.heap.size≠w.heap.size+1+1+1+1 by omega)
 have Hd05:=ξ (show w.heap.size≠w.heap.size+1+1+1+1+1 by omega)
 have Hd12:=ξ (show w.heap.size+1≠w.heap.size+1+1 by omega)
 have Hd13:=ξ (show w.heap.size+1≠w.heap.size+1+1+1 by omega)
 have Hd14:=ξ (show w.heap.size+1≠w.heap.size+1+1+1+1 by omega)
 have Hd15:=ξ (show w.heap.size+1≠w.heap.size+1+1+1+1+1 by omega)
 have Hd23:=ξ (show w.heap.size+1+1≠w.heap.size+1+1+1 by omega)
 have Hd24:=ξ (show w.heap.size+1+1≠w.heap.size+1+1+1+1 by omega)
 have Hd25:=ξ (show w.heap.size+1+1≠w.heap.size+1+1+1+1+1 by omega)
 have Hd34:=ξ (show w.heap.size+1+1+1≠w.heap.size+1+1+1+1 by omega)
 have Hd35:=ξ (show w.heap.size+1+1+1≠w.heap.size+1+1+1+1+1 by omega)
 have Hd45:=ξ (show w.heap.size+1+1+1+1≠w.heap.size+1+1+1+1+1 by omega)
 go_enter Tryz.func201,Tryz.ntmps201
 go_wp2_with fail
 generalize (((((w.alloc _).alloc _).alloc _).alloc _).alloc _).alloc _=W at B ⊢
 obtain⟨G0,t0,t1,t2,t3,t4,t5⟩:=B
 generalize w.heap.size+1+1+1+1+1=b5 at t5 Hb5 Hd05 Hd15 Hd25 Hd35 Hd45 ⊢
 generalize w.heap.size+1+1+1+1=b4 at t4 Hb4 Hd04 Hd14 Hd24 Hd34 Hd45 ⊢
 generalize w.heap.size+1+1+1=b3 at t3 Hb3 Hd03 Hd13 Hd23 Hd34 Hd35 ⊢
 generalize w.heap.size+1+1=b2 at t2 Hb2 Hd02 Hd12 Hd23 Hd24 Hd25 ⊢
 generalize w.heap.size+1=b1 at t1 Hb1 Hd01 Hd12 Hd13 Hd14 Hd15 ⊢
 generalize hb0:w.heap.size=b0 at t0 Hd01 Hd02 Hd03 Hd04 Hd05 ⊢
 have Hb0:=ξ (show ¬ b0 < w.heap.size by omega)
 have G:=ξ G0
 have T0:=ξ t0
 have T1:=ξ t1
 have T2:=ξ t2
 have T3:=ξ t3
 have T4:=ξ t4
 have T5:=ξ t5
 clear hb0 G0 t0 t1 t2 t3 t4 t5
 have HA:=ξ (HA.out.grow G.out)
 have HB:=ξ (HB.out.grow G.out)
 have HC:=ξ (HC.out.grow G.out)
 have HD:=ξ (HD.out.grow G.out)
 refine Jp [(0,true),(1,true),(3,true),(4,true),(7,true),(8,true),(2,false),(5,false),(6,false),(9,false),(10,false),(11,false)] (by kernel_rfl) (by kernel_rfl) rfl (by kernel_rfl) (fun _ _ d _ _ h=>by cases d<;>exact h) ?_
 have T0_0:=T0.out.c0
 have T0_1:=T0.out.c1
 have T1_0:=T1.out.c0
 have T1_1:=T1.out.c1
 have T2_0:=T2.out.c0
 have T2_1:=T2.out.c1
 have T3_0:=T3.out.c0
 have T3_1:=T3.out.c1
 have T4_0:=T4.out.c0
 have T4_1:=T4.out.c1
 have T5_0:=T5.out.c0
 have T5_1:=T5.out.c1
 have g0:Gr W W.drew:=(Gr.refl _).drew
 have G:=ξ (G.out.trans g0)
 have T0:=ξ (T0.out.grow g0)
 have T1:=ξ (T1.out.grow g0)
 have T2:=ξ (T2.out.grow g0)
 have T3:=ξ (T3.out.grow g0)
 have T4:=ξ (T4.out.grow g0)
 have T5:=ξ (T5.out.grow g0)
 have HA:=ξ (HA.out.grow g0)
 have HB:=ξ (HB.out.grow g0)
 have HC:=ξ (HC.out.grow g0)
 have HD:=ξ (HD.out.grow g0)
 repeat(refine Jf (v:=?_) g0 rfl rfl (fun w' hg=>?_) (fun K hK=>?_);rotate_left;(go_simp;rfl);go_simp;refine hK _ _ ?_;clear hK K)
 refine Jd (args:=?_) rfl rfl rfl rfl rfl rfl (by kernel_rfl) (by kernel_rfl) ?_ (fun K hK=>?_)
 rotate_left
 ·go_simp;rfl
 refine(Nr _ _ _ p s _ L M HA.out HD.out rfl (by omega) (by omega)).mono ?_
 rintro _ w1 ⟨r1,rfl,g1,h1⟩
 refine⟨_,rfl,g1,?_⟩
 go_simp
 refine hK _ _ ?_
 clear hK K
 have G:=ξ (G.out.trans g1)
 have T0:=ξ (T0.out.grow g1)
 have T1:=ξ (T1.out.grow g1)
 have T2:=ξ (T2.out.grow g1)
 have T3:=ξ (T3.out.grow g1)
 have T4:=ξ (T4.out.grow g1)
 have T5:=ξ (T5.out.grow g1)
 have HA:=ξ (HA.out.grow g1)
 have HB:=ξ (HB.out.grow g1)
 have HC:=ξ (HC.out.grow g1)
 have HD:=ξ (HD.out.grow g1)
 replace g0:=g0.trans g1
 clear g1
 have H1:=ξ h1
 clear h1
 refine Jd (args:=?_) rfl rfl rfl rfl rfl rfl (by kernel_rfl) (by kernel_rfl) ?_ (fun K hK=>?_)
 rotate_left
 ·go_simp;rfl
 refine(Nr _ _ _ r q _ M L HC.out HB.out rfl (by omega) (by omega)).mono ?_
 rintro _ w2 ⟨r2,rfl,g2,h2⟩
 refine⟨_,rfl,g2,?_⟩
 go_simp
 refine hK _ _ ?_
 clear hK K
 have G:=ξ (G.out.trans g2)
 have T0:=ξ (T0.out.grow g2)
 have T1:=ξ (T1.out.grow g2)
 have T2:=ξ (T2.out.grow g2)
 have T3:=ξ (T3.out.grow g2)
 have T4:=ξ (T4.out.grow g2)
 have T5:=ξ (T5.out.grow g2)
 have HA:=ξ (HA.out.grow g2)
 have HB:=ξ (HB.out.grow g2)
 have HC:=ξ (HC.out.grow g2)
 have HD:=ξ (HD.out.grow g2)
 have H1:=ξ (H1.out.grow g2)
 replace g0:=g0.trans g2
 clear g2
 have H2:=ξ h2
 clear h2
 refine Jd (args:=?_) rfl rfl rfl rfl rfl rfl (by kernel_rfl) (by kernel_rfl) ?_ (fun K hK=>?_)
 rotate_left
 ·go_simp;rfl
 refine(Uq _ _ _ (p * s) (r * q) _ (L+M+1) (M+L+1) H1.out.2 H2.out.2 rfl (by omega) (by omega)).mono ?_
 rintro _ w3 ⟨r3,rfl,g3,h3⟩
 refine⟨_,rfl,g3,?_⟩
 go_simp
 refine hK _ _ ?_
 clear hK K
 have G:=ξ (G.out.trans g3)
 have T0:=ξ (T0.out.grow g3)
 have T1:=ξ (T1.out.grow g3)
 have T2:=ξ (T2.out.grow g3)
 have T3:=ξ (T3.out.grow g3)
 have T4:=ξ (T4.out.grow g3)
 have T5:=ξ (T5.out.grow g3)
 have HA:=ξ (HA.out.grow g3)
 have HB:=ξ (HB.out.grow g3)
 have HC:=ξ (HC.out.grow g3)
 have HD:=ξ (HD.out.grow g3)
 have H1:=ξ (H1.out.grow g3)
 have H2:=ξ (H2.out.grow g3)
 replace g0:=g0.trans g3
 clear g3
 have H3:=ξ h3
 clear h3
 refine Jd (args:=?_) rfl rfl rfl rfl rfl rfl (by kernel_rfl) (by kernel_rfl) ?_ (fun K hK=>?_)
 rotate_left
 ·go_simp;rfl
 refine(Nr _ _ _ q s _ L M HB.out HD.out rfl (by omega) (by omega)).mono ?_
 rintro _ w4 ⟨r4,rfl,g4,h4⟩
 refine⟨_,rfl,g4,?_⟩
 go_simp
 refine hK _ _ ?_
 clear hK K
 have G:=ξ (G.out.trans g4)
 have T0:=ξ (T0.out.grow g4)
 have T1:=ξ (T1.out.grow g4)
 have T2:=ξ (T2.out.grow g4)
 have T3:=ξ (T3.out.grow g4)
 have T4:=ξ (T4.out.grow g4)
 have T5:=ξ (T5.out.grow g4)
 have HA:=ξ (HA.out.grow g4)
 have HB:=ξ (HB.out.grow g4)
 have HC:=ξ (HC.out.grow g4)
 have HD:=ξ (HD.out.grow g4)
 have H1:=ξ (H1.out.grow g4)
 have H2:=ξ (H2.out.grow g4)
 have H3:=ξ (H3.out.grow g4)
 replace g0:=g0.trans g4
 clear g4
 have H4:=ξ h4
 clear h4
 have HU:=ξ (show IntV _ _ (p * s+r * q) (2 * L+2 * M+4) from H3.out.2.mono (by omega))
 have HV:=ξ (show IntV _ _ (q * s) (2 * L+2 * M+4) from H4.out.2.mono (by omega))
 obtain⟨s8,p8,k8,c8,rfl⟩:=HU.out.agg
 obtain⟨s9,p9,k9,c9,rfl⟩:=HV.out.agg
 clear T4_0 T4_1
 have T4_0:=T4.out.load.1
 have T4_f0:=T4.out.f0 0
 have T4_1:=T4.out.load.2
 have T4_f1:=T4.out.f0 1
 refine Jj rfl rfl (fun K hK=>?_)
 go_simp
 refine⟨fun h=>Bool.noConfusion h,hK _ _ ?_⟩
 clear hK K
 clear T0_0 T0_1 T1_0 T1_1 T2_0 T2_1 T3_0 T3_1 T4_0 T4_1 T5_0 T5_1 T4_f0 T4_f1
 have hu:=upd2 w4 b4 (.bool s8) (.slice p8 k8 c8)
 have HU:=ξ (HU.out.upd T4.out.noInt hu)
 have HV:=ξ (HV.out.upd T4.out.noInt hu)
 have T0:=ξ (T0.out.upd hu Hd04.out)
 have T1:=ξ (T1.out.upd hu Hd14.out)
 have T2:=ξ (T2.out.upd hu Hd24.out)
 have T3:=ξ (T3.out.upd hu Hd34.out)
 have T5:=ξ (T5.out.upd hu Hd45.out.symm)
 have T4:=ξ (T4.out.set (.bool s8) (.slice p8 k8 c8))
 have G:=ξ (G.out.two Hb4.out (.bool s8) (.slice p8 k8 c8))
 clear hu
 generalize (w4.setCell _ _).setCell _ _=W1 at G T0 T1 T2 T3 T4 T5 HU HV ⊢
 have T5_0:=T5.out.load.1
 have T5_f0:=T5.out.f0 0
 have T5_1:=T5.out.load.2
 have T5_f1:=T5.out.f0 1
 refine Jj rfl rfl (fun K hK=>?_)
 go_simp
 refine⟨fun h=>Bool.noConfusion h,hK _ _ ?_⟩
 clear hK K
 clear T5_0 T5_f0 T5_1 T5_f1
 have hu:=upd2 W1 b5 (.bool s9) (.slice p9 k9 c9)
 have HU:=ξ (HU.out.upd T5.out.noInt hu)
 have HV:=ξ (HV.out.upd T5.out.noInt hu)
 have T0:=ξ (T0.out.upd hu Hd05.out)
 have T1:=ξ (T1.out.upd hu Hd15.out)
 have T2:=ξ (T2.out.upd hu Hd25.out)
 have T3:=ξ (T3.out.upd hu Hd35.out)
 have T4:=ξ (T4.out.upd hu Hd45.out)
 have T5:=ξ (T5.out.set (.bool s9) (.slice p9 k9 c9))
 have G:=ξ (G.out.two Hb5.out (.bool s9) (.slice p9 k9 c9))
 clear hu
 generalize (W1.setCell _ _).setCell _ _=W2 at G T0 T1 T2 T3 T4 T5 HU HV ⊢
 refine Ji ?_
 clear g0
 go_wp2_with fail
 have T4_0:=T4.out.load.1
 have T4_1:=T4.out.load.2
 have T5_0:=T5.out.load.1
 have T5_1:=T5.out.load.2
 refine bodyPost_ret (by simp[results,Tryz.results201,go_sem,T4_0,T4_1,T5_0,T5_1];rfl) rfl ?_
 exact⟨_,rfl,G.out,_,_,rfl,HU.out,HV.out⟩
theorem J1Y (w:World)(va vb vc vd:Value)(p q r s:Int)(L M:Nat)(ha:IntV w va p L)(hb:IntV w vb q L)(hc:IntV w vc r M)(hd:IntV w vd s M)(hL:L≤100000)(hM:M≤100000):
  Calls Tryz.prog 202 #[va,vb,vc,vd] w (Ret w fun x w'=>∃ u v,x = .tuple #[u,v]∧IntV w' u (p * r) (2 * L+2 * M+4)∧IntV w' v (q * s) (2 * L+2 * M+4)):=by
 have HA:=ξ ha
 have HB:=ξ hb
 have HC:=ξ hc
 have HD:=ξ hd
 obtain⟨s0,p0,k0,c0,rfl⟩:=ha.agg
 obtain⟨s1,p1,k1,c1,rfl⟩:=hb.agg
 obtain⟨s2,p2,k2,c2,rfl⟩:=hc.agg
 obtain⟨s3,p3,k3,c3,rfl⟩:=hd.agg
 clear ha hb hc hd
 have B:=box222222 w (.bool s0) (.slice p0 k0 c0) (.bool s1) (.slice p1 k1 c1) (.bool s2) (.slice p2 k2 c2) (.bool s3) (.slice p3 k3 c3) (.bool false) (.slice none 0 0) (.bool false) (.slice none 0 0) 66 66 66 66 66 66
 have Hb1:=ξ (show ¬ w.heap.size+1 < w.heap.size by omega)
 have Hb2:=ξ (show ¬ w.heap.size+1+1 < w.heap.size by omega)
 have Hb3:=ξ (show ¬ w.heap.size+1+1+1 < w.heap.size by omega)
 have Hb4:=ξ (show ¬ w.heap.size+1+1+1+1 < w.heap.size by omega)
 have Hb5:=ξ (show ¬ w.heap.size+1+1+1+1+1 < w.heap.size by omega)
 have Hd01:=ξ (show w.heap.size≠w.heap.size+1 by omega)
 have Hd02:=ξ (show w.heap.size≠w.heap.size+1+1 by omega)
 have Hd03:=ξ (show w.heap.size≠w.heap.size+1+1+1 by omega)
 have Hd04:=ξ (show w.heap.size≠w.heap.size+1+1+1+1 by omega)
 have Hd05:=ξ (show w.heap.size≠w.heap.size+1+1+1+1+1 by omega)
 have Hd12:=ξ (show w.heap.size+1≠w.heap.size+1+1 by omega)
 have Hd13:=ξ (show w.heap.size+1≠w.heap.size+1+1+1 by omega)
 have Hd14:=ξ (show w.heap.size+1≠w.heap.size+1+1+1+1 by omega)
 have Hd15:=ξ (show w.heap.size+1≠w.heap.size+1+1+1+1+1 by omega)
 have Hd23:=ξ (show w.heap.size+1+1≠w.heap.size+1+1+1 by omega)
 have Hd24:=ξ (show w.heap.size+1+1≠w.heap.size+1+1+1+1 by omega)
 have Hd25:=ξ (show w.heap.size+1+1≠w.heap.size+1+1+1+1+1 by omega)
 have Hd34:=ξ (show w.heap.size+1+1+1≠w.heap.size+1+1+1+1 by omega)
 have Hd35:=ξ (show w.heap.size+1+1+1≠w.heap.size+1+1+1+1+1 by omega)
 have Hd45:=ξ (show w.heap.size+1+1+1+1≠w.heap.size+1+1+1+1+1 by omega)
 go_enter Tryz.func202,Tryz.ntmps202
 go_wp2_with fail
 generalize (((((w.alloc _).alloc _).alloc _).alloc _).alloc _).alloc _=W at B ⊢
 obtain⟨G0,t0,t1,t2,t3,t4,t5⟩:=B
 generalize w.heap.size+1+1+1+1+1=b5 at t5 Hb5 Hd05 Hd15 Hd25 Hd35 Hd45 ⊢
 generalize w.heap.size+1+1+1+1=b4 at t4 Hb4 Hd04 Hd14 Hd24 Hd34 Hd45 ⊢
 generalize w.heap.size+1+1+1=b3 at t3 Hb3 Hd03 Hd13 Hd23 Hd34 Hd35 ⊢
 generalize w.heap.size+1+1=b2 at t2 Hb2 Hd02 Hd12 Hd23 Hd24 Hd25 ⊢
 generalize w.heap.size+1=b1 at t1 Hb1 Hd01 Hd12 Hd13 Hd14 Hd15 ⊢
 generalize hb0:w.heap.size=b0 at t0 Hd01 Hd02 Hd03 Hd04 Hd05 ⊢
 have Hb0:=ξ (show ¬ b0 < w.heap.size by omega)
 have G:=ξ G0
 have T0:=ξ t0
 have T1:=ξ t1
 have T2:=ξ t2
 have T3:=ξ t3
 have T4:=ξ t4
 have T5:=ξ t5
 clear hb0 G0 t0 t1 t2 t3 t4 t5
 have HA:=ξ (HA.out.grow G.out)
 have HB:=ξ (HB.out.grow G.out)
 have HC:=ξ (HC.out.grow G.out)
 have HD:=ξ (HD.out.grow G.out)
 refine Jp [(0,true),(1,true),(3,true),(4,true),(2,false),(5,false),(6,false),(7,false)] (by kernel_rfl) (by kernel_rfl) rfl (by kernel_rfl) (fun _ _ d _ _ h=>by cases d<;>exact h) ?_
 have T0_0:=T0.out.c0
 have T0_1:=T0.out.c1
 have T1_0:=T1.out.c0
 have T1_1:=T1.out.c1
 have T2_0:=T2.out.c0
 have T2_1:=T2.out.c1
 have T3_0:=T3.out.c0
 have T3_1:=T3.out.c1
 have T4_0:=T4.out.c0
 have T4_1:=T4.out.c1
 have T5_0:=T5.out.c0
 have T5_1:=T5.out.c1
 have g0:Gr W W.drew:=(Gr.refl _).drew
 have G:=ξ (G.out.trans g0)
 have T0:=ξ (T0.out.grow g0)
 have T1:=ξ (T1.out.grow g0)
 have T2:=ξ (T2.out.grow g0)
 have T3:=ξ (T3.out.grow g0)
 have T4:=ξ (T4.out.grow g0)
 have T5:=ξ (T5.out.grow g0)
 have HA:=ξ (HA.out.grow g0)
 have HB:=ξ (HB.out.grow g0)
 have HC:=ξ (HC.out.grow g0)
 have HD:=ξ (HD.out.grow g0)
 repeat(refine Jf (v:=?_) g0 rfl rfl (fun w' hg=>?_) (fun K hK=>?_);rotate_left;(go_simp;rfl);go_simp;refine hK _ _ ?_;clear hK K)
 refine Jd (args:=?_) rfl rfl rfl rfl rfl rfl (by kernel_rfl) (by kernel_rfl) ?_ (fun K hK=>?_)
 rotate_left
 ·go_simp;rfl
 refine(Nr _ _ _ p r _ L M HA.out HC.out rfl (by omega) (by omega)).mono ?_
 rintro _ w1 ⟨r1,rfl,g1,h1⟩
 refine⟨_,rfl,g1,?_⟩
 go_simp
 refine hK _ _ ?_
 clear hK K
 have G:=ξ (G.out.trans g1)
 have T0:=ξ (T0.out.grow g1)
 have T1:=ξ (T1.out.grow g1)
 have T2:=ξ (T2.out.grow g1)
 have T3:=ξ (T3.out.grow g1)
 have T4:=ξ (T4.out.grow g1)
 have T5:=ξ (T5.out.grow g1)
 have HA:=ξ (HA.out.grow g1)
 have HB:=ξ (HB.out.grow g1)
 have HC:=ξ (HC.out.grow g1)
 have HD:=ξ (HD.out.grow g1)
 replace g0:=g0.trans g1
 clear g1
 have H1:=ξ h1
 clear h1
 refine Jd (args:=?_) rfl rfl rfl rfl rfl rfl (by kernel_rfl) (by kernel_rfl) ?_ (fun K hK=>?_)
 rotate_left
 ·go_simp;rfl
 refine(Nr _ _ _ q s _ L M HB.out HD.out rfl (by omega) (by omega)).mono ?_
 rintro _ w2 ⟨r2,rfl,g2,h2⟩
 refine⟨_,rfl,g2,?_⟩
 go_simp
 refine hK _ _ ?_
 clear hK K
 have G:=ξ (G.out.trans g2)
 have T0:=ξ (T0.out.grow g2)
 have T1:=ξ (T1.out.grow g2)
 have T2:=ξ (T2.out.grow g2)
 have T3:=ξ (T3.out.grow g2)
 have T4:=ξ (T4.out.grow g2)
 have T5:=ξ (T5.out.grow g2)
 have HA:=ξ (HA.out.grow g2)
 have HB:=ξ (HB.out.grow g2)
 have HC:=ξ (HC.out.grow g2)
 have HD:=ξ (HD.out.grow g2)
 have H1:=ξ (H1.out.grow g2)
 replace g0:=g0.trans g2
 clear g2
 have H2:=ξ h2
 clear h2
 have HU:=ξ (show IntV _ _ (p * r) (2 * L+2 * M+4) from H1.out.2.mono (by omega))
 have HV:=ξ (show IntV _ _ (q * s) (2 * L+2 * M+4) from H2.out.2.mono (by omega))
 obtain⟨s8,p8,k8,c8,rfl⟩:=HU.out.agg
 obtain⟨s9,p9,k9,c9,rfl⟩:=HV.out.agg
 clear T4_0 T4_1
 have T4_0:=T4.out.load.1
 have T4_f0:=T4.out.f0 0
 have T4_1:=T4.out.load.2
 have T4_f1:=T4.out.f0 1
 refine Jj rfl rfl (fun K hK=>?_)
 go_simp
 refine⟨fun h=>Bool.noConfusion h,hK _ _ ?_⟩
 clear hK K
 clear T0_0 T0_1 T1_0 T1_1 T2_0 T2_1 T3_0 T3_1 T4_0 T4_1 T5_0 T5_1 T4_f0 T4_f1
 have hu:=upd2 w2 b4 (.bool s8) (.slice p8 k8 c8)
 have HU:=ξ (HU.out.upd T4.out.noInt hu)
 have HV:=ξ (HV.out.upd T4.out.noInt hu)
 have T0:=ξ (T0.out.upd hu Hd04.out)
 have T1:=ξ (T1.out.upd hu Hd14.out)
 have T2:=ξ (T2.out.upd hu Hd24.out)
 have T3:=ξ (T3.out.upd hu Hd34.out)
 have T5:=ξ (T5.out.upd hu Hd45.out.symm)
 have T4:=ξ (T4.out.set (.bool s8) (.slice p8 k8 c8))
 have G:=ξ (G.out.two Hb4.out (.bool s8) (.slice p8 k8 c8))
 clear hu
 generalize (w2.setCell _ _).setCell _ _=W1 at G T0 T1 T2 T3 T4 T5 HU HV ⊢
 have T5_0:=T5.out.load.1
 have T5_f0:=T5.out.f0 0
 have T5_1:=T5.out.load.2
 have T5_f1:=T5.out.f0 1
 refine Jj rfl rfl (fun K hK=>?_)
 go_simp
 refine⟨fun h=>Bool.noConfusion h,hK _ _ ?_⟩
 clear hK K
 clear T5_0 T5_f0 T5_1 T5_f1
 have hu:=upd2 W1 b5 (.bool s9) (.slice p9 k9 c9)
 have HU:=ξ (HU.out.upd T5.out.noInt hu)
 have HV:=ξ (HV.out.upd T5.out.noInt hu)
 have T0:=ξ (T0.out.upd hu Hd05.out)
 have T1:=ξ (T1.out.upd hu Hd15.out)
 have T2:=ξ (T2.out.upd hu Hd25.out)
 have T3:=ξ (T3.out.upd hu Hd35.out)
 have T4:=ξ (T4.out.upd hu Hd45.out)
 have T5:=ξ (T5.out.set (.bool s9) (.slice p9 k9 c9))
 have G:=ξ (G.out.two Hb5.out (.bool s9) (.slice p9 k9 c9))
 clear hu
 generalize (W1.setCell _ _).setCell _ _=W2 at G T0 T1 T2 T3 T4 T5 HU HV ⊢
 refine Ji ?_
 clear g0
 go_wp2_with fail
 have T4_0:=T4.out.load.1
 have T4_1:=T4.out.load.2
 have T5_0:=T5.out.load.1
 have T5_1:=T5.out.load.2
 refine bodyPost_ret (by simp[results,Tryz.results202,go_sem,T4_0,T4_1,T5_0,T5_1];rfl) rfl ?_
 exact⟨_,rfl,G.out,_,_,rfl,HU.out,HV.out⟩
theorem J5l (w:World)(va vb:Value)(z z':Int)(q q':Nat)(N D:Int)(KK L M:Nat)(ha:RatP w va z q L)(hb:RatP w vb z' q' M)(hL:L≤100000)(hM:M≤100000)(hKK:KK≤1000000)(hD:D≠0)
  (hF:∀ w' v1 v2 v3 v4,IntV w' v1 z (L+1)→IntV w' v2 q (L+1)→IntV w' v3 z' (M+1)→IntV w' v4 q' (M+1)→Calls Tryz.prog 201 #[v1,v2,v3,v4] w' (Ret w' fun x w''=>∃ u v,x = .tuple #[u,v]∧IntV w'' u N KK∧IntV w'' v D KK)):
  Calls Tryz.prog 200 #[va,vb,.func (.func 201) #[] #[]] w (Ret w fun r w'=>RatC w' r (Rat.divInt N D)):=by
 have HA:=ξ ha
 have HB:=ξ hb
 have HF:=ξ hF
 obtain⟨s0,p0,k0,c0,e0,m0,n0,rfl⟩:=ha.agg
 obtain⟨s1,p1,k1,c1,e1,m1,n1,rfl⟩:=hb.agg
 have HN:=ξ (ha.num)
 have HM:=ξ (hb.num)
 clear ha hb hF
 have B:=box333 w (.bool s0) (.slice p0 k0 c0) (.slice e0 m0 n0) (.bool s1) (.slice p1 k1 c1) (.slice e1 m1 n1) (.bool false) (.slice none 0 0) (.slice none 0 0) 68 68 68
 have Hb1:=ξ (show ¬ w.heap.size+1 < w.heap.size by omega)
 have Hb2:=ξ (show ¬ w.heap.size+1+1 < w.heap.size by omega)
 have Hd01:=ξ (show w.heap.size≠w.heap.size+1 by omega)
 have Hd02:=ξ (show w.heap.size≠w.heap.size+1+1 by omega)
 have Hd12:=ξ (show w.heap.size+1≠w.heap.size+1+1 by omega)
 go_enter Tryz.func200,Tryz.ntmps200
 go_wp2_with fail
 generalize ((w.alloc _).alloc _).alloc _=W at B ⊢
 obtain⟨G0,t0,t1,t2⟩:=B
 generalize w.heap.size+1+1=b2 at t2 Hb2 Hd02 Hd12 ⊢
 generalize w.heap.size+1=b1 at t1 Hb1 Hd01 Hd12 ⊢
 generalize hb0:w.heap.size=b0 at t0 Hd01 Hd02 ⊢
 have Hb0:=ξ (show ¬ b0 < w.heap.size by omega)
 have G:=ξ G0
 have T0:=ξ t0
 have T1:=ξ t1
 have T2:=ξ t2
 clear hb0 G0 t0 t1 t2
 have HA:=ξ (HA.out.grow G.out)
 have HB:=ξ (HB.out.grow G.out)
 have HN:=ξ (HN.out.grow G.out)
 have HM:=ξ (HM.out.grow G.out)
 refine Jp [(0,true),(1,true),(2,true),(3,true),(5,true),(6,true),(7,true),(4,false),(8,false),(9,false),(10,true),(11,true),(12,false),(13,false)] (by kernel_rfl) (by kernel_rfl) rfl (by kernel_rfl) (fun _ _ d _ _ h=>by cases d<;>exact h) ?_
 have T0_0:=T0.out.c0
 have T0_1:=T0.out.c1
 have T0_2:=T0.out.c2
 have T1_0:=T1.out.c0
 have T1_1:=T1.out.c1
 have T1_2:=T1.out.c2
 have T2_0:=T2.out.c0
 have T2_1:=T2.out.c1
 have T2_2:=T2.out.c2
 have g0:Gr W W.drew:=(Gr.refl _).drew
 have G:=ξ (G.out.trans g0)
 have T0:=ξ (T0.out.grow g0)
 have T1:=ξ (T1.out.grow g0)
 have T2:=ξ (T2.out.grow g0)
 have HA:=ξ (HA.out.grow g0)
 have HB:=ξ (HB.out.grow g0)
 have HN:=ξ (HN.out.grow g0)
 have HM:=ξ (HM.out.grow g0)
 repeat(refine Jf (v:=?_) g0 rfl rfl (fun w' hg=>?_) (fun K hK=>?_);rotate_left;(go_simp;rfl);go_simp;refine hK _ _ ?_;clear hK K)
 refine Jd (args:=?_) rfl rfl rfl rfl rfl rfl (by kernel_rfl) (by kernel_rfl) ?_ (fun K hK=>?_)
 rotate_left
 ·go_simp;rfl
 refine(Mi _ _ z q L HA.out hL).mono ?_
 rintro _ w1 ⟨r1,rfl,g1,h1⟩
 refine⟨_,rfl,g1,?_⟩
 go_simp
 refine hK _ _ ?_
 clear hK K
 have G:=ξ (G.out.trans g1)
 have T0:=ξ (T0.out.grow g1)
 have T1:=ξ (T1.out.grow g1)
 have T2:=ξ (T2.out.grow g1)
 have HA:=ξ (HA.out.grow g1)
 have HB:=ξ (HB.out.grow g1)
 have HN:=ξ (HN.out.grow g1)
 have HM:=ξ (HM.out.grow g1)
 replace g0:=g0.trans g1
 clear g1
 have H1:=ξ h1
 clear h1
 refine Jd (args:=?_) rfl rfl rfl rfl rfl rfl (by kernel_rfl) (by kernel_rfl) ?_ (fun K hK=>?_)
 rotate_left
 ·go_simp;rfl
 refine(Mi _ _ z' q' M HB.out hM).mono ?_
 rintro _ w2 ⟨r2,rfl,g2,h2⟩
 refine⟨_,rfl,g2,?_⟩
 go_simp
 refine hK _ _ ?_
 clear hK K
 have G:=ξ (G.out.trans g2)
 have T0:=ξ (T0.out.grow g2)
 have T1:=ξ (T1.out.grow g2)
 have T2:=ξ (T2.out.grow g2)
 have HA:=ξ (HA.out.grow g2)
 have HB:=ξ (HB.out.grow g2)
 have HN:=ξ (HN.out.grow g2)
 have HM:=ξ (HM.out.grow g2)
 have H1:=ξ (H1.out.grow g2)
 replace g0:=g0.trans g2
 clear g2
 have H2:=ξ h2
 clear h2
 refine Jd (args:=?_) rfl rfl rfl rfl rfl rfl (by kernel_rfl) (by kernel_rfl) ?_ (fun K hK=>?_)
 rotate_left
 ·go_simp;rfl
 refine(HF.out _ _ _ _ _ (HN.out.mono (Nat.le_succ L)) H1.out (HM.out.mono (Nat.le_succ M)) H2.out).mono ?_
 rintro _ w3 ⟨_,rfl,g3,u,v,rfl,hu,hv⟩
 refine⟨_,rfl,g3,?_⟩
 go_simp
 refine hK _ _ ?_
 clear hK K
 have G:=ξ (G.out.trans g3)
 have T0:=ξ (T0.out.grow g3)
 have T1:=ξ (T1.out.grow g3)
 have T2:=ξ (T2.out.grow g3)
 have HA:=ξ (HA.out.grow g3)
 have HB:=ξ (HB.out.grow g3)
 have HN:=ξ (HN.out.grow g3)
 have HM:=ξ (HM.out.grow g3)
 have H1:=ξ (H1.out.grow g3)
 have H2:=ξ (H2.out.grow g3)
 replace g0:=g0.trans g3
 clear g3
 have HU:=ξ hu
 have HV:=ξ hv
 clear hu hv
 repeat(refine Jf (v:=?_) g0 rfl rfl (fun w' hg=>?_) (fun K hK=>?_);rotate_left;(go_simp;rfl);go_simp;refine hK _ _ ?_;clear hK K)
 refine Jd (args:=?_) rfl rfl rfl rfl rfl rfl (by kernel_rfl) (by kernel_rfl) ?_ (fun K hK=>?_)
 rotate_left
 ·go_simp;rfl
 refine(Q2 _ _ _ N D KK KK HU.out HV.out hD hKK hKK).mono ?_
 rintro _ w4 ⟨r4,rfl,g4,h4⟩
 refine⟨_,rfl,g4,?_⟩
 go_simp
 refine hK _ _ ?_
 clear hK K
 have G:=ξ (G.out.trans g4)
 have T0:=ξ (T0.out.grow g4)
 have T1:=ξ (T1.out.grow g4)
 have T2:=ξ (T2.out.grow g4)
 have HU:=ξ (HU.out.grow g4)
 have HV:=ξ (HV.out.grow g4)
 replace g0:=g0.trans g4
 clear g4
 have H4:=ξ h4
 clear h4
 obtain⟨s8,p8,k8,c8,e8,m8,n8,rfl⟩:=H4.out.agg
 clear T2_0 T2_1 T2_2
 have T2_0:=T2.out.load.1
 have T2_f0:=T2.out.f0 0
 have T2_1:=T2.out.load.2.1
 have T2_f1:=T2.out.f0 1
 have T2_2:=T2.out.load.2.2
 have T2_f2:=T2.out.f0 2
 refine Jj rfl rfl (fun K hK=>?_)
 go_simp
 refine⟨fun h=>Bool.noConfusion h,hK _ _ ?_⟩
 clear hK K
 clear T0_0 T0_1 T0_2 T1_0 T1_1 T1_2 T2_0 T2_1 T2_2 T2_f0 T2_f1 T2_f2
 have hu:=upd3 w4 b2 (.bool s8) (.slice p8 k8 c8) (.slice e8 m8 n8)
 have H4:=ξ (H4.out.upd T2.out.noInt hu)
 have T0:=ξ (T0.out.upd hu Hd02.out)
 have T1:=ξ (T1.out.upd hu Hd12.out)
 have T2:=ξ (T2.out.set (.bool s8) (.slice p8 k8 c8) (.slice e8 m8 n8))
 have G:=ξ (G.out.three Hb2.out (.bool s8) (.slice p8 k8 c8) (.slice e8 m8 n8))
 clear hu
 generalize ((w4.setCell _ _).setCell _ _).setCell _ _=W1 at G T0 T1 T2 H4 ⊢
 refine Ji ?_
 clear g0
 go_wp2_with fail
 have T2_0:=T2.out.load.1
 have T2_1:=T2.out.load.2.1
 have T2_2:=T2.out.load.2.2
 refine bodyPost_ret (by simp[results,Tryz.results200,go_sem,T2_0,T2_1,T2_2];rfl) rfl ?_
 exact⟨_,rfl,G.out,H4.out⟩
theorem J5m (w:World)(va vb:Value)(z z':Int)(q q':Nat)(N D:Int)(KK L M:Nat)(ha:RatP w va z q L)(hb:RatP w vb z' q' M)(hL:L≤100000)(hM:M≤100000)(hKK:KK≤1000000)(hD:D≠0)
  (hF:∀ w' v1 v2 v3 v4,IntV w' v1 z (L+1)→IntV w' v2 q (L+1)→IntV w' v3 z' (M+1)→IntV w' v4 q' (M+1)→Calls Tryz.prog 202 #[v1,v2,v3,v4] w' (Ret w' fun x w''=>∃ u v,x = .tuple #[u,v]∧IntV w'' u N KK∧IntV w'' v D KK)):
  Calls Tryz.prog 200 #[va,vb,.func (.func 202) #[] #[]] w (Ret w fun r w'=>RatC w' r (Rat.divInt N D)):=by
 have HA:=ξ ha
 have HB:=ξ hb
 have HF:=ξ hF
 obtain⟨s0,p0,k0,c0,e0,m0,n0,rfl⟩:=ha.agg
 obtain⟨s1,p1,k1,c1,e1,m1,n1,rfl⟩:=hb.agg
 have HN:=ξ (ha.num)
 have HM:=ξ (hb.num)
 clear ha hb hF
 have B:=box333 w (.bool s0) (.slice p0 k0 c0) (.slice e0 m0 n0) (.bool s1) (.slice p1 k1 c1) (.slice e1 m1 n1) (.bool false) (.slice none 0 0) (.slice none 0 0) 68 68 68
 have Hb1:=ξ (show ¬ w.heap.size+1 < w.heap.size by omega)
 have Hb2:=ξ (show ¬ w.heap.size+1+1 < w.heap.size by omega)
 have Hd01:=ξ (show w.heap.size≠w.heap.size+1 by omega)
 have Hd02:=ξ (show w.heap.size≠w.heap.size+1+1 by omega)
 have Hd12:=ξ (show w.heap.size+1≠w.heap.size+1+1 by omega)
 go_enter Tryz.func200,Tryz.ntmps200
 go_wp2_with fail
 generalize ((w.alloc _).alloc _).alloc _=W at B ⊢
 obtain⟨G0,t0,t1,t2⟩:=B
 generalize w.heap.size+1+1=b2 at t2 Hb2 Hd02 Hd12 ⊢
 generalize w.heap.size+1=b1 at t1 Hb1 Hd01 Hd12 ⊢
 generalize hb0:w.heap.size=b0 at t0 Hd01 Hd02 ⊢
 have Hb0:=ξ (show ¬ b0 < w.heap.size by omega)
 have G:=ξ G0
 have T0:=ξ t0
 have T1:=ξ t1
 have T2:=ξ t2
 clear hb0 G0 t0 t1 t2
 have HA:=ξ (HA.out.grow G.out)
 have HB:=ξ (HB.out.grow G.out)
 have HN:=ξ (HN.out.grow G.out)
 have HM:=ξ (HM.out.grow G.out)
 refine Jp [(0,true),(1,true),(2,true),(3,true),(5,true),(6,true),(7,true),(4,false),(8,false),(9,false),(10,true),(11,true),(12,false),(13,false)] (by kernel_rfl) (by kernel_rfl) rfl (by kernel_rfl) (fun _ _ d _ _ h=>by cases d<;>exact h) ?_
 have T0_0:=T0.out.c0
 have T0_1:=T0.out.c1
 have T0_2:=T0.out.c2
 have T1_0:=T1.out.c0
 have T1_1:=T1.out.c1
 have T1_2:=T1.out.c2
 have T2_0:=T2.out.c0
 have T2_1:=T2.out.c1
 have T2_2:=T2.out.c2
 have g0:Gr W W.drew:=(Gr.refl _).drew
 have G:=ξ (G.out.trans g0)
 have T0:=ξ (T0.out.grow g0)
 have T1:=ξ (T1.out.grow g0)
 have T2:=ξ (T2.out.grow g0)
 have HA:=ξ (HA.out.grow g0)
 have HB:=ξ (HB.out.grow g0)
 have HN:=ξ (HN.out.grow g0)
 have HM:=ξ (HM.out.grow g0)
 repeat(refine Jf (v:=?_) g0 rfl rfl (fun w' hg=>?_) (fun K hK=>?_);rotate_left;(go_simp;rfl);go_simp;refine hK _ _ ?_;clear hK K)
 refine Jd (args:=?_) rfl rfl rfl rfl rfl rfl (by kernel_rfl) (by kernel_rfl) ?_ (fun K hK=>?_)
 rotate_left
 ·go_simp;rfl
 refine(Mi _ _ z q L HA.out hL).mono ?_
 rintro _ w1 ⟨r1,rfl,g1,h1⟩
 refine⟨_,rfl,g1,?_⟩
 go_simp
 refine hK _ _ ?_
 clear hK K
 have G:=ξ (G.out.trans g1)
 have T0:=ξ (T0.out.grow g1)
 have T1:=ξ (T1.out.grow g1)
 have T2:=ξ (T2.out.grow g1)
 have HA:=ξ (HA.out.grow g1)
 have HB:=ξ (HB.out.grow g1)
 have HN:=ξ (HN.out.grow g1)
 have HM:=ξ (HM.out.grow g1)
 replace g0:=g0.trans g1
 clear g1
 have H1:=ξ h1
 clear h1
 refine Jd (args:=?_) rfl rfl rfl rfl rfl rfl (by kernel_rfl) (by kernel_rfl) ?_ (fun K hK=>?_)
 rotate_left
 ·go_simp;rfl
 refine(Mi _ _ z' q' M HB.out hM).mono ?_
 rintro _ w2 ⟨r2,rfl,g2,h2⟩
 refine⟨_,rfl,g2,?_⟩
 go_simp
 refine hK _ _ ?_
 clear hK K
 have G:=ξ (G.out.trans g2)
 have T0:=ξ (T0.out.grow g2)
 have T1:=ξ (T1.out.grow g2)
 have T2:=ξ (T2.out.grow g2)
 have HA:=ξ (HA.out.grow g2)
 have HB:=ξ (HB.out.grow g2)
 have HN:=ξ (HN.out.grow g2)
 have HM:=ξ (HM.out.grow g2)
 have H1:=ξ (H1.out.grow g2)
 replace g0:=g0.trans g2
 clear g2
 have H2:=ξ h2
 clear h2
 refine Jd (args:=?_) rfl rfl rfl rfl rfl rfl (by kernel_rfl) (by kernel_rfl) ?_ (fun K hK=>?_)
 rotate_left
 ·go_simp;rfl
 refine(HF.out _ _ _ _ _ (HN.out.mono (Nat.le_succ L)) H1.out (HM.out.mono (Nat.le_succ M)) H2.out).mono ?_
 rintro _ w3 ⟨_,rfl,g3,u,v,rfl,hu,hv⟩
 refine⟨_,rfl,g3,?_⟩
 go_simp
 refine hK _ _ ?_
 clear hK K
 have G:=ξ (G.out.trans g3)
 have T0:=ξ (T0.out.grow g3)
 have T1:=ξ (T1.out.grow g3)
 have T2:=ξ (T2.out.grow g3)
 have HA:=ξ (HA.out.grow g3)
 have HB:=ξ (HB.out.grow g3)
 have HN:=ξ (HN.out.grow g3)
 have HM:=ξ (HM.out.grow g3)
 have H1:=ξ (H1.out.grow g3)
 have H2:=ξ (H2.out.grow g3)
 replace g0:=g0.trans g3
 clear g3
 have HU:=ξ hu
 have HV:=ξ hv
 clear hu hv
 repeat(refine Jf (v:=?_) g0 rfl rfl (fun w' hg=>?_) (fun K hK=>?_);rotate_left;(go_simp;rfl);go_simp;refine hK _ _ ?_;clear hK K)
 refine Jd (args:=?_) rfl rfl rfl rfl rfl rfl (by kernel_rfl) (by kernel_rfl) ?_ (fun K hK=>?_)
 rotate_left
 ·go_simp;rfl
 refine(Q2 _ _ _ N D KK KK HU.out HV.out hD hKK hKK).mono ?_
 rintro _ w4 ⟨r4,rfl,g4,h4⟩
 refine⟨_,rfl,g4,?_⟩
 go_simp
 refine hK _ _ ?_
 clear hK K
 have G:=ξ (G.out.trans g4)
 have T0:=ξ (T0.out.grow g4)
 have T1:=ξ (T1.out.grow g4)
 have T2:=ξ (T2.out.grow g4)
 have HU:=ξ (HU.out.grow g4)
 have HV:=ξ (HV.out.grow g4)
 replace g0:=g0.trans g4
 clear g4
 have H4:=ξ h4
 clear h4
 obtain⟨s8,p8,k8,c8,e8,m8,n8,rfl⟩:=H4.out.agg
 clear T2_0 T2_1 T2_2
 have T2_0:=T2.out.load.1
 have T2_f0:=T2.out.f0 0
 have T2_1:=T2.out.load.2.1
 have T2_f1:=T2.out.f0 1
 have T2_2:=T2.out.load.2.2
 have T2_f2:=T2.out.f0 2
 refine Jj rfl rfl (fun K hK=>?_)
 go_simp
 refine⟨fun h=>Bool.noConfusion h,hK _ _ ?_⟩
 clear hK K
 clear T0_0 T0_1 T0_2 T1_0 T1_1 T1_2 T2_0 T2_1 T2_2 T2_f0 T2_f1 T2_f2
 have hu:=upd3 w4 b2 (.bool s8) (.slice p8 k8 c8) (.slice e8 m8 n8)
 have H4:=ξ (H4.out.upd T2.out.noInt hu)
 have T0:=ξ (T0.out.upd hu Hd02.out)
 have T1:=ξ (T1.out.upd hu Hd12.out)
 have T2:=ξ (T2.out.set (.bool s8) (.slice p8 k8 c8) (.slice e8 m8 n8))
 have G:=ξ (G.out.three Hb2.out (.bool s8) (.slice p8 k8 c8) (.slice e8 m8 n8))
 clear hu
 generalize ((w4.setCell _ _).setCell _ _).setCell _ _=W1 at G T0 T1 T2 H4 ⊢
 refine Ji ?_
 clear g0
 go_wp2_with fail
 have T2_0:=T2.out.load.1
 have T2_1:=T2.out.load.2.1
 have T2_2:=T2.out.load.2.2
 refine bodyPost_ret (by simp[results,Tryz.results200,go_sem,T2_0,T2_1,T2_2];rfl) rfl ?_
 exact⟨_,rfl,G.out,H4.out⟩
theorem J01 {q q':Nat}(h:q≠0)(h':q'≠0):((q:Int) * (q':Int))≠0:=Int.mul_ne_zero (by omega) (by omega)
theorem V8 (N:Int)(q q':Nat):Rat.divInt N ((q:Int) * (q':Int))=mkRat N (q * q'):=by
 rw[← Rat.divInt_ofNat,Int.natCast_mul]
theorem J4K (w:World)(va vb:Value)(z z':Int)(q q' L M:Nat)(ha:RatP w va z q L)(hb:RatP w vb z' q' M)(hL:L≤1000)(hM:M≤1000):
  Calls Tryz.prog 142 #[va,vb] w (Ret w fun r w'=>RatC w' r (mkRat z q+mkRat z' q')):=by
 have HA:=ξ ha
 have HB:=ξ hb
 obtain⟨s0,p0,k0,c0,e0,m0,n0,rfl⟩:=ha.agg
 obtain⟨s1,p1,k1,c1,e1,m1,n1,rfl⟩:=hb.agg
 have HN:=ξ (ha.num)
 have HM:=ξ (hb.num)
 obtain⟨d,hd1,hd2,hd3⟩:=ha.den
 obtain⟨d',hd1',hd2',hd3'⟩:=hb.den
 have hld:=hd1.len
 have hld':=hd1'.len
 have Hq:=ξ ha.ne
 have Hq':=ξ hb.ne
 have hm0:(m0:Int)≤1000:=by omega
 have hm1:(m1:Int)≤1000:=by omega
 clear ha hb hd1 hd1'
 by_cases h0:m0=0∧m1=0
 ·obtain⟨rfl,rfl⟩:=h0
  have hq:q=1:=by rw[← hd2,List.eq_nil_of_length_eq_zero hld];rfl
  have hq':q'=1:=by rw[← hd2',List.eq_nil_of_length_eq_zero hld'];rfl
  have HR:=ξ (show((z+z':Int):Rat)=mkRat z q+mkRat z' q' by rw[hq,hq',Qt,Qt];exact Rat.intCast_add _ _)
  rw[← HR.out]
  clear hq hq' hd2 hd2' hd3 hd3' hld hld' hm0 hm1
  have B:=box333 w (.bool s0) (.slice p0 k0 c0) (.slice e0 0 n0) (.bool s1) (.slice p1 k1 c1) (.slice e1 0 n1) (.bool false) (.slice none 0 0) (.slice none 0 0) 68 68 68
  have Hb1:=ξ (show ¬ w.heap.size+1 < w.heap.size by omega)
  have Hb2:=ξ (show ¬ w.heap.size+1+1 < w.heap.size by omega)
  have Hd01:=ξ (show w.heap.size≠w.heap.size+1 by omega)
  have Hd02:=ξ (show w.heap.size≠w.heap.size+1+1 by omega)
  have Hd12:=ξ (show w.heap.size+1≠w.heap.size+1+1 by omega)
  go_enter Tryz.func142,Tryz.ntmps142
  go_wp2_with fail
  generalize ((w.alloc _).alloc _).alloc _=W at B ⊢
  obtain⟨G0,t0,t1,t2⟩:=B
  generalize w.heap.size+1+1=b2 at t2 Hb2 Hd02 Hd12 ⊢
  generalize w.heap.size+1=b1 at t1 Hb1 Hd01 Hd12 ⊢
  generalize hb0:w.heap.size=b0 at t0 Hd01 Hd02 ⊢
  have Hb0:=ξ (show ¬ b0 < w.heap.size by omega)
  have G:=ξ G0
  have T0:=ξ t0
  have T1:=ξ t1
  have T2:=ξ t2
  clear hb0 G0 t0 t1 t2
  have HA:=ξ (HA.out.grow G.out)
  have HB:=ξ (HB.out.grow G.out)
  have HN:=ξ (HN.out.grow G.out)
  have HM:=ξ (HM.out.grow G.out)
  refine(Uq W _ _ z z' _ L M HN.out HM.out rfl (by omega) (by omega)).mono ?_
  rintro _ w1 ⟨r1,rfl,g1,h1⟩
  have G:=ξ (G.out.trans g1)
  have T0:=ξ (T0.out.grow g1)
  have T1:=ξ (T1.out.grow g1)
  have T2:=ξ (T2.out.grow g1)
  have HA:=ξ (HA.out.grow g1)
  have HB:=ξ (HB.out.grow g1)
  have HN:=ξ (HN.out.grow g1)
  have HM:=ξ (HM.out.grow g1)
  clear g1
  have H1:=ξ h1
  clear h1
  have HC:=ξ H1.out.1
  obtain⟨p2,k2,c2,rfl⟩:=HC.out.agg
  generalize decide (z+z' < 0)=s2 at HC H1 ⊢
  have HV:=ξ (RatC.ofInt HC.out)
  have T2_0:=T2.out.load.1
  have T2_f0:=T2.out.f0 0
  have T2_1:=T2.out.load.2.1
  have T2_f1:=T2.out.f0 1
  have T2_2:=T2.out.load.2.2
  have T2_f2:=T2.out.f0 2
  go_wp2_with fail
  clear T2_0 T2_f0 T2_1 T2_f1 T2_2 T2_f2
  have hu:=upd3 w1 b2 (.bool s2) (.slice p2 k2 c2) (.slice none 0 0)
  have HV:=ξ (HV.out.upd T2.out.noInt hu)
  have T0:=ξ (T0.out.upd hu Hd02.out)
  have T1:=ξ (T1.out.upd hu Hd12.out)
  have T2:=ξ (T2.out.set (.bool s2) (.slice p2 k2 c2) (.slice none 0 0))
  have G:=ξ (G.out.three Hb2.out (.bool s2) (.slice p2 k2 c2) (.slice none 0 0))
  clear hu
  generalize ((w1.setCell _ _).setCell _ _).setCell _ _=W1 at G T0 T1 T2 HV ⊢
  have T2_0:=T2.out.load.1
  have T2_1:=T2.out.load.2.1
  have T2_2:=T2.out.load.2.2
  refine bodyPost_ret (by simp[results,Tryz.results142,go_sem,T2_0,T2_1,T2_2];rfl) rfl ?_
  exact⟨_,rfl,G.out,HV.out⟩
 ·have h1:¬ (m0:Int)+(m1:Int)=0:=by omega
  clear hd2 hd2' hd3 hd3' hld hld'
  have B:=box333 w (.bool s0) (.slice p0 k0 c0) (.slice e0 m0 n0) (.bool s1) (.slice p1 k1 c1) (.slice e1 m1 n1) (.bool false) (.slice none 0 0) (.slice none 0 0) 68 68 68
  have Hb1:=ξ (show ¬ w.heap.size+1 < w.heap.size by omega)
  have Hb2:=ξ (show ¬ w.heap.size+1+1 < w.heap.size by omega)
  have Hd01:=ξ (show w.heap.size≠w.heap.size+1 by omega)
  have Hd02:=ξ (show w.heap.size≠w.heap.size+1+1 by omega)
  have Hd12:=ξ (show w.heap.size+1≠w.heap.size+1+1 by omega)
  go_enter Tryz.func142,Tryz.ntmps142
  go_wp2_with fail
  generalize ((w.alloc _).alloc _).alloc _=W at B ⊢
  obtain⟨G0,t0,t1,t2⟩:=B
  generalize w.heap.size+1+1=b2 at t2 Hb2 Hd02 Hd12 ⊢
  generalize w.heap.size+1=b1 at t1 Hb1 Hd01 Hd12 ⊢
  generalize hb0:w.heap.size=b0 at t0 Hd01 Hd02 ⊢
  have Hb0:=ξ (show ¬ b0 < w.heap.size by omega)
  have G:=ξ G0
  have T0:=ξ t0
  have T1:=ξ t1
  have T2:=ξ t2
  clear hb0 G0 t0 t1 t2
  have HA:=ξ (HA.out.grow G.out)
  have HB:=ξ (HB.out.grow G.out)
  have HN:=ξ (HN.out.grow G.out)
  have HM:=ξ (HM.out.grow G.out)
  refine(J5l W _ _ z z' q q' (z * (q':Int)+z' * (q:Int)) ((q:Int) * q') (2 * (L+1)+2 * (M+1)+4) L M HA.out HB.out (by omega) (by omega) (by omega) (J01 Hq.out Hq'.out) (fun w' v1 v2 v3 v4 i1 i2 i3 i4=>J1W w' v1 v2 v3 v4 z q z' q' (L+1) (M+1) i1 i2 i3 i4 (by omega) (by omega))).mono ?_
  rintro _ w1 ⟨r1,rfl,g1,h1⟩
  have G:=ξ (G.out.trans g1)
  have T0:=ξ (T0.out.grow g1)
  have T1:=ξ (T1.out.grow g1)
  have T2:=ξ (T2.out.grow g1)
  have HA:=ξ (HA.out.grow g1)
  have HB:=ξ (HB.out.grow g1)
  have HN:=ξ (HN.out.grow g1)
  have HM:=ξ (HM.out.grow g1)
  clear g1
  have H1:=ξ h1
  clear h1
  have HV:=ξ (show RatC _ _ (mkRat z q+mkRat z' q') by have h:=H1.out;rw[V8] at h;rw[Ve _ _ Hq.out Hq'.out];exact h)
  obtain⟨s8,p8,k8,c8,e8,m8,n8,rfl⟩:=H1.out.agg
  have T2_0:=T2.out.load.1
  have T2_f0:=T2.out.f0 0
  have T2_1:=T2.out.load.2.1
  have T2_f1:=T2.out.f0 1
  have T2_2:=T2.out.load.2.2
  have T2_f2:=T2.out.f0 2
  go_wp2_with fail
  clear T2_0 T2_f0 T2_1 T2_f1 T2_2 T2_f2
  have hu:=upd3 w1 b2 (.bool s8) (.slice p8 k8 c8) (.slice e8 m8 n8)
  have HV:=ξ (HV.out.upd T2.out.noInt hu)
  have T0:=ξ (T0.out.upd hu Hd02.out)
  have T1:=ξ (T1.out.upd hu Hd12.out)
  have T2:=ξ (T2.out.set (.bool s8) (.slice p8 k8 c8) (.slice e8 m8 n8))
  have G:=ξ (G.out.three Hb2.out (.bool s8) (.slice p8 k8 c8) (.slice e8 m8 n8))
  clear hu
  generalize ((w1.setCell _ _).setCell _ _).setCell _ _=W1 at G T0 T1 T2 HV ⊢
  have T2_0:=T2.out.load.1
  have T2_1:=T2.out.load.2.1
  have T2_2:=T2.out.load.2.2
  refine bodyPost_ret (by simp[results,Tryz.results142,go_sem,T2_0,T2_1,T2_2];rfl) rfl ?_
  exact⟨_,rfl,G.out,HV.out⟩
theorem J4M (w:World)(va vb:Value)(z z':Int)(q q' L M:Nat)(ha:RatP w va z q L)(hb:RatP w vb z' q' M)(hL:L≤1000)(hM:M≤1000):
  Calls Tryz.prog 143 #[va,vb] w (Ret w fun r w'=>RatC w' r (mkRat z q * mkRat z' q')):=by
 have HA:=ξ ha
 have HB:=ξ hb
 obtain⟨s0,p0,k0,c0,e0,m0,n0,rfl⟩:=ha.agg
 obtain⟨s1,p1,k1,c1,e1,m1,n1,rfl⟩:=hb.agg
 have HN:=ξ (ha.num)
 have HM:=ξ (hb.num)
 obtain⟨d,hd1,hd2,hd3⟩:=ha.den
 obtain⟨d',hd1',hd2',hd3'⟩:=hb.den
 have hld:=hd1.len
 have hld':=hd1'.len
 have Hq:=ξ ha.ne
 have Hq':=ξ hb.ne
 have hm0:(m0:Int)≤1000:=by omega
 have hm1:(m1:Int)≤1000:=by omega
 clear ha hb hd1 hd1'
 by_cases h0:m0=0∧m1=0
 ·obtain⟨rfl,rfl⟩:=h0
  have hq:q=1:=by rw[← hd2,List.eq_nil_of_length_eq_zero hld];rfl
  have hq':q'=1:=by rw[← hd2',List.eq_nil_of_length_eq_zero hld'];rfl
  have HR:=ξ (show((z * z':Int):Rat)=mkRat z q * mkRat z' q' by rw[hq,hq',Qt,Qt];exact Rat.intCast_mul _ _)
  rw[← HR.out]
  clear hq hq' hd2 hd2' hd3 hd3' hld hld' hm0 hm1
  have B:=box333 w (.bool s0) (.slice p0 k0 c0) (.slice e0 0 n0) (.bool s1) (.slice p1 k1 c1) (.slice e1 0 n1) (.bool false) (.slice none 0 0) (.slice none 0 0) 68 68 68
  have Hb1:=ξ (show ¬ w.heap.size+1 < w.heap.size by omega)
  have Hb2:=ξ (show ¬ w.heap.size+1+1 < w.heap.size by omega)
  have Hd01:=ξ (show w.heap.size≠w.heap.size+1 by omega)
  have Hd02:=ξ (show w.heap.size≠w.heap.size+1+1 by omega)
  have Hd12:=ξ (show w.heap.size+1≠w.heap.size+1+1 by omega)
  go_enter Tryz.func143,Tryz.ntmps143
  go_wp2_with fail
  generalize ((w.alloc _).alloc _).alloc _=W at B ⊢
  obtain⟨G0,t0,t1,t2⟩:=B
  generalize w.heap.size+1+1=b2 at t2 Hb2 Hd02 Hd12 ⊢
  generalize w.heap.size+1=b1 at t1 Hb1 Hd01 Hd12 ⊢
  generalize hb0:w.heap.size=b0 at t0 Hd01 Hd02 ⊢
  have Hb0:=ξ (show ¬ b0 < w.heap.size by omega)
  have G:=ξ G0
  have T0:=ξ t0
  have T1:=ξ t1
  have T2:=ξ t2
  clear hb0 G0 t0 t1 t2
  have HA:=ξ (HA.out.grow G.out)
  have HB:=ξ (HB.out.grow G.out)
  have HN:=ξ (HN.out.grow G.out)
  have HM:=ξ (HM.out.grow G.out)
  refine(Nr W _ _ z z' _ L M HN.out HM.out rfl (by omega) (by omega)).mono ?_
  rintro _ w1 ⟨r1,rfl,g1,h1⟩
  have G:=ξ (G.out.trans g1)
  have T0:=ξ (T0.out.grow g1)
  have T1:=ξ (T1.out.grow g1)
  have T2:=ξ (T2.out.grow g1)
  have HA:=ξ (HA.out.grow g1)
  have HB:=ξ (HB.out.grow g1)
  have HN:=ξ (HN.out.grow g1)
  have HM:=ξ (HM.out.grow g1)
  clear g1
  have H1:=ξ h1
  clear h1
  have HC:=ξ H1.out.1
  obtain⟨p2,k2,c2,rfl⟩:=HC.out.agg
  generalize decide (z * z' < 0)=s2 at HC H1 ⊢
  have HV:=ξ (RatC.ofInt HC.out)
  have T2_0:=T2.out.load.1
  have T2_f0:=T2.out.f0 0
  have T2_1:=T2.out.load.2.1
  have T2_f1:=T2.out.f0 1
  have T2_2:=T2.out.load.2.2
  have T2_f2:=T2.out.f0 2
  go_wp2_with fail
  clear T2_0 T2_f0 T2_1 T2_f1 T2_2 T2_f2
  have hu:=upd3 w1 b2 (.bool s2) (.slice p2 k2 c2) (.slice none 0 0)
  have HV:=ξ (HV.out.upd T2.out.noInt hu)
  have T0:=ξ (T0.out.upd hu Hd02.out)
  have T1:=ξ (T1.out.upd hu Hd12.out)
  have T2:=ξ (T2.out.set (.bool s2) (.slice p2 k2 c2) (.slice none 0 0))
  have G:=ξ (G.out.three Hb2.out (.bool s2) (.slice p2 k2 c2) (.slice none 0 0))
  clear hu
  generalize ((w1.setCell _ _).setCell _ _).setCell _ _=W1 at G T0 T1 T2 HV ⊢
  have T2_0:=T2.out.load.1
  have T2_1:=T2.out.load.2.1
  have T2_2:=T2.out.load.2.2
  refine bodyPost_ret (by simp[results,Tryz.results143,go_sem,T2_0,T2_1,T2_2];rfl) rfl ?_
  exact⟨_,rfl,G.out,HV.out⟩
 ·have h1:¬ (m0:Int)+(m1:Int)=0:=by omega
  clear hd2 hd2' hd3 hd3' hld hld'
  have B:=box333 w (.bool s0) (.slice p0 k0 c0) (.slice e0 m0 n0) (.bool s1) (.slice p1 k1 c1) (.slice e1 m1 n1) (.bool false) (.slice none 0 0) (.slice none 0 0) 68 68 68
  have Hb1:=ξ (show ¬ w.heap.size+1 < w.heap.size by omega)
  have Hb2:=ξ (show ¬ w.heap.size+1+1 < w.heap.size by omega)
  have Hd01:=ξ (show w.heap.size≠w.heap.size+1 by omega)
  have Hd02:=ξ (show w.heap.size≠w.heap.size+1+1 by omega)
  have Hd12:=ξ (show w.heap.size+1≠w.heap.size+1+1 by omega)
  go_enter Tryz.func143,Tryz.ntmps143
  go_wp2_with fail
  generalize ((w.alloc _).alloc _).alloc _=W at B ⊢
  obtain⟨G0,t0,t1,t2⟩:=B
  generalize w.heap.size+1+1=b2 at t2 Hb2 Hd02 Hd12 ⊢
  generalize w.heap.size+1=b1 at t1 Hb1 Hd01 Hd12 ⊢
  generalize hb0:w.heap.size=b0 at t0 Hd01 Hd02 ⊢
  have Hb0:=ξ (show ¬ b0 < w.heap.size by omega)
  have G:=ξ G0
  have T0:=ξ t0
  have T1:=ξ t1
  have T2:=ξ t2
  clear hb0 G0 t0 t1 t2
  have HA:=ξ (HA.out.grow G.out)
  have HB:=ξ (HB.out.grow G.out)
  have HN:=ξ (HN.out.grow G.out)
  have HM:=ξ (HM.out.grow G.out)
  refine(J5m W _ _ z z' q q' (z * z') ((q:Int) * q') (2 * (L+1)+2 * (M+1)+4) L M HA.out HB.out (by omega) (by omega) (by omega) (J01 Hq.out Hq'.out) (fun w' v1 v2 v3 v4 i1 i2 i3 i4=>J1Y w' v1 v2 v3 v4 z q z' q' (L+1) (M+1) i1 i2 i3 i4 (by omega) (by omega))).mono ?_
  rintro _ w1 ⟨r1,rfl,g1,h1⟩
  have G:=ξ (G.out.trans g1)
  have T0:=ξ (T0.out.grow g1)
  have T1:=ξ (T1.out.grow g1)
  have T2:=ξ (T2.out.grow g1)
  have HA:=ξ (HA.out.grow g1)
  have HB:=ξ (HB.out.grow g1)
  have HN:=ξ (HN.out.grow g1)
  have HM:=ξ (HM.out.grow g1)
  clear g1
  have H1:=ξ h1
  clear h1
  have HV:=ξ (show RatC _ _ (mkRat z q * mkRat z' q') by have h:=H1.out;rw[V8] at h;rw[Y4];exact h)
  obtain⟨s8,p8,k8,c8,e8,m8,n8,rfl⟩:=H1.out.agg
  have T2_0:=T2.out.load.1
  have T2_f0:=T2.out.f0 0
  have T2_1:=T2.out.load.2.1
  have T2_f1:=T2.out.f0 1
  have T2_2:=T2.out.load.2.2
  have T2_f2:=T2.out.f0 2
  go_wp2_with fail
  clear T2_0 T2_f0 T2_1 T2_f1 T2_2 T2_f2
  have hu:=upd3 w1 b2 (.bool s8) (.slice p8 k8 c8) (.slice e8 m8 n8)
  have HV:=ξ (HV.out.upd T2.out.noInt hu)
  have T0:=ξ (T0.out.upd hu Hd02.out)
  have T1:=ξ (T1.out.upd hu Hd12.out)
  have T2:=ξ (T2.out.set (.bool s8) (.slice p8 k8 c8) (.slice e8 m8 n8))
  have G:=ξ (G.out.three Hb2.out (.bool s8) (.slice p8 k8 c8) (.slice e8 m8 n8))
  clear hu
  generalize ((w1.setCell _ _).setCell _ _).setCell _ _=W1 at G T0 T1 T2 HV ⊢
  have T2_0:=T2.out.load.1
  have T2_1:=T2.out.load.2.1
  have T2_2:=T2.out.load.2.2
  refine bodyPost_ret (by simp[results,Tryz.results143,go_sem,T2_0,T2_1,T2_2];rfl) rfl ?_
  exact⟨_,rfl,G.out,HV.out⟩
theorem Qz (w:World)(va vb:Value)(x y s:Rat)(L M:Nat)(ha:RatV w va x L)(hb:RatV w vb y M)(hs:x+y=s)(hL:L≤1000)(hM:M≤1000):
  Calls Tryz.prog 142 #[va,vb] w (Ret w fun r w'=>RatC w' r s):=by
 obtain⟨z,q,ha2,rfl⟩:=ha.p
 obtain⟨z',q',hb2,rfl⟩:=hb.p
 subst hs
 exact J4K w va vb z z' q q' L M ha2 hb2 hL hM
theorem Nn (w:World)(va vb:Value)(x y s:Rat)(L M:Nat)(ha:RatV w va x L)(hb:RatV w vb y M)(hs:x * y=s)(hL:L≤1000)(hM:M≤1000):
  Calls Tryz.prog 143 #[va,vb] w (Ret w fun r w'=>RatC w' r s):=by
 obtain⟨z,q,ha2,rfl⟩:=ha.p
 obtain⟨z',q',hb2,rfl⟩:=hb.p
 subst hs
 exact J4M w va vb z z' q q' L M ha2 hb2 hL hM
theorem J4N (w:World)(va:Value)(z:Int)(q L:Nat)(ha:RatP w va z q L)(hL:L≤1000):
  Calls Tryz.prog 94 #[va] w (Ret w fun r w'=>RatC w' r (- mkRat z q)):=by
 have HA:=ξ ha
 obtain⟨s0,p0,k0,c0,e0,m0,n0,rfl⟩:=ha.agg
 have HN:=ξ (ha.num)
 have Hq:=ξ ha.ne
 clear ha
 have B:=box33 w (.bool s0) (.slice p0 k0 c0) (.slice e0 m0 n0) (.bool false) (.slice none 0 0) (.slice none 0 0) 68 68
 have Hb1:=ξ (show ¬ w.heap.size+1 < w.heap.size by omega)
 have Hd01:=ξ (show w.heap.size≠w.heap.size+1 by omega)
 go_enter Tryz.func94,Tryz.ntmps94
 go_wp2_with fail
 generalize (w.alloc _).alloc _=W at B ⊢
 obtain⟨G0,t0,t1⟩:=B
 generalize w.heap.size+1=b1 at t1 Hb1 Hd01 ⊢
 generalize hb0:w.heap.size=b0 at t0 Hd01 ⊢
 have Hb0:=ξ (show ¬ b0 < w.heap.size by omega)
 have G:=ξ G0
 have T0:=ξ t0
 have T1:=ξ t1
 clear hb0 G0 t0 t1
 have HA:=ξ (HA.out.grow G.out)
 have HN:=ξ (HN.out.grow G.out)
 refine Jp [(0,true),(1,true),(3,true),(2,false),(4,false),(5,false),(6,false)] (by kernel_rfl) (by kernel_rfl) rfl (by kernel_rfl) (fun _ _ d _ _ h=>by cases d<;>exact h) ?_
 have T0_0:=T0.out.c0
 have T0_1:=T0.out.c1
 have T0_2:=T0.out.c2
 have T1_0:=T1.out.c0
 have T1_1:=T1.out.c1
 have T1_2:=T1.out.c2
 have g0:Gr W W.drew:=(Gr.refl _).drew
 have G:=ξ (G.out.trans g0)
 have T0:=ξ (T0.out.grow g0)
 have T1:=ξ (T1.out.grow g0)
 have HA:=ξ (HA.out.grow g0)
 have HN:=ξ (HN.out.grow g0)
 repeat(refine Jf (v:=?_) g0 rfl rfl (fun w' hg=>?_) (fun K hK=>?_);rotate_left;(go_simp;rfl);go_simp;refine hK _ _ ?_;clear hK K)
 refine Jd (args:=?_) rfl rfl rfl rfl rfl rfl (by kernel_rfl) (by kernel_rfl) ?_ (fun K hK=>?_)
 rotate_left
 ·go_simp;rfl
 refine(Re _ _ z _ L HN.out rfl (by omega)).mono ?_
 rintro _ w1 ⟨r1,rfl,g1,h1⟩
 refine⟨_,rfl,g1,?_⟩
 go_simp
 refine hK _ _ ?_
 clear hK K
 have G:=ξ (G.out.trans g1)
 have T0:=ξ (T0.out.grow g1)
 have T1:=ξ (T1.out.grow g1)
 have HA:=ξ (HA.out.grow g1)
 have HN:=ξ (HN.out.grow g1)
 replace g0:=g0.trans g1
 clear g1
 have H1:=ξ h1
 clear h1
 refine Jd (args:=?_) rfl rfl rfl rfl rfl rfl (by kernel_rfl) (by kernel_rfl) ?_ (fun K hK=>?_)
 rotate_left
 ·go_simp;rfl
 refine(Mi _ _ z q L HA.out (by omega)).mono ?_
 rintro _ w2 ⟨r2,rfl,g2,h2⟩
 refine⟨_,rfl,g2,?_⟩
 go_simp
 refine hK _ _ ?_
 clear hK K
 have G:=ξ (G.out.trans g2)
 have T0:=ξ (T0.out.grow g2)
 have T1:=ξ (T1.out.grow g2)
 have HA:=ξ (HA.out.grow g2)
 have HN:=ξ (HN.out.grow g2)
 have H1:=ξ (H1.out.grow g2)
 replace g0:=g0.trans g2
 clear g2
 have H2:=ξ h2
 clear h2
 refine Jd (args:=?_) rfl rfl rfl rfl rfl rfl (by kernel_rfl) (by kernel_rfl) ?_ (fun K hK=>?_)
 rotate_left
 ·go_simp;rfl
 refine(Q2 _ _ _ (-z) q L (L+1) H1.out.2 H2.out (by have:=Hq.out;omega) (by omega) (by omega)).mono ?_
 rintro _ w3 ⟨r3,rfl,g3,h3⟩
 refine⟨_,rfl,g3,?_⟩
 go_simp
 refine hK _ _ ?_
 clear hK K
 have G:=ξ (G.out.trans g3)
 have T0:=ξ (T0.out.grow g3)
 have T1:=ξ (T1.out.grow g3)
 have HA:=ξ (HA.out.grow g3)
 have HN:=ξ (HN.out.grow g3)
 have H1:=ξ (H1.out.grow g3)
 have H2:=ξ (H2.out.grow g3)
 replace g0:=g0.trans g3
 clear g3
 have H3:=ξ h3
 clear h3
 have HV:=ξ (show RatC _ _ (- mkRat z q) by have h:=H3.out;rw[Rat.divInt_ofNat,Yx] at h;exact h)
 obtain⟨s8,p8,k8,c8,e8,m8,n8,rfl⟩:=H3.out.agg
 clear T1_0 T1_1 T1_2
 have T1_0:=T1.out.load.1
 have T1_f0:=T1.out.f0 0
 have T1_1:=T1.out.load.2.1
 have T1_f1:=T1.out.f0 1
 have T1_2:=T1.out.load.2.2
 have T1_f2:=T1.out.f0 2
 refine Jj rfl rfl (fun K hK=>?_)
 go_simp
 refine⟨fun h=>Bool.noConfusion h,hK _ _ ?_⟩
 clear hK K
 clear T0_0 T0_1 T0_2 T1_0 T1_1 T1_2 T1_f0 T1_f1 T1_f2
 have hu:=upd3 w3 b1 (.bool s8) (.slice p8 k8 c8) (.slice e8 m8 n8)
 have HV:=ξ (HV.out.upd T1.out.noInt hu)
 have T0:=ξ (T0.out.upd hu Hd01.out)
 have T1:=ξ (T1.out.set (.bool s8) (.slice p8 k8 c8) (.slice e8 m8 n8))
 have G:=ξ (G.out.three Hb1.out (.bool s8) (.slice p8 k8 c8) (.slice e8 m8 n8))
 clear hu
 generalize ((w3.setCell _ _).setCell _ _).setCell _ _=W1 at G T0 T1 HV ⊢
 refine Ji ?_
 clear g0
 go_wp2_with fail
 have T1_0:=T1.out.load.1
 have T1_1:=T1.out.load.2.1
 have T1_2:=T1.out.load.2.2
 refine bodyPost_ret (by simp[results,Tryz.results94,go_sem,T1_0,T1_1,T1_2];rfl) rfl ?_
 exact⟨_,rfl,G.out,HV.out⟩
theorem Q0 (w:World)(va:Value)(x s:Rat)(L:Nat)(ha:RatV w va x L)(hs : - x=s)(hL:L≤1000):
  Calls Tryz.prog 94 #[va] w (Ret w fun r w'=>RatC w' r s):=by
 obtain⟨z,q,ha2,rfl⟩:=ha.p
 subst hs
 exact J4N w va z q L ha2 hL
theorem RatV.agg {w:World}{v:Value}{x:Rat}{L:Nat}(h:RatV w v x L):∃ s p k c p' m e,v = .agg #[.bool s,.slice p k c,.slice p' m e]:=by
 obtain⟨z,q,h,-⟩:=h.p;exact h.agg
theorem J5e (w:World)(va vb:Value)(x y s:Rat)(L M:Nat)(ha:RatV w va x L)(hb:RatV w vb y M)(hsy:Sz M (- y))(hs:x - y=s)(hL:L≤1000)(hM:M≤1000):
  Calls Tryz.prog 253 #[va,vb] w (Ret w fun r w'=>RatC w' r s):=by
 have HA:=ξ ha
 have HB:=ξ hb
 obtain⟨s0,p0,k0,c0,e0,m0,n0,rfl⟩:=ha.agg
 obtain⟨s1,p1,k1,c1,e1,m1,n1,rfl⟩:=hb.agg
 clear ha hb
 have B:=box333 w (.bool s0) (.slice p0 k0 c0) (.slice e0 m0 n0) (.bool s1) (.slice p1 k1 c1) (.slice e1 m1 n1) (.bool false) (.slice none 0 0) (.slice none 0 0) 68 68 68
 have Hb1:=ξ (show ¬ w.heap.size+1 < w.heap.size by omega)
 have Hb2:=ξ (show ¬ w.heap.size+1+1 < w.heap.size by omega)
 have Hd01:=ξ (show w.heap.size≠w.heap.size+1 by omega)
 have Hd02:=ξ (show w.heap.size≠w.heap.size+1+1 by omega)
 have Hd12:=ξ (show w.heap.size+1≠w.heap.size+1+1 by omega)
 go_enter Tryz.func253,Tryz.ntmps253
 go_wp2_with fail
 generalize ((w.alloc _).alloc _).alloc _=W at B ⊢
 obtain⟨G0,t0,t1,t2⟩:=B
 generalize w.heap.size+1+1=b2 at t2 Hb2 Hd02 Hd12 ⊢
 generalize w.heap.size+1=b1 at t1 Hb1 Hd01 Hd12 ⊢
 generalize hb0:w.heap.size=b0 at t0 Hd01 Hd02 ⊢
 have Hb0:=ξ (show ¬ b0 < w.heap.size by omega)
 have G:=ξ G0
 have T0:=ξ t0
 have T1:=ξ t1
 have T2:=ξ t2
 clear hb0 G0 t0 t1 t2
 have HA:=ξ (HA.out.grow G.out)
 have HB:=ξ (HB.out.grow G.out)
 refine Jp [(0,true),(1,true),(2,false),(3,false),(4,false)] (by kernel_rfl) (by kernel_rfl) rfl (by kernel_rfl) (fun _ _ d _ _ h=>by cases d<;>exact h) ?_
 have T0_0:=T0.out.c0
 have T0_1:=T0.out.c1
 have T0_2:=T0.out.c2
 have T1_0:=T1.out.c0
 have T1_1:=T1.out.c1
 have T1_2:=T1.out.c2
 have T2_0:=T2.out.c0
 have T2_1:=T2.out.c1
 have T2_2:=T2.out.c2
 have g0:Gr W W.drew:=(Gr.refl _).drew
 have G:=ξ (G.out.trans g0)
 have T0:=ξ (T0.out.grow g0)
 have T1:=ξ (T1.out.grow g0)
 have T2:=ξ (T2.out.grow g0)
 have HA:=ξ (HA.out.grow g0)
 have HB:=ξ (HB.out.grow g0)
 repeat(refine Jf (v:=?_) g0 rfl rfl (fun w' hg=>?_) (fun K hK=>?_);rotate_left;(go_simp;rfl);go_simp;refine hK _ _ ?_;clear hK K)
 refine Jd (args:=?_) rfl rfl rfl rfl rfl rfl (by kernel_rfl) (by kernel_rfl) ?_ (fun K hK=>?_)
 rotate_left
 ·go_simp;rfl
 refine(Q0 _ _ y _ M HB.out rfl hM).mono ?_
 rintro _ w1 ⟨r1,rfl,g1,h1⟩
 refine⟨_,rfl,g1,?_⟩
 go_simp
 refine hK _ _ ?_
 clear hK K
 have G:=ξ (G.out.trans g1)
 have T0:=ξ (T0.out.grow g1)
 have T1:=ξ (T1.out.grow g1)
 have T2:=ξ (T2.out.grow g1)
 have HA:=ξ (HA.out.grow g1)
 have HB:=ξ (HB.out.grow g1)
 replace g0:=g0.trans g1
 clear g1
 have H1:=ξ h1
 clear h1
 refine Jd (args:=?_) rfl rfl rfl rfl rfl rfl (by kernel_rfl) (by kernel_rfl) ?_ (fun K hK=>?_)
 rotate_left
 ·go_simp;rfl
 refine(Qz _ _ _ x (- y) s L M HA.out (H1.out.v hsy) (by rw[← hs,Rat.sub_eq_add_neg]) hL hM).mono ?_
 rintro _ w2 ⟨r2,rfl,g2,h2⟩
 refine⟨_,rfl,g2,?_⟩
 go_simp
 refine hK _ _ ?_
 clear hK K
 have G:=ξ (G.out.trans g2)
 have T0:=ξ (T0.out.grow g2)
 have T1:=ξ (T1.out.grow g2)
 have T2:=ξ (T2.out.grow g2)
 have HA:=ξ (HA.out.grow g2)
 have HB:=ξ (HB.out.grow g2)
 have H1:=ξ (H1.out.grow g2)
 replace g0:=g0.trans g2
 clear g2
 have H2:=ξ h2
 clear h2
 obtain⟨s8,p8,k8,c8,e8,m8,n8,rfl⟩:=H2.out.agg
 clear T2_0 T2_1 T2_2
 have T2_0:=T2.out.load.1
 have T2_f0:=T2.out.f0 0
 have T2_1:=T2.out.load.2.1
 have T2_f1:=T2.out.f0 1
 have T2_2:=T2.out.load.2.2
 have T2_f2:=T2.out.f0 2
 refine Jj rfl rfl (fun K hK=>?_)
 go_simp
 refine⟨fun h=>Bool.noConfusion h,hK _ _ ?_⟩
 clear hK K
 clear T0_0 T0_1 T0_2 T1_0 T1_1 T1_2 T2_0 T2_1 T2_2 T2_f0 T2_f1 T2_f2
 have hu:=upd3 w2 b2 (.bool s8) (.slice p8 k8 c8) (.slice e8 m8 n8)
 have H2:=ξ (H2.out.upd T2.out.noInt hu)
 have T0:=ξ (T0.out.upd hu Hd02.out)
 have T1:=ξ (T1.out.upd hu Hd12.out)
 have T2:=ξ (T2.out.set (.bool s8) (.slice p8 k8 c8) (.slice e8 m8 n8))
 have G:=ξ (G.out.three Hb2.out (.bool s8) (.slice p8 k8 c8) (.slice e8 m8 n8))
 clear hu
 generalize ((w2.setCell _ _).setCell _ _).setCell _ _=W1 at G T0 T1 T2 H2 ⊢
 refine Ji ?_
 clear g0
 go_wp2_with fail
 have T2_0:=T2.out.load.1
 have T2_1:=T2.out.load.2.1
 have T2_2:=T2.out.load.2.2
 refine bodyPost_ret (by simp[results,Tryz.results253,go_sem,T2_0,T2_1,T2_2];rfl) rfl ?_
 exact⟨_,rfl,G.out,H2.out⟩
end Go.Proofs.YtcjgimlcefhhmaaGreatDoor

/- Texts: LeafL Int IntB IntC IntD IntE IntF IntG IntH IntI Rat PrS. -/
import Derived.Test.YtcjgimlcefhhmaaGreatDoorC5
set_option linter.unusedVariables false
set_option linter.unusedSimpArgs false
set_option maxRecDepth 100000
set_option maxHeartbeats 12800000
namespace Go.Proofs.YtcjgimlcefhhmaaGreatDoor
open Go.RowKit
theorem J2d {x:Nat}(h:x≠0)(b:x < BB):1≤Lib.bitLen x∧Lib.bitLen x≤32∧2 ^ (Lib.bitLen x - 1)≤x∧x < 2 ^ Lib.bitLen x:=by
 have a:=Lib.bitLenAux_bounds 64 x (by rw[Jd] at b;omega) h;exact⟨a.1,V3 b,a.2.1,a.2.2⟩
theorem J4r {B k:Nat}(g:(digs B).length=k+2):
  ∃ s:Nat,s≤31∧(32 - (Lib.bitLen (gd (digs B) (k+1)):Int)=(s:Int))∧(digs (B * 2 ^ s)).length=k+2∧2147483648≤gd (digs (B * 2 ^ s)) (k+1):=by
 obtain⟨t,h⟩:∃ t,gd (digs B) (k+1)=t:=⟨_,rfl⟩
 have G:t≠0:=by
  have:=Xp (n:=B) (fun e=>by rw[e,Kr] at g;cases g);rw[g] at this;rw[← h];exact this
 have H:t < BB:=by rw[← h];exact(Dig.digs B).gd _
 obtain⟨v,w,l,m⟩:=J2d G H;rw[h];obtain⟨c,E⟩:∃ c,Lib.bitLen t=c:=⟨_,rfl⟩
 rw[E] at v w l m ⊢;have o:2 ^ c * 2 ^ (32 - c)=BB:=by rw[← Nat.pow_add,show c+(32 - c)=32 from by omega,Jd]
 have p:2 ^ (c - 1) * 2 ^ (32 - c)=2147483648:=by rw[← Nat.pow_add,show c - 1+(32 - c)=31 from by omega]
 have j:=Qj (digs B) (k+1) g;rw[Jf,h] at j;have r:=Ou (Dig.digs B) (k+1);have D:0 < BB ^ (k+1):=Nat.pow_pos Jt;generalize nval ((digs B).take (k+1))=R at *;obtain⟨X,d⟩:∃ X,BB ^ (k+1)=X:=⟨_,rfl⟩
 obtain⟨S,b⟩:∃ S,2 ^ (32 - c)=S:=⟨_,rfl⟩
 have J:1≤S:=by rw[← b];exact Nat.one_le_two_pow
 rw[b] at o p;rw[d] at j r D;have y:2147483648≤t * S:=by rw[← p];exact Nat.mul_le_mul_right _ l
 have z:(t+1) * S≤BB:=by rw[← o];exact Nat.mul_le_mul_right _ m
 have i:B * S=R * S+X * (t * S):=by rw[j,Nat.add_mul,Nat.mul_assoc]
 have F:X * 2147483648≤B * S:=by rw[i];have:=Nat.mul_le_mul_left X y;omega
 have u:B * S < X * BB:=by
  have A:=Nat.mul_le_mul_left X z;rw[Nat.add_mul,Nat.one_mul,Nat.mul_add] at A;have C:(R+1) * S≤X * S:=Nat.mul_le_mul_right _ r;rw[Nat.add_mul,Nat.one_mul] at C;rw[i];omega
 have q:(digs (B * S)).length=k+2:=by
  refine Xq (k:=k+1) ?_ ?_
  ·rw[d];have:X * 1≤X * 2147483648:=Nat.mul_le_mul_left _ (by omega);omega
  ·rw[Nat.pow_succ,d];exact u
 refine⟨32 - c,by omega,by omega,by rw[b];exact q,?_⟩;rw[b];have e:=Qj (digs (B * S)) (k+1) q;rw[Jf] at e;have x:=Ou (Dig.digs (B * S)) (k+1);rw[d] at e x;rw[e] at F;clear e u i;generalize gd (digs (B * S)) (k+1)=f at *;generalize nval ((digs (B * S)).take (k+1))=I at *;refine Nat.le_of_lt_succ (Nat.lt_of_mul_lt_mul_left (a:=X) ?_);show X * 2147483648 < X * (f+1);rw[Nat.mul_add,Nat.mul_one];omega
theorem J3w {b c:List Nat}{k i:Nat}(n:Dig b)(d:Dig c)(g:c.length=k+2)(B:2147483648≤gd c (k+1))(h:nval b < BB ^ (i+1) * nval c):
  gd b (i+k+2)≤gd c (k+1)∧nval b < BB ^ (i+(k+2+1))∧
  (qhat (gd b (i+k+2)) (gd b (i+k+1)) (gd b (i+k)) (gd c (k+1)) (gd c k)=0∨BB ^ i * ((qhat (gd b (i+k+2)) (gd b (i+k+1)) (gd b (i+k)) (gd c (k+1)) (gd c k) - 1) * nval c)≤nval b)∧
  nval b < BB ^ i * ((qhat (gd b (i+k+2)) (gd b (i+k+1)) (gd b (i+k)) (gd c (k+1)) (gd c k)+1) * nval c):=by
 have r:=J4z c k g;have t:=Ou d k;have l:=Ln c d;rw[g] at l;have j:nval b < BB ^ (i+(k+2+1)):=by
  refine Nat.lt_of_lt_of_le h ?_;rw[show i+(k+2+1)=(i+1)+(k+2) from by omega,Nat.pow_add BB (i+1)];exact Nat.mul_le_mul_left _ (Nat.le_of_lt l)
 have p:=J4A n (i+k) (by rw[show i+k+3=i+(k+2+1) from by omega];exact j);have q:=Ou n (i+k);have m:=J5r (I:=BB ^ i) (P:=BB ^ k) (N:=nval b) (Nl:=nval (b.take (i+k))) (V:=nval c) (Vl:=nval (c.take k)) (x:=gd b (i+k+2)) (y:=gd b (i+k+1)) (z:=gd b (i+k)) (f:=gd c (k+1)) (s:=gd c k)
  (by rw[← Nat.pow_add];exact p) (by rw[← Nat.pow_add];exact q) r t (by omega) (by rw[← Nat.mul_assoc,← Nat.pow_succ];exact h)
 refine⟨?_,j,.inr m.1,m.2⟩;refine Nat.le_of_not_lt fun u=>?_
 -- x≥f+1
 have o:nval c < BB ^ (k+1) * (gd c (k+1)+1):=by
  rw[Qj c (k+1) g,Nat.mul_add];have:=Ou d (k+1);omega
 have v:BB ^ (i+1) * nval c≤BB ^ (i+1) * (BB ^ (k+1) * (gd c (k+1)+1)):=Nat.mul_le_mul_left _ (Nat.le_of_lt o);have w:BB ^ (i+1) * (BB ^ (k+1) * (gd c (k+1)+1))≤BB ^ (i+k+2) * gd b (i+k+2):=by
  rw[← Nat.mul_assoc,← Nat.pow_add,show i+1+(k+1)=i+k+2 from by omega];exact Nat.mul_le_mul_left _ u
 have A:BB ^ (i+k+2) * gd b (i+k+2)≤nval b:=by
  have a:=Nm b (i+k+2);rw[K9,Nat.mul_add] at a;omega
 omega
theorem J4g (w:World)(va vb:Value)(u lb:List Nat)(ha:NatL w va u)(hb:NatL w vb lb)(f6:u.length≤1099511627776)(n7:lb.length≤1099511627776)(f9:nval lb≤nval u)(k:Nat)(hk:(digs (nval lb)).length=k+2):
  Calls Tryz.prog 233 #[va,vb] w (Ret w fun r w'=>∃ x y,r = .tuple #[x,y,.int .i64 0]∧NatL w' x (digs (nval u / nval lb))∧NatL w' y (digs (nval u % nval lb))):=by
 obtain⟨HA,HB,o7,k6,o6⟩:=Z5 ha hb f9 (L5 u ha.dig) (L5 lb hb.dig);obtain⟨cz,c4⟩:∃ cz,cmpZ (nval u) (nval lb)=cz:=⟨_,rfl⟩
 have p0:¬ cz < 0:=by rw[← c4,Nw];omega
 have k9:=Z c4;obtain⟨s,c8,hs,f0,f2⟩:=J4r hk;obtain⟨g,a9⟩:∃ n,(digs (nval u)).length=n:=⟨_,rfl⟩
 have p8:k+2≤g:=by
  rw[← a9,← hk];refine Nat.le_of_not_lt fun h=>?_;have:=Ua h;omega
 have p9:g≤1099511627776:=by rw[← a9];exact Nat.le_trans k6.o f6
 obtain⟨W,U,Hs,D,S⟩:=Z5 a9 hk hs f0 f2;have o2:=(Dig.digs (nval lb)).gd (k+1);obtain⟨b2,d3⟩:∃ b2,gd (digs (nval lb)) (k+1)=b2:=⟨_,rfl⟩
 rw[d3,Jd] at o2;have e8:=Z d3;clear ha hb f9 c4 a9 hk hs f0 f2 f6 n7 d3;go_enter Tryz.func233,Tryz.ntmps233;go_wp2_with fail;refine(L3 _ _ u HA.o).mono ?_;rintro _ _ ⟨⟨p,o4,rfl,hr⟩,rfl⟩;obtain rfl:g=o4:=by rw[← hr.len,← W.o];rfl
 have Hr:=Z hr;clear hr;go_wp2_with fail;refine(L3 _ _ lb HB.o).mono ?_;rintro _ _ ⟨⟨q,nb,rfl,P⟩,rfl⟩;obtain rfl:nb=k+2:=by rw[← P.len,← U.o];rfl
 have b8:=Z P;clear P;go_wp2_with fail;refine(Or _ _ _ _ _ Hr.o b8.o (by rw[trimL,W.o];omega) (by rw[trimL,U.o];omega)).mono ?_;rintro _ _ ⟨rfl,rfl⟩;have e1:cmpZ (nval (trimL u)) (nval (trimL lb))=cz:=by rw[← k9.o,trimL,trimL,Jf,Jf]
 rw[e1];clear e1;obtain⟨b,o,rfl,hc⟩:=b8.o.at (k+1) (by rw[trimL,U.o];omega)
 rw[show gd (trimL lb) (k+1)=b2 from e8.o] at hc;go_wp2_with fail;have i7:32 - (Lib.bitLen b2:Int)=s:=by rw[← e8.o];exact Hs.o
 refine(Tryz.bits_LeadingZeros32 _ _ (by omega) (by omega)).mono ?_;rintro _ w0 ⟨rfl,k4⟩;obtain rfl:w=w0:=k4.symm;rw[Int.toNat_natCast,i7];clear i7;go_wp2_with fail;refine(Zx _ _ (trimL u) s Hr.o (by rw[trimL,W.o];omega) c8).mono ?_;rintro _ w1 ⟨rfl,g1,ul,j3,d4,j4⟩;obtain⟨G1,b9⟩:=Z2 g1 j3;have f7:(trimL u).length=g:=W.o;rw[f7] at d4 ⊢;obtain⟨m1,c0,e4⟩:=Z3 d4 (show nval ul=nval u * 2 ^ s by rw[j4,trimL,Jf]) (b8.o.grow g1);clear g1 j3 d4 j4 f7;go_wp2_with fail;refine(Zx _ _ (trimL lb) s e4.o (by rw[trimL,U.o];omega) c8).mono ?_;rintro _ w2 ⟨rfl,g2,vx,d5,b0,k1⟩;obtain⟨G2,e6⟩:=Z2 (G1.o.trans g2) (b9.o.grow g2);have f8:(trimL lb).length=k+2:=U.o;rw[f8] at b0 ⊢;have Q:=d5.read (k+2+1) (by rw[b0];exact Nat.le_refl _) (by omega);rw[b0] at Q;obtain⟨b5,d7⟩:=Z2 (b9.o.lt) (d5.lt);go_wp2_with fail;refine(Uj _ _ _ _ vx Q).mono ?_;rintro _ _ ⟨⟨kk,rfl,hv⟩,rfl⟩;have k3:trimL vx=digs (nval lb * 2 ^ s):=by rw[trimL,k1,trimL,Jf]
 rw[k3] at hv;obtain rfl:kk=k+2:=by rw[← hv.len];exact D.o
 have HV:=Z hv;obtain⟨F,a8⟩:∃ F,w.heap.size=F:=⟨_,rfl⟩
 obtain⟨L,c5⟩:∃ L,w1.heap.size=L:=⟨_,rfl⟩
 rw[a8] at e6 b5;rw[c5] at HV b5 d7;rw[a8,c5];have l2:=Z a8;clear Q d5 b0 k1 f8 hv k3 b9 e4 g2 a8 c5;have p3:F < L:=b5.o;have m9:L < w2.heap.size:=d7.o;obtain⟨M,hM⟩:∃ M,M+(k+2)=g+1:=⟨g - k - 1,by omega⟩
 obtain⟨J,f4⟩:∃ J,w2.heap.size=J:=⟨_,rfl⟩
 have l1:=Z f4;have p4:L < J:=by omega
 clear f4 m9 k4;go_wp2_with (at_make;go_must (refine Qs rfl _ _ 64 rfl (by kernel_rfl) M _ rfl rfl (by omega) (by omega) ?_;rw[l1.o];intro w3 g7 a7 o0));obtain⟨V,hV⟩:∃ V,nval lb * 2 ^ s=V:=⟨_,rfl⟩
 have d8:=Z hV;rw[hV] at HV D S;obtain⟨E,b1⟩:∃ E,digs V=E:=⟨_,rfl⟩
 rw[b1] at HV D S;obtain⟨a0,a5,l8,k7,l6,G3⟩:=Z6 (show nval E=V by rw[← b1,Jf]) (show Dig E by rw[← b1];exact Dig.digs V) (e6.o.grow a7) (HV.o.grow a7) g7 (G2.o.trans a7);have j1:w.heap.size≤F:=by rw[l2.o];exact Nat.le_refl _
 have k5:=Z (show w.heap.size≤w3.heap.size from G3.o.size);have l3:=Z (show nval ul < V * BB ^ M by
  have h1:nval u < BB ^ g:=by have:=Kt (n:=nval u) (k:=g) (by rw[W.o];exact Nat.le_refl _);exact this
  have h2:2 ^ s≤2147483648:=Nat.pow_le_pow_right (by omega) c8;have h3:=Qj E (k+1) D.o;rw[a0.o] at h3;have h4:BB ^ (k+1) * 2147483648≤V:=by have:=Nat.mul_le_mul_left (BB ^ (k+1)) S.o;omega
  have h5:g=(k+1)+M:=by omega
  have h6:nval u * 2 ^ s < BB ^ g * 2147483648:=by
   have a:=Nat.mul_le_mul_left (nval u) h2;have b:=Nat.mul_lt_mul_of_pos_right (k:=2147483648) h1 (by omega);omega
  have h7:=Nat.mul_le_mul_right (BB ^ M) h4;rw[c0.o];refine Nat.lt_of_lt_of_le h6 (Nat.le_trans ?_ h7);rw[h5,Nat.pow_add,Nat.mul_right_comm];exact Nat.le_refl _)
 clear g7 a7 o0 hV b1;go_loopw [14] (fun i w4=>∃ (j:Nat) (m H:List Nat),j≤M∧i = .int .i64 ((j:Int) - 1)∧RowN w4 F m∧m.length=g+1∧RowN w4 J H∧H.length=M∧nval m+V * nval H=nval ul∧nval m < V * BB ^ j∧
   (∀ t,t < j→gd H t=0)∧NatL w4 (.slice (some ⟨L,0,none⟩) (k+2) (k+2)) E∧Own w.heap.size w3 w4) (fun i _=>((intOf i)+1).toNat)
 case atStart=>
  refine⟨M,ul,_,Nat.le_refl _,?_,l8.o,m1.o,l6.o,by simp,by rw[Qi];simp,l3.o,fun t _=>?_,k7.o,Own.refl _ _⟩
  ·rw[show((g:Int)+1 - ((k:Int)+2) - 1)=((M:Int) - 1) from by omega]
  ·unfold gd;rw[List.getD_eq_getElem?_getD,List.getElem?_replicate];split<;>rfl
 case round=>
  obtain⟨j,m,H,hj,rfl,j5,j8,g9,h8,f5,f3,hz,k2,ho⟩:=hrel;obtain⟨A,a2,b6,a1,e0,b4,Hz,a3,Ho⟩:=Z9 j5 j8 g9 h8 f5 f3 hz k2 ho;clear j5 j8 g9 h8 f5 f3 hz k2 ho hc;by_cases n0:j=0
  ·obtain rfl:=n0;rw[show(((0:Nat):Int) - 1) = -1 from rfl];obtain⟨d9,k8⟩:=Z2 (show nval m < V by have:=b4.o;rwa [Nat.pow_zero,Nat.mul_one] at this) (show V < BB ^ (k+2) by have:=Ln E a5.o;rwa [a0.o,D.o] at this);clear b4 Hz;go_wp2_with fail;obtain⟨wo,d6⟩:∃ wo:World,wo=wr:=⟨_,rfl⟩
   rw[← d6];rw[← d6] at A b6 a3 Ho;clear d6;go_loopw [124] (fun i R=>∃ (j:Nat) (v:List Nat),j≤k+2∧i = .int .i64 j∧RowN R F v∧v.length=g+1∧(∀ t,j≤t→gd v t=gd m t)∧
    (∀ t,t < j→gd v t=(gd m (t+1) * BB+gd m t) / 2 ^ s % BB)∧RowN R J H∧Own w.heap.size wo R) (fun i _=>k+2 - (intOf i).toNat)
   case atStart=>exact⟨0,m,by omega,rfl,A.o,a2.o,fun _ _=>rfl,fun _ h=>absurd h (by omega),b6.o,Own.refl _ _⟩
   case round=>
    obtain⟨j,v,p6,rfl,j6,j9,i8,i9,h0,g4⟩:=hrel;obtain⟨O,I,N,e7,e3,e2⟩:=Z6 j6 j9 i8 i9 h0 g4;clear j6 j9 i8 i9 h0 g4;by_cases p7:j < k+2
    ·have Q:=O.o.read (g+1) (by rw[I.o];exact Nat.le_refl _) (by omega);rw[I.o] at Q;have e5:=Z Q;clear Q;have c1:=O.o.cell (i:=j) (by rw[I.o];omega);have f1:=O.o.free j;have u1:=O.o.dig.gd j;have u2:=O.o.dig.gd (j+1);go_wp2_with fail;refine(Mo _ _ v (j+1) e5.o (by omega)).mono ?_;rintro _ _ ⟨rfl,rfl⟩;have g5:=Pb u2 u1;rw[N.o (j+1) (by omega),N.o j (Nat.le_refl _)] at g5;obtain⟨X,hX⟩:∃ X,gd m (j+1) * BB+gd m j=X:=⟨_,rfl⟩
     obtain⟨d1,a6⟩:∃ d,gd v (j+1)=d:=⟨_,rfl⟩
     obtain⟨d0,a4⟩:∃ d,gd v j=d:=⟨_,rfl⟩
     rw[hX,← N.o (j+1) (by omega),← N.o j (Nat.le_refl _),a6,a4] at g5;rw[a6] at u2 ⊢;rw[a4] at u1 c1;have o9:X≤18446744073709551615:=by
      rw[← hX,← N.o (j+1) (by omega),← N.o j (Nat.le_refl _),a6,a4];rw[Jd] at *;omega
     obtain⟨HX,l0⟩:=Z2 hX a4;rw[Jd] at u1 u2;clear hX a6;go_wp2_with fail;refine(Mo _ _ v j e5.o (by omega)).mono ?_;rintro _ _ ⟨rfl,rfl⟩;rw[l0.o];clear a4;go_wp2_with fail;have m6:(X:Int) / 2 ^ s=((X / 2 ^ s:Nat):Int):=by rw[Int.natCast_ediv,Int.natCast_pow];rfl
     have E1:(X:Int) / 2 ^ s % 4294967296=((X / 2 ^ s % BB:Nat):Int):=by rw[m6,Jd];rfl
     refine⟨⟨j+1,v.set j (X / 2 ^ s % BB),by omega,by go_num,O.o.set j _ _ E1 (Nat.mod_lt _ Jt),by rw[List.length_set];exact I.o,?_,?_,e3.o.keep (by omega) (Jp.set _ _ _ _),?_⟩,by simp[intOf];omega⟩
     ·intro T j2;rw[Ma (by omega)];exact N.o T (by omega)
     ·intro T j2;by_cases o1:T=j
      ·subst o1;rw[Yc (by rw[I.o];omega),HX.o]
      ·rw[Ma (by omega)];exact e7.o T (by omega)
     ·exact e2.o.trans (Own.setCell _ j1 _ _)
    ·obtain rfl:j=k+2:=by omega
     go_wp2_with fail;have y9:(0:Int)≤(k:Int)+2:=by omega
     have q2:(k:Int)+2≤(g:Int)+1:=by omega
     have n6:((k:Int)+2).toNat=k+2:=by omega
     refine Lu [(0,true),(2,true),(3,true),(4,true),(1,false),(5,false),(6,true),(7,true),(8,true)] (by kernel_rfl) (by kernel_rfl) rfl (by kernel_rfl) (fun _ _ d _ _ h=>by cases d<;>exact h) ?_;repeat(refine Vm rfl rfl (fun K B=>?_);go_simp;refine⟨_,fun _ _=>rfl,B _ _ ?_⟩;clear B K)
     refine Jj rfl rfl (fun K B=>?_);go_simp;have c7:=e3.o.read M (by rw[a1.o];exact Nat.le_refl _) (by omega);rw[a1.o] at c7;refine(L3 _ _ H (c7.grow (Gr.refl wr).drew)).mono ?_;rintro _ _ ⟨⟨rq,kq,rfl,h9⟩,rfl⟩;refine⟨fun _=>Gr.refl _,B _ _ ?_⟩;clear B K c7;have l9:=Z h9;clear h9;refine Jj rfl rfl (fun K B=>?_);go_simp;have P:=O.o.read (g+1) (by rw[I.o];exact Nat.le_refl _) (by omega);rw[I.o] at P;refine(Rl _ _ (v.take (k+2)) ((P.take (k+2) (g+1) (by rw[I.o];omega) (by omega) (Nat.le_refl _)).grow (Gr.refl wr).drew) (by rw[List.length_take];omega)).mono ?_;rintro _ w6 ⟨rr,rfl,g6,i0⟩;refine⟨fun _=>g6,B _ _ ?_⟩;clear B K P;obtain⟨m0,G6⟩:=Z2 i0 g6;clear i0 g6;repeat(refine Vm rfl rfl (fun K B=>?_);go_simp;refine⟨_,fun _ _=>rfl,B _ _ ?_⟩;clear B K)
     refine Jg ?_;go_wp2_with fail;go_ret3;have e9:0 < 2 ^ s:=Nat.pow_pos (by omega);obtain⟨dq,dr⟩:=J2U e0.o d9.o;rw[c0.o,← d8.o,Nat.mul_div_mul_right _ _ e9] at dq;rw[c0.o,← d8.o,Nat.mul_mod_mul_right] at dr;have o3:nval (m.drop (0+(k+2)))=0:=by
      have:=Nm m (k+2);rw[Nat.zero_add];refine Nat.eq_zero_of_not_pos fun hp=>?_;have h1:=Nat.mul_le_mul_left (BB ^ (k+2)) hp;have h2:=d9.o;have h3:=k8.o;generalize BB ^ (k+2)=Y at *;omega
     have j0:=J6a (J5h (s:=s) (by omega)) m v A.o.dig (k+2) 0 (fun t _ h=>e7.o t (by omega)) o3;rw[List.drop_zero,List.drop_zero,← dr,Nat.mul_div_cancel _ e9] at j0;refine⟨_,rfl,?_,_,_,rfl,?_,?_⟩
     ·exact Gr.trans (Below.trans G3.o (Below.trans Ho.o e2.o)) ((Gr.refl wr).drew.trans G6.o)
     ·have:=l9.o.grow G6.o;rw[trimL,← dq] at this;exact this
     ·have:=m0.o;rw[j0] at this;exact this
  ·obtain⟨i,rfl⟩:∃ i,j=i+1:=⟨j - 1,by omega⟩
   have e1:=Z (show((i+1:Nat):Int) - 1=(i:Int) by omega);rw[e1.o];have c1:=A.o.cell (i:=i+k+2) (by rw[a2.o];omega);have c2:=A.o.cell (i:=i+k+1) (by rw[a2.o];omega);have c3:=A.o.cell (i:=i+k) (by rw[a2.o];omega);obtain⟨bv,ov,m7,d1⟩:=a3.o.at (k+1) (by rw[D.o];omega)
   obtain⟨o8,q1,m8,d2⟩:=a3.o.at k (by rw[D.o];omega)
   cases m7
   cases m8
   rw[Nat.zero_add] at d1 d2;have u1:=A.o.dig.gd (i+k+2);have u2:=A.o.dig.gd (i+k+1);have u3:=A.o.dig.gd (i+k);have v1:=a5.o.gd (k+1);have v2:=a5.o.gd k;have C:=Z (J3w (i:=i) A.o.dig a5.o D.o S.o (by rw[a0.o,Nat.mul_comm];exact b4.o));obtain⟨x,hx⟩:∃ x,gd m (i+k+2)=x:=⟨_,rfl⟩
   obtain⟨y,hy⟩:∃ y,gd m (i+k+1)=y:=⟨_,rfl⟩
   obtain⟨z,hz⟩:∃ z,gd m (i+k)=z:=⟨_,rfl⟩
   obtain⟨f,hf⟩:∃ f,gd E (k+1)=f:=⟨_,rfl⟩
   obtain⟨t,ht⟩:∃ t,gd E k=t:=⟨_,rfl⟩
   rw[hx] at c1 u1 C;rw[hy] at c2 u2 C;rw[hz] at c3 u3 C;rw[hf] at d1 v1 C S;rw[ht] at d2 v2 C;obtain⟨Hx,Hy,m4,Hf,Ht⟩:=Z5 u1 u2 u3 v1 v2;rw[Jd] at u1 u2 u3 v1 v2;clear hx hy hz hf ht;go_wp2_with fail;have i1:IntKind.i64.wrap ((i:Int)+((k:Int)+2))=(i:Int)+((k:Int)+2):=IntWalk.i64_in _ (by omega);have i2:IntKind.i64.wrap ((i:Int)+((k:Int)+2) - 1)=(i:Int)+((k:Int)+2) - 1:=IntWalk.i64_in _ (by omega);have i3:IntKind.i64.wrap ((i:Int)+((k:Int)+2) - 2)=(i:Int)+((k:Int)+2) - 2:=IntWalk.i64_in _ (by omega);have i4:IntKind.i64.wrap ((k:Int)+2 - 1)=(k:Int)+2 - 1:=IntWalk.i64_in _ (by omega);have i5:IntKind.i64.wrap ((k:Int)+2 - 2)=(k:Int)+2 - 2:=IntWalk.i64_in _ (by omega);have n1:((i:Int)+((k:Int)+2)).toNat=i+k+2:=by omega
   have n2:((i:Int)+((k:Int)+2) - 1).toNat=i+k+1:=by omega
   have n3:((i:Int)+((k:Int)+2) - 2).toNat=i+k:=by omega
   have n4:((k:Int)+2 - 1).toNat=k+1:=by omega
   have n5:((k:Int)+2 - 2).toNat=k:=by omega
   have z1:(0:Int)≤(i:Int)+((k:Int)+2):=by omega
   have z2:(0:Int)≤(i:Int)+((k:Int)+2) - 1:=by omega
   have z3:(0:Int)≤(i:Int)+((k:Int)+2) - 2:=by omega
   have z4:(0:Int)≤(k:Int)+2 - 1:=by omega
   have z5:(0:Int)≤(k:Int)+2 - 2:=by omega
   have y1:(i:Int)+((k:Int)+2) < (g:Int)+1:=by omega
   have y2:(i:Int)+((k:Int)+2) - 1 < (g:Int)+1:=by omega
   have y3:(i:Int)+((k:Int)+2) - 2 < (g:Int)+1:=by omega
   have y4:(k:Int)+2 - 1 < (k:Int)+2:=by omega
   have y5:(k:Int)+2 - 2 < (k:Int)+2:=by omega
   have s2:(1:Int)≤(i:Int)+((k:Int)+2):=by omega
   have s3:(2:Int)≤(i:Int)+((k:Int)+2):=by omega
   have s4:(1:Int)≤(k:Int)+2:=by omega
   have s5:(2:Int)≤(k:Int)+2:=by omega
   have x1:IntKind.u64.wrap (x:Int)=(x:Int):=by rw[IntKind.wrap_u64];omega
   have x2:IntKind.u64.wrap (y:Int)=(y:Int):=by rw[IntKind.wrap_u64];omega
   have x3:IntKind.u64.wrap (z:Int)=(z:Int):=by rw[IntKind.wrap_u64];omega
   have x4:IntKind.u64.wrap (f:Int)=(f:Int):=by rw[IntKind.wrap_u64];omega
   have x5:IntKind.u64.wrap (t:Int)=(t:Int):=by rw[IntKind.wrap_u64];omega
   have i6:IntKind.i64.wrap (k:Int)=(k:Int):=IntWalk.i64_in _ (by omega);have y6:(k:Int) < (k:Int)+2:=by omega
   have y7:k < k+2:=by omega
   have y8:(0:Int)≤(k:Int):=by omega
   go_quiet ((go_at_call 276;exact Calls.quiet_of (J4k _ x y z f t Hx.o Hy.o m4.o Hf.o Ht.o S.o C.o.1)))
   clear i1 i2 i3 i4 i5 i6 n1 n2 n3 n4 n5 z1 z2 z3 z4 z5 y1 y2 y3 y4 y5 y6 y7 y8 s2 s3 s4 s5 x1 x2 x3 x4 x5 c1 c2 c3 d1 d2;obtain⟨G,hG⟩:∃ G,qhat x y z f t=G:=⟨_,rfl⟩
   have HG:=Z hG;rw[hG] at C;rw[hG];have m5:=Z (show G < BB by rw[← hG];exact J5p _ _ _ _ _);clear hG;go_wp2_with fail;refine(J4l _ F (g+1) i G _ m E (A.o.grow ((Gr.refl wr).drewN nq)) a2.o (a3.o.grow ((Gr.refl wr).drewN nq)) (by intro b o n c h;cases h;omega) m5.o (by omega) (by rw[D.o];omega) (by rw[D.o];exact C.o.2.1) C.o.2.2.1 C.o.2.2.2).mono ?_;rintro _ R ⟨q',o5,rfl,c6,j7,k0,g3,g0,g8⟩;obtain⟨b3,m2,m3,l5,l4,l7⟩:=Z6 c6 j7 k0 g3 g0 g8;rw[Jd] at g8;have b7:=Z ((b6.o.grow ((Gr.refl wr).drewN nq)).keep (show J≠F by omega) c6);have p1:=b7.o.cell (i:=i) (by rw[a1.o];omega);have p2:=b7.o.free i;clear c6 j7 k0 g3 g0;go_wp2_with fail;have n9:Nt F (.slice (some ⟨L,0,none⟩) (k+2) (k+2)):=by intro b o n c h;cases h;omega
   have n8:Nt J (.slice (some ⟨L,0,none⟩) (k+2) (k+2)):=by intro b o n c h;cases h;omega
   have c9:=Jp.set J R i (.int .u32 q');have p5:=k5.o;have q0:=Ho.o.size;refine⟨⟨i,o5,H.set i q',by omega,rfl,m2.o.keep (by omega) c9,m3.o,b7.o.set i q' _ rfl l7.o,by rw[List.length_set];exact a1.o,?_,?_,?_,?_,?_⟩,by simp[intOf]⟩
   ·have h1:=Ot (l:=H) (i:=i) q' (by rw[a1.o];omega);rw[Hz.o i (by omega),Nat.mul_zero,Nat.add_zero] at h1;rw[h1,Nat.mul_add,← e0.o,← l5.o,a0.o,Nat.mul_comm q' V,Nat.mul_left_comm V];omega
   ·have h2:=l4.o;rw[a0.o,Nat.mul_comm] at h2;exact h2
   ·intro T j2;rw[Ma (by omega)];exact Hz.o T (by omega)
   ·exact((a3.o.grow ((Gr.refl wr).drewN nq)).keep n9 b3.o).keep n8 c9
   ·refine Ho.o.trans ((Own.drewN _ wr nq).trans ((b3.o.own ?_ j1).trans (c9.own ?_ (by omega))))
    ·show w.heap.size≤wr.heap.size;omega
    ·have:=b3.o.size;show w.heap.size≤R.heap.size;have h3:wr.heap.size≤R.heap.size:=this;omega
theorem Zs (w:World)(b c:Value)(a lb:List Nat)(d:NatL w b a)(f:NatL w c lb)(i:a.length≤1099511627776)(j:lb.length≤1099511627776)(h:nval lb≠0):
  Calls Tryz.prog 233 #[b,c] w (Ret w fun r w'=>∃ x y,r = .tuple #[x,y,.int .i64 0]∧NatL w' x (digs (nval a / nval lb))∧NatL w' y (digs (nval a % nval lb))):=by
 rcases Nat.lt_or_ge (nval a) (nval lb) with l|g
 ·exact J4f w b c a lb d f (by omega) (by omega) l
 ·match hk:(digs (nval lb)).length with
  | 0=>exact absurd (Ka.1 (List.eq_nil_of_length_eq_zero hk)) h
  | 1=>exact J4h w b c a lb d f (by omega) (by omega) g hk
  | k+2=>exact J4g w b c a lb d f i j g k hk
def IntL (w:World)(v:Value)(n:Bool)(l:List Nat):Prop:=∃ p k c,v = .agg #[.bool n,.slice p k c]∧NatL w (.slice p k c) l
theorem IntL.grow {w w':World}{v:Value}{n:Bool}{l:List Nat}(h:IntL w v n l)(g:Gr w w'):IntL w' v n l:=by
 obtain⟨p,k,c,rfl,h⟩:=h;exact⟨p,k,c,rfl,h.grow g⟩
def zval (n:Bool)(l:List Nat):Int:=if n then -(nval l:Int) else nval l
def IntC (w:World)(v:Value)(z:Int):Prop:=IntL w v (decide (z < 0)) (digs z.natAbs)
theorem IntC.grow {w w':World}{v:Value}{z:Int}(h:IntC w v z)(g:Gr w w'):IntC w' v z:=IntL.grow h g
def Two (w:World)(b:Nat)(x y:Value):Prop:=∃ t,w.heap[b]?=some (.cells #[x,y] t (0,0))
theorem Two.lt {w:World}{b:Nat}{x y:Value}(h:Two w b x y):b < w.heap.size:=by
 obtain⟨t,h⟩:=h;rcases Nat.lt_or_ge b w.heap.size with a|a
 ·exact a
 ·rw[Array.getElem?_eq_none a] at h;cases h
theorem Two.grow {w w':World}{b:Nat}{x y:Value}(h:Two w b x y)(g:Gr w w'):Two w' b x y:=by
 have a:=h.lt;obtain⟨t,h⟩:=h;exact⟨t,by rw[Below.block g b a];exact h⟩
theorem Two.c0 {w:World}{b:Nat}{x y:Value}(h:Two w b x y):∀ w',Gr w w'→w'.cell? ⟨b,0,none⟩=some x:=fun w' g=>by
 obtain⟨t,h⟩:=h.grow g;simp[World.cell?,h]
theorem Two.c1 {w:World}{b:Nat}{x y:Value}(h:Two w b x y):∀ w',Gr w w'→w'.cell? ⟨b,1,none⟩=some y:=fun w' g=>by
 obtain⟨t,h⟩:=h.grow g;simp[World.cell?,h]
theorem Two.f0 {w:World}{b:Nat}{x y:Value}(h:Two w b x y)(i:Nat):w.frozen? ⟨b,i,none⟩=false:=by
 obtain⟨t,h⟩:=h;simp[World.frozen?,h]
theorem Two.set {w:World}{b:Nat}{x y:Value}(h:Two w b x y)(u v:Value):Two ((w.setCell ⟨b,0,none⟩ u).setCell ⟨b,1,none⟩ v) b u v:=by
 obtain⟨t,h⟩:=h;refine⟨t,?_⟩;simp[World.setCell,Array.getElem?_modify,h]
theorem Two.other {w:World}{b b':Nat}{x y:Value}(h:Two w b x y)(a:b≠b')(u v:Value):Two ((w.setCell ⟨b',0,none⟩ u).setCell ⟨b',1,none⟩ v) b x y:=by
 obtain⟨t,h⟩:=h;refine⟨t,?_⟩;rw[Below.heap_setCell _ _ _ _ a,Below.heap_setCell _ _ _ _ a];exact h
theorem Two.new (w:World)(x y:Value)(t:TypeId):Two (w.alloc (.cells #[x,y] t)) w.heap.size x y:=⟨t,heap_alloc_new w _⟩
theorem boxed1 (w:World)(x y:Value)(t:TypeId):Gr w (w.alloc (.cells #[x,y] t))∧Two (w.alloc (.cells #[x,y] t)) w.heap.size x y:=
 ⟨(Gr.refl w).alloc _,Two.new w x y t⟩
theorem boxed2 (w:World)(x y a b:Value)(t c:TypeId):Gr w ((w.alloc (.cells #[x,y] t)).alloc (.cells #[a,b] c))∧
  Two ((w.alloc (.cells #[x,y] t)).alloc (.cells #[a,b] c)) w.heap.size x y∧Two ((w.alloc (.cells #[x,y] t)).alloc (.cells #[a,b] c)) (w.heap.size+1) a b:=by
 obtain⟨g,h⟩:=boxed1 w x y t;obtain⟨d,f⟩:=boxed1 (w.alloc (.cells #[x,y] t)) a b c;rw[World.size_alloc] at f;exact⟨g.trans d,h.grow d,f⟩
theorem boxed3 (w:World)(x y a b d f:Value)(t c h:TypeId):Gr w (((w.alloc (.cells #[x,y] t)).alloc (.cells #[a,b] c)).alloc (.cells #[d,f] h))∧
  Two (((w.alloc (.cells #[x,y] t)).alloc (.cells #[a,b] c)).alloc (.cells #[d,f] h)) w.heap.size x y∧
  Two (((w.alloc (.cells #[x,y] t)).alloc (.cells #[a,b] c)).alloc (.cells #[d,f] h)) (w.heap.size+1) a b∧
  Two (((w.alloc (.cells #[x,y] t)).alloc (.cells #[a,b] c)).alloc (.cells #[d,f] h)) (w.heap.size+1+1) d f:=by
 obtain⟨g,k,l⟩:=boxed2 w x y a b t c;obtain⟨i,j⟩:=boxed1 ((w.alloc (.cells #[x,y] t)).alloc (.cells #[a,b] c)) d f h;rw[World.size_alloc,World.size_alloc] at j;exact⟨g.trans i,k.grow i,l.grow i,j⟩
theorem IntL.mk {w:World}{n:Bool}{m:Value}{l:List Nat}(h:NatL w m l):IntL w (.agg #[.bool n,m]) n l:=by
 obtain⟨p,c,rfl,-⟩:=h.parts;exact⟨p,_,c,rfl,h⟩
theorem Two.load {w:World}{b:Nat}{x y:Value}(h:Two w b x y):w.cell? ⟨b,0,none⟩=some x∧w.cell? ⟨b,1,none⟩=some y:=⟨h.c0 w (Gr.refl w),h.c1 w (Gr.refl w)⟩
theorem IntC.of {w:World}{m:Value}{n:Bool}{a:Nat}(h:NatL w m (digs a)):IntC w (.agg #[.bool (n && decide (0 < a)),m]) (if n then -(a:Int) else a):=by
 have b:(n && decide (0 < a))=decide ((if n then -(a:Int) else a) < 0):=by
  rcases n with _|_<;>simp<;>omega
 have c:(if n then -(a:Int) else a).natAbs=a:=by
  rcases n with _|_<;>simp
 unfold IntC;rw[b,c];exact IntL.mk h
theorem J3P (w:World)(n:Bool)(m:Value)(l:List Nat)(h:NatL w m l)(o:l.length≤17592186044416):
  Calls Tryz.prog 191 #[.bool n,m] w (Ret w fun r w'=>r = .agg #[.bool (n && decide (0 < nval l)),m]):=by
 have f:=Z h;obtain⟨p,c,rfl,-⟩:=h.parts;have j:=Z (boxed1 w (.bool false) (.slice none 0 0) 66);have g:=Z (show(0 < bitsN (nval l))↔0 < nval l from⟨fun h=>by
  rcases Nat.eq_zero_or_pos (nval l) with a|a
  ·rw[a,V5] at h;omega
  ·exact a,fun h=>Ss (by omega)⟩)
 clear h;obtain⟨k,d⟩:∃ k,l.length=k:=⟨_,rfl⟩
 rw[d] at f ⊢;have s:=Z d;clear d;rcases n with _|_
 ·go_enter Tryz.func191,Tryz.ntmps191;go_wp2_with fail;refine bodyPost_ret (v:=.agg #[.bool false,.slice p k c]) (by simp[results,Tryz.results191,go_sem]) rfl ?_;exact⟨_,rfl,(Gr.refl w).alloc _,rfl⟩
 ·go_enter Tryz.func191,Tryz.ntmps191;go_wp2_with fail;refine(Qh _ _ l (f.o.grow j.o.1) o).mono ?_;rintro _ _ ⟨rfl,rfl⟩;by_cases i:0 < bitsN (nval l)
  ·have q:(0:Int) < (bitsN (nval l):Int):=by omega
   have b:=Z (g.o.1 i);go_wp2_with fail;refine bodyPost_ret (v:=.agg #[.bool true,.slice p k c]) (by simp[results,Tryz.results191,go_sem]) rfl ?_;exact⟨_,rfl,(Gr.refl w).alloc _,by simp[b.o]⟩
  ·have q:¬ (0:Int) < (bitsN (nval l):Int):=by omega
   have b:=Z (show ¬ 0 < nval l from fun h=>i (g.o.2 h));go_wp2_with fail;refine bodyPost_ret (v:=.agg #[.bool false,.slice p k c]) (by simp[results,Tryz.results191,go_sem]) rfl ?_;exact⟨_,rfl,(Gr.refl w).alloc _,by simp[b.o]⟩
theorem M6 (w:World)(n:Bool)(m:Value)(a:Nat)(z:Int)(h:NatL w m (digs a))(d:(digs a).length≤17592186044416)(g:(if n then -(a:Int) else a)=z):
  Calls Tryz.prog 191 #[.bool n,m] w (Ret w fun r w'=>IntC w' r z):=
 (J3P w n m (digs a) h d).mono fun e w' ⟨v,c,b,f⟩=>⟨v,c,b,by subst f;rw[Jf,← g];exact IntC.of (h.grow b)⟩
theorem NatL.keepBox {w:World}{v:Value}{l:List Nat}(h:NatL w v l){b:Nat}{s:Bool}{p:Option Addr}{k c:Nat}(t:Two w b (.bool s) (.slice p k c))(u z:Value):
  NatL ((w.setCell ⟨b,0,none⟩ u).setCell ⟨b,1,none⟩ z) v l:=by
 obtain⟨j,q,d,rfl,m,r,f⟩:=h;refine⟨j,q,d,rfl,m,r,?_⟩;rcases f with f|⟨b',o,rfl,x⟩
 ·exact .inl f
 ·refine .inr ⟨b',o,rfl,fun i y=>?_⟩;have a:=x i y;have g:b'≠b:=by
   intro e;subst e;obtain⟨ty,t⟩:=t;simp only[World.cell?,t] at a
   match ho:o+i with
   | 0=>simp[ho] at a
   | 1=>simp[ho] at a
   | n+2=>simp[ho] at a
  rw[World.cell?_of_block (w:=w) (by rw[Below.heap_setCell _ _ _ _ g,Below.heap_setCell _ _ _ _ g])];exact a
theorem N6 (base:Nat)(w:World){b:Nat}(a:base≤b)(u v:Value):Own base w ((w.setCell ⟨b,0,none⟩ u).setCell ⟨b,1,none⟩ v):=
 (Own.setCell w a 0 u).trans (Own.setCell _ a 1 v)
theorem Ku {w f:World}{z:Int}{b:Nat}{s sg:Bool}{p d:Option Addr}{k c a c3:Nat}(i:w.heap.size≤b)(g:Gr w f)(t:Two f b (.bool s) (.slice p k c))(h:NatL f (.slice d a c3) (digs z.natAbs))(j:sg=decide (z < 0)):
  Ret w (fun r w'=>IntC w' r z) (.returned (.agg #[.bool sg,.slice d a c3])) ((f.setCell ⟨b,0,none⟩ (.bool sg)).setCell ⟨b,1,none⟩ (.slice d a c3)):=by
 refine⟨_,rfl,Below.trans g (N6 _ _ i _ _),?_⟩;subst j;exact⟨d,a,c3,rfl,h.keepBox t _ _⟩
theorem Ny {a b:Nat}{k:Nat}(c:(digs a).length≤k)(d:(digs b).length≤k):(digs (a+b)).length≤k+1:=by
 have f:=Kt c;have g:=Kt d;refine Kj (Nat.lt_of_lt_of_le ?_ (Un k));generalize BB ^ k=X at *;omega
theorem Ok {a b:Nat}{k m:Nat}(f:(digs a).length≤k)(g:(digs b).length≤m):(digs (a * b)).length≤k+m:=by
 have c:=Kt f;have d:=Kt g;refine Kj ?_;rw[Nat.pow_add];exact Nat.mul_lt_mul'' c d
theorem Kh {a b:Nat}(h:a≤b):(digs a).length≤(digs b).length:=by
 refine Kj ?_;have:=Kt (n:=b) (Nat.le_refl _);omega
theorem Kk {l:List Nat}(h:Dig l):(digs (nval l)).length≤l.length:=L5 l h
theorem J03 {a lb:List Nat}{k:Nat}(d:Dig a)(f:Dig lb)(b:a.length≤k)(c:lb.length≤k):(digs (nval a+nval lb)).length≤k+1:=
 Ny (Nat.le_trans (Kk d) b) (Nat.le_trans (Kk f) c)
theorem J73 (n:Bool)(a lb:List Nat):(if n then -((nval a+nval lb:Nat):Int) else ((nval a+nval lb:Nat):Int))=zval n a+zval n lb:=by
 unfold zval;rcases n with _|_<;>simp<;>omega
theorem J1K (n n':Bool)(b:n≠n')(a lb:List Nat)(h:nval lb≤nval a):(if n then -((nval a - nval lb:Nat):Int) else ((nval a - nval lb:Nat):Int))=zval n a+zval n' lb:=by
 unfold zval;rcases n with _|_<;>rcases n' with _|_<;>simp at b ⊢<;>omega
theorem J3F (w:World)(y A:Value)(n:Bool)(i lb:List Nat)(z:Int)(x:zval n i+zval n lb=z)(f:IntL w y n i)(g:IntL w A n lb)(Q:i.length≤1099511627776)(R:lb.length≤1099511627776):
  Calls Tryz.prog 199 #[y,A] w (Ret w fun r w'=>IntC w' r z):=by
 have J:=Z (show _=z from(J73 n i lb).trans x);clear x;obtain⟨X,T,O,rfl,f⟩:=f;obtain⟨Y,U,P,rfl,g⟩:=g;obtain⟨C,D,E⟩:=Z3 f g (J03 f.dig g.dig Q R);clear f g;have q:=boxed3 w (.bool n) (.slice X T O) (.bool n) (.slice Y U P) (.bool false) (.slice none 0 0) 66 66 66;go_enter Tryz.func199,Tryz.ntmps199;go_wp2_with fail;generalize ((w.alloc _).alloc _).alloc _=W at q ⊢;obtain⟨s,o,tb,p⟩:=q;obtain⟨k,F⟩:=Z2 s p;have a0:=o.c0;have L:=o.c1;have M:=tb.c0;have N:=tb.c1;have a2:=p.lt;clear s o tb p;have c:Gr W W.drew:=(Gr.refl W).drew;refine Lu [(0,true),(1,true),(2,true),(3,true),(4,true),(5,true),(6,false),(7,false),(8,false)] (by kernel_rfl) (by kernel_rfl) rfl (by kernel_rfl) (fun _ _ d _ _ h=>by cases d<;>exact h) ?_;repeat(refine Jc c (h:=?_))
 refine Jj rfl rfl (fun K a=>?_);go_simp;refine(Qg _ _ _ i lb ((C.o.grow k.o).grow c) ((D.o.grow k.o).grow c) (by omega) (by omega)).mono ?_;rintro _ w2 ⟨r,rfl,l,u⟩;refine⟨fun _=>l,a _ _ ?_⟩;clear a K;obtain⟨B,G⟩:=Z2 (c.trans l) u;clear l u;refine Jj rfl rfl (fun K a=>?_);go_simp;refine(M6 _ n r _ _ G.o (Nat.le_trans E.o (by omega)) J.o).mono ?_;rintro _ w3 ⟨r3,rfl,g3,j⟩;refine⟨fun _=>g3,a _ _ ?_⟩;clear a K;obtain⟨V,S,c3,rfl,j⟩:=j;obtain⟨sg,m⟩:∃ sg,sg=decide (z < 0):=⟨_,rfl⟩
 rw[← m];obtain⟨I,t,H⟩:=Z3 m (B.o.trans g3) j;have b:=Z (F.o.grow t.o);have r0:=b.o.load.1;have r1:=b.o.load.2;have f0:=b.o.f0 0;have f1:=b.o.f0 1;clear g3 j a0 L M N c m;refine Jj rfl rfl (fun K a=>?_);go_simp;refine⟨fun h=>Bool.noConfusion h,a _ _ ?_⟩;clear a K;refine Jg ?_;go_wp2_with fail;refine bodyPost_ret (v:=.agg #[.bool sg,.slice V S c3]) (by simp[results,Tryz.results199,go_sem,r0,r1]) rfl ?_;exact Ku (by omega) (k.o.trans t.o) b.o H.o I.o
theorem J3E (w:World)(B C:Value)(n n':Bool)(o:n≠n')(a lb:List Nat)(z:Int)(A:zval n a+zval n' lb=z)(c:IntL w B n a)(f:IntL w C n' lb)(S:a.length≤1099511627776)(a3:lb.length≤1099511627776)(m:nval lb≤nval a):
  Calls Tryz.prog 199 #[B,C] w (Ret w fun r w'=>IntC w' r z):=by
 obtain⟨M,I⟩:=Z2 (show _=z from(J1K n n' o a lb m).trans A) m;obtain⟨j,l⟩:∃ j,cmpZ (nval a) (nval lb)=j:=⟨_,rfl⟩
 have a2:¬ j < 0:=by rw[← l,Nw];omega
 have H:=Z l;have a4:(n == n')=false:=by simpa using o
 clear A m l;obtain⟨Y,U,Q,rfl,c⟩:=c;obtain⟨pb,V,R,rfl,f⟩:=f;obtain⟨u,x,E⟩:=Z3 c f (Nat.le_trans (Kh (Nat.sub_le (nval a) (nval lb))) (Nat.le_trans (Kk c.dig) S));clear c f o;have d:=boxed3 w (.bool n) (.slice Y U Q) (.bool n') (.slice pb V R) (.bool false) (.slice none 0 0) 66 66 66;go_enter Tryz.func199,Tryz.ntmps199;go_wp2_with fail;refine(Or _ _ _ a lb (u.o.grow d.1) (x.o.grow d.1) (by omega) (by omega)).mono ?_;rintro _ _ ⟨rfl,rfl⟩;rw[H.o];generalize ((w.alloc _).alloc _).alloc _=W at d ⊢;obtain⟨s,h,tb,q⟩:=d;obtain⟨i,F,G⟩:=Z3 s q h;have a0:=h.load.1;have N:=h.load.2;have O:=tb.load.1;have P:=tb.load.2;have a5:=q.lt;clear s h tb q;go_wp2_with fail;refine(Zu _ _ _ a lb (u.o.grow i.o) (x.o.grow i.o) (by omega) (by omega) I.o).mono ?_;rintro _ w2 ⟨_,rfl,k,r,rfl,y⟩;obtain⟨D,J⟩:=Z2 k y;clear y a0 N O P;have a0:=G.o.c0 w2 k;clear k;go_wp2_with fail;refine(M6 _ n r _ _ J.o (Nat.le_trans E.o (by omega)) M.o).mono ?_;rintro _ w3 ⟨r3,rfl,g3,g⟩;obtain⟨X,T,c3,rfl,g⟩:=g;obtain⟨sg,p⟩:∃ sg,sg=decide (z < 0):=⟨_,rfl⟩
 rw[← p];obtain⟨L,t,K⟩:=Z3 p (D.o.trans g3) g;have b:=Z (F.o.grow t.o);have r0:=b.o.load.1;have r1:=b.o.load.2;have f0:=b.o.f0 0;have f1:=b.o.f0 1;clear g3 g a0 p;go_wp2_with fail;refine bodyPost_ret (v:=.agg #[.bool sg,.slice X T c3]) (by simp[results,Tryz.results199,go_sem,r0,r1]) rfl ?_;exact Ku (by omega) (i.o.trans t.o) b.o K.o L.o
theorem J3G (w:World)(T U:Value)(n n':Bool)(x:n≠n')(a lb:List Nat)(z:Int)(M:zval n a+zval n' lb=z)(q:IntL w T n a)(l:IntL w U n' lb)(b6:a.length≤1099511627776)(b4:lb.length≤1099511627776)(s:nval a < nval lb):
  Calls Tryz.prog 199 #[T,U] w (Ret w fun r w'=>IntC w' r z):=by
 obtain⟨Hz,a3,a2⟩:=Z3 (show _=z from(J1K n' n (Ne.symm x) lb a (Nat.le_of_lt s)).trans (by rw[Int.add_comm];exact M)) (Nat.le_of_lt s) (Pc s);have b7:(n == n')=false:=by simpa using x
 clear M s;obtain⟨i,h,g,rfl,q⟩:=q;obtain⟨f,d,c,rfl,l⟩:=l;obtain⟨E,F,X⟩:=Z3 q l (Nat.le_trans (Kh (Nat.sub_le (nval lb) (nval a))) (Nat.le_trans (Kk l.dig) b4));clear q l x;have m:=boxed3 w (.bool n) (.slice i h g) (.bool n') (.slice f d c) (.bool false) (.slice none 0 0) 66 66 66;go_enter Tryz.func199,Tryz.ntmps199;go_wp2_with fail;refine(Or _ _ _ a lb (E.o.grow m.1) (F.o.grow m.1) (by omega) (by omega)).mono ?_;rintro _ _ ⟨rfl,rfl⟩;rw[a2.o];generalize ((w.alloc _).alloc _).alloc _=W at m ⊢;obtain⟨C,j,tb,B⟩:=m;obtain⟨p,G,o,H⟩:=Z4 C B j tb;have a0:=j.load.1;have a1:=j.load.2;have b0:=tb.load.1;have b1:=tb.load.2;have a6:=j.f0 0;have a7:=j.f0 1;have a8:=tb.f0 0;have a9:=tb.f0 1;have b5:=B.lt;clear C j tb B;go_wp2_with fail;clear a0 a1 b0 b1 a6 a7 a8 a9;have J:=((E.o.grow p.o).keepBox o.o (.bool n') (.slice f d c))
 have K:=((F.o.grow p.o).keepBox o.o (.bool n') (.slice f d c))
 have P:=o.o.set (.bool n') (.slice f d c);have A:=H.o.other (b':=w.heap.size) (by omega) (.bool n') (.slice f d c);have R:=G.o.other (b':=w.heap.size) (by omega) (.bool n') (.slice f d c);have N:=N6 w.heap.size W (b:=w.heap.size) (Nat.le_refl _) (.bool n') (.slice f d c);generalize (W.setCell _ _).setCell _ _=I at *;obtain⟨b2,b3⟩:=Z2 (J.keepBox A (.bool n) (.slice i h g)) (K.keepBox A (.bool n) (.slice i h g));have Q:=P.other (b':=w.heap.size+1) (by omega) (.bool n) (.slice i h g);have S:=Z (R.other (b':=w.heap.size+1) (by omega) (.bool n) (.slice i h g));have O:=N6 w.heap.size I (b:=w.heap.size+1) (by omega) (.bool n) (.slice i h g);generalize (I.setCell _ _).setCell _ _=W2 at *;obtain⟨O2,Y⟩:=Z2 (Below.trans p.o (Below.trans N O)) Q;have b8:=S.o.lt;clear J K P A R N O Q o H G b5 p;refine(Zu _ _ _ lb a b3.o b2.o (by omega) (by omega) a3.o).mono ?_;rintro _ w2 ⟨_,rfl,u,r,rfl,L⟩;obtain⟨V,Hr⟩:=Z2 u L;clear L;have a0:=Y.o.c0 w2 u;clear u;go_wp2_with fail;refine(M6 _ n' r _ _ Hr.o (Nat.le_trans X.o (by omega)) Hz.o).mono ?_;rintro _ w3 ⟨r3,rfl,g3,t⟩;obtain⟨p3,k3,c3,rfl,t⟩:=t;obtain⟨sg,y⟩:∃ sg,sg=decide (z < 0):=⟨_,rfl⟩
 rw[← y];obtain⟨a5,D,a4⟩:=Z3 y (V.o.trans g3) t;have k:=Z (S.o.grow D.o);have r0:=k.o.load.1;have r1:=k.o.load.2;have f0:=k.o.f0 0;have f1:=k.o.f0 1;clear g3 t a0 y;go_wp2_with fail;refine bodyPost_ret (v:=.agg #[.bool sg,.slice p3 k3 c3]) (by simp[results,Tryz.results199,go_sem,r0,r1]) rfl ?_;exact Ku (by omega) (Gr.trans O2.o D.o) k.o a4.o a5.o
theorem Yt (w:World)(b c:Value)(n n':Bool)(a lb:List Nat)(z:Int)(k:zval n a+zval n' lb=z)(d:IntL w b n a)(f:IntL w c n' lb)(g:a.length≤1099511627776)(i:lb.length≤1099511627776):
  Calls Tryz.prog 199 #[b,c] w (Ret w fun r w'=>IntC w' r z):=by
 by_cases j:n=n'
 ·subst j;exact J3F w b c n a lb z k d f g i
 ·rcases Nat.lt_or_ge (nval a) (nval lb) with h|h
  ·exact J3G w b c n n' j a lb z k d f g i h
  ·exact J3E w b c n n' j a lb z k d f g i h
theorem J1L (n n':Bool)(a lb:List Nat):(if (n != n') then -((nval a * nval lb:Nat):Int) else ((nval a * nval lb:Nat):Int))=zval n a * zval n' lb:=by
 unfold zval;rcases n with _|_<;>rcases n' with _|_<;>simp[Int.natCast_mul,Int.neg_mul,Int.mul_neg]
theorem J75 (n:Bool)(a:List Nat):(if (!n) then -((nval a:Nat):Int) else ((nval a:Nat):Int)) = - zval n a:=by
 unfold zval;rcases n with _|_<;>simp
theorem Ts (w:World)(y A:Value)(n n':Bool)(i lb:List Nat)(z:Int)(x:zval n i * zval n' lb=z)(f:IntL w y n i)(g:IntL w A n' lb)(Q:i.length≤1099511627776)(R:lb.length≤1099511627776):
  Calls Tryz.prog 131 #[y,A] w (Ret w fun r w'=>IntC w' r z):=by
 have J:=Z (show _=z from(J1L n n' i lb).trans x);clear x;obtain⟨X,T,O,rfl,f⟩:=f;obtain⟨Y,U,P,rfl,g⟩:=g;obtain⟨C,D,E⟩:=Z3 f g (Ok (Nat.le_trans (Kk f.dig) Q) (Nat.le_trans (Kk g.dig) R));clear f g;have q:=boxed3 w (.bool n) (.slice X T O) (.bool n') (.slice Y U P) (.bool false) (.slice none 0 0) 66 66 66;go_enter Tryz.func131,Tryz.ntmps131;go_wp2_with fail;generalize ((w.alloc _).alloc _).alloc _=W at q ⊢;obtain⟨s,o,tb,p⟩:=q;obtain⟨k,F⟩:=Z2 s p;have a0:=o.c0;have L:=o.c1;have M:=tb.c0;have N:=tb.c1;have a2:=p.lt;clear s o tb p;have c:Gr W W.drew:=(Gr.refl W).drew;refine Lu [(0,true),(1,true),(2,true),(3,true),(4,true),(5,true),(6,true),(7,true),(8,true),(9,false),(10,false),(11,false)] (by kernel_rfl) (by kernel_rfl) rfl (by kernel_rfl) (fun _ _ d _ _ h=>by cases d<;>exact h) ?_;repeat(refine Jc c (h:=?_))
 refine Jj rfl rfl (fun K a=>?_);go_simp;refine(Ug _ _ _ i lb ((C.o.grow k.o).grow c) ((D.o.grow k.o).grow c) (by omega) (by omega)).mono ?_;rintro _ w2 ⟨r,rfl,l,u⟩;refine⟨fun _=>l,a _ _ ?_⟩;clear a K;obtain⟨B,G⟩:=Z2 (c.trans l) u;clear l u;refine Jj rfl rfl (fun K a=>?_);go_simp;refine(M6 _ (n != n') r _ _ G.o (Nat.le_trans E.o (by omega)) J.o).mono ?_;rintro _ w3 ⟨r3,rfl,g3,j⟩;refine⟨fun _=>g3,a _ _ ?_⟩;clear a K;obtain⟨V,S,c3,rfl,j⟩:=j;obtain⟨sg,m⟩:∃ sg,sg=decide (z < 0):=⟨_,rfl⟩
 rw[← m];obtain⟨I,t,H⟩:=Z3 m (B.o.trans g3) j;have b:=Z (F.o.grow t.o);have r0:=b.o.load.1;have r1:=b.o.load.2;have f0:=b.o.f0 0;have f1:=b.o.f0 1;clear g3 j a0 L M N c m;refine Jj rfl rfl (fun K a=>?_);go_simp;refine⟨fun h=>Bool.noConfusion h,a _ _ ?_⟩;clear a K;refine Jg ?_;go_wp2_with fail;refine bodyPost_ret (v:=.agg #[.bool sg,.slice V S c3]) (by simp[results,Tryz.results131,go_sem,r0,r1]) rfl ?_;exact Ku (by omega) (k.o.trans t.o) b.o H.o I.o
theorem Yv (w:World)(x:Value)(n:Bool)(b:List Nat)(z:Int)(u : - zval n b=z)(f:IntL w x n b)(J:b.length≤1099511627776):
  Calls Tryz.prog 147 #[x] w (Ret w fun r w'=>IntC w' r z):=by
 have G:=Z (show _=z from(J75 n b).trans u);clear u;obtain⟨O,M,I,rfl,f⟩:=f;obtain⟨A,B⟩:=Z2 f (Nat.le_trans (Kk f.dig) J);clear f;have p:=boxed2 w (.bool n) (.slice O M I) (.bool false) (.slice none 0 0) 66 66;go_enter Tryz.func147,Tryz.ntmps147;go_wp2_with fail;generalize (w.alloc _).alloc _=W at p ⊢;obtain⟨q,m,o⟩:=p;obtain⟨t,C⟩:=Z2 q o;have a0:=m.c0;have H:=m.c1;have T:=o.lt;clear q m o;have g:Gr W W.drew:=(Gr.refl W).drew;refine Lu [(0,true),(1,true),(2,true),(3,true),(4,true),(5,false),(6,false),(7,false)] (by kernel_rfl) (by kernel_rfl) rfl (by kernel_rfl) (fun _ _ d _ _ h=>by cases d<;>exact h) ?_;repeat(refine Jc g (h:=?_))
 refine Jj rfl rfl (fun K a=>?_);go_simp;refine(Qg _ _ _ b [] ((A.o.grow t.o).grow g) (NatL.nil _) (by omega) (by simp)).mono ?_;rintro _ V ⟨r,rfl,j,k⟩;refine⟨fun _=>j,a _ _ ?_⟩;clear a K;rw[show nval b+nval []=nval b from rfl] at k;obtain⟨y,D⟩:=Z2 (g.trans j) k;clear j k;refine Jj rfl rfl (fun K a=>?_);go_simp;refine(M6 _ (!n) r _ _ D.o (Nat.le_trans B.o (by omega)) G.o).mono ?_;rintro _ X ⟨U,rfl,g3,i⟩;refine⟨fun _=>g3,a _ _ ?_⟩;clear a K;obtain⟨N,L,c3,rfl,i⟩:=i;obtain⟨sg,l⟩:∃ sg,sg=decide (z < 0):=⟨_,rfl⟩
 rw[← l];obtain⟨F,s,E⟩:=Z3 l (y.o.trans g3) i;have c:=Z (C.o.grow s.o);have P:=c.o.load.1;have Q:=c.o.load.2;have R:=c.o.f0 0;have S:=c.o.f0 1;clear g3 i a0 H g l;refine Jj rfl rfl (fun K a=>?_);go_simp;refine⟨fun h=>Bool.noConfusion h,a _ _ ?_⟩;clear a K;refine Jg ?_;go_wp2_with fail;refine bodyPost_ret (v:=.agg #[.bool sg,.slice N L c3]) (by simp[results,Tryz.results147,go_sem,P,Q]) rfl ?_;exact Ku (by omega) (t.o.trans s.o) c.o E.o F.o
theorem Mx (z:Int):zval (decide (z < 0)) (digs z.natAbs)=z:=by
 unfold zval;rw[Jf];by_cases h:z < 0
 ·simp[h];omega
 ·simp[h];omega
theorem Tt (w:World)(E F:Value)(n n':Bool)(f lb:List Nat)(z:Int)(B:zval n f - zval n' lb=z)(i:IntL w E n f)(b:IntL w F n' lb)(T:f.length≤1099511627776)(y:lb.length≤1099511627776):
  Calls Tryz.prog 194 #[E,F] w (Ret w fun r w'=>IntC w' r z):=by
 have O:=Z (show zval n f+zval (decide (-zval n' lb < 0)) (digs (-zval n' lb).natAbs)=z by rw[Mx,← B];omega);have I:=Z (show(digs (-zval n' lb).natAbs).length≤1099511627776 by
  obtain⟨D,C,x,rfl,b⟩:=b;have e:(-zval n' lb).natAbs=nval lb:=by unfold zval;rcases n' with _|_<;>simp
  rw[e];exact Nat.le_trans (Kk b.dig) y)
 clear B;obtain⟨H,G⟩:=Z2 b i;obtain⟨Y,V,S,rfl,i⟩:=i;obtain⟨D,C,x,rfl,b⟩:=b;clear i b;have q:=boxed3 w (.bool n) (.slice Y V S) (.bool n') (.slice D C x) (.bool false) (.slice none 0 0) 66 66 66;go_enter Tryz.func194,Tryz.ntmps194;go_wp2_with fail;generalize ((w.alloc _).alloc _).alloc _=W at q ⊢;obtain⟨s,o,tb,p⟩:=q;obtain⟨k,J⟩:=Z2 s p;have a0:=o.c0;have P:=o.c1;have Q:=tb.c0;have R:=tb.c1;have a2:=p.lt;clear s o tb p;have g:Gr W W.drew:=(Gr.refl W).drew;refine Lu [(0,true),(1,true),(2,false),(3,false),(4,false)] (by kernel_rfl) (by kernel_rfl) rfl (by kernel_rfl) (fun _ _ d _ _ h=>by cases d<;>exact h) ?_;repeat(refine Jc g (h:=?_))
 refine Jj rfl rfl (fun K a=>?_);go_simp;refine(Yv _ _ n' lb _ rfl (H.o.grow (k.o.trans g)) y).mono ?_;rintro _ w2 ⟨r,rfl,l,A⟩;refine⟨fun _=>l,a _ _ ?_⟩;clear a K;obtain⟨t,L⟩:=Z2 (g.trans l) A;clear l A;refine Jj rfl rfl (fun K a=>?_);go_simp;refine(Yt _ _ _ n _ f _ z O.o (G.o.grow (k.o.trans t.o)) L.o T I.o).mono ?_;rintro _ w3 ⟨r3,rfl,g3,j⟩;refine⟨fun _=>g3,a _ _ ?_⟩;clear a K;obtain⟨X,U,c3,rfl,j⟩:=j;obtain⟨sg,m⟩:∃ sg,sg=decide (z < 0):=⟨_,rfl⟩
 rw[← m];obtain⟨N,u,M⟩:=Z3 m (t.o.trans g3) j;have c:=Z (J.o.grow u.o);have r0:=c.o.load.1;have r1:=c.o.load.2;have f0:=c.o.f0 0;have f1:=c.o.f0 1;clear g3 j a0 P Q R g m;refine Jj rfl rfl (fun K a=>?_);go_simp;refine⟨fun h=>Bool.noConfusion h,a _ _ ?_⟩;clear a K;refine Jg ?_;go_wp2_with fail;refine bodyPost_ret (v:=.agg #[.bool sg,.slice X U c3]) (by simp[results,Tryz.results194,go_sem,r0,r1]) rfl ?_;exact Ku (by omega) (k.o.trans u.o) c.o M.o N.o
def sgn (z:Int):Int:=if z < 0 then -1 else if z=0 then 0 else 1
theorem J66 (n:Bool)(l:List Nat):sgn (zval n l)=if nval l=0 then 0 else if n then -1 else 1:=by
 unfold sgn zval;by_cases h:nval l=0
 ·simp[h]
 ·have a:(0:Int) < nval l:=by omega
  rcases n with _|_<;>simp[h]<;>omega
theorem Qd (w:World)(k:Value)(n:Bool)(a:List Nat)(z:Int)(b:sgn (zval n a)=z)(f:IntL w k n a)(s:a.length≤1099511627776):
  Calls Tryz.prog 193 #[k] w (Ret w fun r w'=>r = .int .i64 z):=by
 rw[J66] at b;obtain⟨q,p,m,rfl,f⟩:=f;have g:=Z f;have i:nval a=0→bitsN (nval a)=0:=fun h=>by rw[h];rfl
 have j:nval a≠0→bitsN (nval a)≠0:=fun h=>by have:=Ss h;omega
 have c:=Z ((Gr.refl w).alloc (.cells #[.bool n,.slice q p m] 66));clear f;by_cases d:nval a=0
 ·rw[if_pos d] at b;have l:=Z (i d);subst b;clear i j d;go_enter Tryz.func193,Tryz.ntmps193;go_wp2_with fail;refine(Qh _ _ a (g.o.grow c.o) (by omega)).mono ?_;rintro _ _ ⟨rfl,rfl⟩;rw[l.o];go_wp2_with fail;go_ret;exact⟨_,rfl,c.o,rfl⟩
 ·rw[if_neg d] at b;have o:=j d;have t:((bitsN (nval a):Int) == 0)=false:=by simpa using o
  clear i j d;rcases n with _|_
  ·simp at b;subst b;go_enter Tryz.func193,Tryz.ntmps193;go_wp2_with fail;refine(Qh _ _ a (g.o.grow c.o) (by omega)).mono ?_;rintro _ _ ⟨rfl,rfl⟩;go_wp2_with fail;go_ret;exact⟨_,rfl,c.o,rfl⟩
  ·simp at b;subst b;go_enter Tryz.func193,Tryz.ntmps193;go_wp2_with fail;refine(Qh _ _ a (g.o.grow c.o) (by omega)).mono ?_;rintro _ _ ⟨rfl,rfl⟩;go_wp2_with fail;go_ret;exact⟨_,rfl,c.o,rfl⟩
theorem J65 (a b:Int):sgn (a - b)=cmpZ a b:=by
 unfold sgn cmpZ;by_cases c:a < b
 ·rw[if_pos (by omega),if_pos c]
 ·rw[if_neg (by omega),if_neg c];by_cases d:a=b
  ·rw[if_pos (by omega),if_pos d]
  ·rw[if_neg (by omega),if_neg d]
theorem J78 {n n':Bool}{a lb:List Nat}{k:Nat}(c:Dig a)(d:Dig lb)(f:a.length≤k)(g:lb.length≤k):(digs (zval n a - zval n' lb).natAbs).length≤k+1:=by
 refine Nat.le_trans (Kh (b:=nval a+nval lb) ?_) (J03 c d f g);unfold zval;rcases n with _|_<;>rcases n' with _|_<;>simp<;>omega
theorem IntL.dig {w:World}{v:Value}{n:Bool}{l:List Nat}(h:IntL w v n l):Dig l:=by
 obtain⟨p,k,c,rfl,h⟩:=h;exact h.dig
theorem J3H (w:World)(j k:Value)(n n':Bool)(a lb:List Nat)(z:Int)(i:cmpZ (zval n a) (zval n' lb)=z)(b:IntL w j n a)(c:IntL w k n' lb)(x:a.length≤549755813888)(y:lb.length≤549755813888):
  Calls Tryz.prog 130 #[j,k] w (Ret w fun r w'=>r = .int .i64 z):=by
 obtain⟨p,o,q,t⟩:=Z4 c b (J78 (n:=n) (n':=n') b.dig c.dig x y) (show sgn (zval (decide (zval n a - zval n' lb < 0)) (digs (zval n a - zval n' lb).natAbs))=z by rw[Mx,J65];exact i);clear i;obtain⟨C,A,u,rfl,b⟩:=b;obtain⟨D,B,v,rfl,c⟩:=c;clear b c;obtain⟨f,-⟩:=boxed2 w (.bool n) (.slice C A u) (.bool n') (.slice D B v) 66 66;have d:=Z f;clear f;go_enter Tryz.func130,Tryz.ntmps130;go_wp2_with fail;refine(Tt _ _ _ n n' a lb _ rfl (o.o.grow d.o) (p.o.grow d.o) (by omega) (by omega)).mono ?_;rintro _ E ⟨r,rfl,g,h⟩;obtain⟨s,l⟩:=Z2 h g;clear h g;go_wp2_with fail;refine(Qd _ _ _ _ z t.o s.o (Nat.le_trans q.o (by omega))).mono ?_;rintro _ F ⟨_,rfl,g3,rfl⟩;have m:=Z g3;clear g3;go_wp2_with fail;go_ret;exact⟨_,rfl,d.o.trans (l.o.trans m.o),rfl⟩
theorem M9 (w:World)(n:Bool)(m:Value)(l:List Nat)(z:Int)(C:zval n l=z)(h:NatL w m l)(D:l.length≤17592186044416):
  Calls Tryz.prog 104 #[.bool n,m] w (Ret w fun r w'=>IntC w' r z):=by
 obtain⟨s,b⟩:=Z2 h (boxed1 w (.bool false) (.slice none 0 0) 66);subst C;clear h;rcases n with _|_
 ·go_enter Tryz.func104,Tryz.ntmps104;go_wp2_with fail;refine(Lq _ _ l (s.o.grow b.o.1) (by omega)).mono ?_;rintro _ q ⟨r,rfl,g1,d⟩;obtain⟨f,i⟩:=Z2 d g1;obtain⟨p,c,rfl,-⟩:=d.parts;have a:=Z (b.o.2.grow g1);have j:=a.o.load.1;have o:=a.o.load.2;have y:=a.o.f0 0;have A:=a.o.f0 1;obtain⟨k,g⟩:∃ k,(trimL l).length=k:=⟨_,rfl⟩
  simp only[g];rw[g] at f;clear d g1;go_wp2_with fail;refine bodyPost_ret (v:=.agg #[.bool false,.slice p k c]) (by simp[results,Tryz.results104,go_sem,j,o]) rfl ?_;refine Ku (Nat.le_refl _) (b.o.1.trans i.o) a.o ?_ ?_
  ·show NatL q _ (digs (zval false l).natAbs);rw[show(zval false l).natAbs=nval l from by unfold zval;simp];exact f.o
  ·unfold zval;simp
 ·go_enter Tryz.func104,Tryz.ntmps104;go_wp2_with fail;refine(Lq _ _ l (s.o.grow b.o.1) (by omega)).mono ?_;rintro _ q ⟨r,rfl,g1,d⟩;obtain⟨f,i⟩:=Z2 d g1;obtain⟨p,c,rfl,-⟩:=d.parts;have a:=Z (b.o.2.grow g1);have j:=a.o.load.1;have o:=a.o.load.2;have y:=a.o.f0 0;have A:=a.o.f0 1;obtain⟨k,g⟩:∃ k,(trimL l).length=k:=⟨_,rfl⟩
  have x:0 < k↔zval true l < 0:=by
   rw[← g,trimL,List.length_pos_iff,ne_eq,Ka];unfold zval;simp;omega
  simp only[g];rw[g] at f;clear d g1;have t:=Z x;clear x;by_cases u:0 < k
  ·have B:(0:Int) < (k:Int):=by omega
   go_wp2_with fail;refine bodyPost_ret (v:=.agg #[.bool true,.slice p k c]) (by simp[results,Tryz.results104,go_sem,j,o]) rfl ?_;refine Ku (Nat.le_refl _) (b.o.1.trans i.o) a.o ?_ ?_
   ·show NatL q _ (digs (zval true l).natAbs);rw[show(zval true l).natAbs=nval l from by unfold zval;simp];exact f.o
   ·have:=t.o.1 u;simp[this]
  ·have B:¬ (0:Int) < (k:Int):=by omega
   go_wp2_with fail;refine bodyPost_ret (v:=.agg #[.bool false,.slice p k c]) (by simp[results,Tryz.results104,go_sem,j,o]) rfl ?_;refine Ku (Nat.le_refl _) (b.o.1.trans i.o) a.o ?_ ?_
   ·show NatL q _ (digs (zval true l).natAbs);rw[show(zval true l).natAbs=nval l from by unfold zval;simp];exact f.o
   ·exact(decide_eq_false (fun h=>u (t.o.2 h))).symm
theorem IntC.len {w:World}{v:Value}{z:Int}(h:IntC w v z):Dig (digs z.natAbs):=Dig.digs _
theorem Oy (w:World)(l:Value)(n:Bool)(d:List Nat)(z:Int)(j:zval n d=z)(b:IntL w l n d)(G:d.length≤1099511627776):
  Calls Tryz.prog 165 #[l] w (Ret w fun r w'=>IntC w' r z):=by
 have s:=Z j;clear j;obtain⟨A,x,t,rfl,b⟩:=b;have m:=Z b;clear b;obtain⟨g,D,k⟩:=boxed2 w (.bool n) (.slice A x t) (.bool false) (.slice none 0 0) 66 66;obtain⟨i,o⟩:=Z2 g k;clear g D k;go_enter Tryz.func165,Tryz.ntmps165;go_wp2_with fail;refine(M9 _ n _ d z s.o (m.o.grow i.o) (by omega)).mono ?_;rintro _ I ⟨H,rfl,g3,c⟩;obtain⟨y,u,c3,rfl,c⟩:=c;obtain⟨sg,f⟩:∃ sg,sg=decide (z < 0):=⟨_,rfl⟩
 rw[← f];obtain⟨q,h,p⟩:=Z3 f g3 c;have a:=Z (o.o.grow h.o);have B:=a.o.load.1;have C:=a.o.load.2;have E:=a.o.f0 0;have F:=a.o.f0 1;clear g3 c f;go_wp2_with fail;refine bodyPost_ret (v:=.agg #[.bool sg,.slice y u c3]) (by simp[results,Tryz.results165,go_sem,B,C]) rfl ?_;exact Ku (by omega) (i.o.trans h.o) a.o p.o q.o
theorem J0C (w:World)(l:Value)(n:Bool)(b:List Nat)(z:Int)(j : - zval n b=z)(c:IntL w l n b)(G:b.length≤1099511627776):
  Calls Tryz.prog 166 #[l] w (Ret w fun r w'=>IntC w' r z):=by
 have s:=Z (show zval (!n) b=z by rw[← j];unfold zval;rcases n with _|_<;>simp);clear j;obtain⟨A,x,t,rfl,c⟩:=c;have m:=Z c;clear c;obtain⟨g,D,k⟩:=boxed2 w (.bool n) (.slice A x t) (.bool false) (.slice none 0 0) 66 66;obtain⟨i,o⟩:=Z2 g k;clear g D k;go_enter Tryz.func166,Tryz.ntmps166;go_wp2_with fail;refine(M9 _ (!n) _ b z s.o (m.o.grow i.o) (by omega)).mono ?_;rintro _ I ⟨H,rfl,g3,d⟩;obtain⟨y,u,c3,rfl,d⟩:=d;obtain⟨sg,f⟩:∃ sg,sg=decide (z < 0):=⟨_,rfl⟩
 rw[← f];obtain⟨q,h,p⟩:=Z3 f g3 d;have a:=Z (o.o.grow h.o);have B:=a.o.load.1;have C:=a.o.load.2;have E:=a.o.f0 0;have F:=a.o.f0 1;clear g3 d f;go_wp2_with fail;refine bodyPost_ret (v:=.agg #[.bool sg,.slice y u c3]) (by simp[results,Tryz.results166,go_sem,B,C]) rfl ?_;exact Ku (by omega) (i.o.trans h.o) a.o p.o q.o
theorem twice {w:World}{B:Nat}{n n' f s s':Bool}{r t d p p':Option Addr}{o j q m b a k c k' c':Nat}
  (g:Two w B (.bool n) (.slice r o j)) (tb:Two w (B+1) (.bool n') (.slice t q m)) (x:Two w (B+1+1) (.bool f) (.slice d b a)):
  Two ((((w.setCell ⟨B,0,none⟩ (.bool s)).setCell ⟨B,1,none⟩ (.slice p k c)).setCell ⟨B+1,0,none⟩ (.bool s')).setCell ⟨B+1,1,none⟩ (.slice p' k' c')) B (.bool s) (.slice p k c)∧
  Two ((((w.setCell ⟨B,0,none⟩ (.bool s)).setCell ⟨B,1,none⟩ (.slice p k c)).setCell ⟨B+1,0,none⟩ (.bool s')).setCell ⟨B+1,1,none⟩ (.slice p' k' c')) (B+1) (.bool s') (.slice p' k' c')∧
  Two ((((w.setCell ⟨B,0,none⟩ (.bool s)).setCell ⟨B,1,none⟩ (.slice p k c)).setCell ⟨B+1,0,none⟩ (.bool s')).setCell ⟨B+1,1,none⟩ (.slice p' k' c')) (B+1+1) (.bool f) (.slice d b a)∧
  (∀ v l,NatL w v l→NatL ((((w.setCell ⟨B,0,none⟩ (.bool s)).setCell ⟨B,1,none⟩ (.slice p k c)).setCell ⟨B+1,0,none⟩ (.bool s')).setCell ⟨B+1,1,none⟩ (.slice p' k' c')) v l)∧
  Own B w ((((w.setCell ⟨B,0,none⟩ (.bool s)).setCell ⟨B,1,none⟩ (.slice p k c)).setCell ⟨B+1,0,none⟩ (.bool s')).setCell ⟨B+1,1,none⟩ (.slice p' k' c')):=by
 have u:=g.set (.bool s) (.slice p k c);have i:=tb.other (b':=B) (by omega) (.bool s) (.slice p k c);have y:=x.other (b':=B) (by omega) (.bool s) (.slice p k c);refine⟨u.other (by omega) _ _,i.set _ _,y.other (by omega) _ _,fun v l h=>(h.keepBox g _ _).keepBox i _ _,(N6 B w (Nat.le_refl _) _ _).trans (N6 B _ (by omega) _ _)⟩
theorem J5F (w:World)(v:Value)(n:Bool)(i:List Nat)(z:Int)(t:sgn (zval n i)=z)(m:IntL w v n i)(D:i.length≤1099511627776):
  Calls Tryz.prog 109 #[v] w (Ret w fun r w'=>r = .int .i64 z):=by
 have x:=Z m;obtain⟨G,E,C,rfl,m⟩:=m;clear m;obtain⟨s,u⟩:=boxed1 w (.bool n) (.slice G E C) 66;obtain⟨k,A,B⟩:=Z3 s u t;clear s t u;go_enter Tryz.func109,Tryz.ntmps109;go_wp2_with fail;refine(Oy _ _ n i _ rfl (x.o.grow k.o) D).mono ?_;rintro _ I ⟨N,rfl,g3,o⟩;obtain⟨F,f,c3,rfl,o⟩:=o;have j:=Z g3;have b:=o.len;have l:=Z (A.o.grow j.o);have L:=l.o.load.1;have M:=l.o.load.2;have J:=l.o.f0 0;have K:=l.o.f0 1;obtain⟨y,q⟩:∃ y,zval n i=y:=⟨_,rfl⟩
 rw[q] at b ⊢;obtain⟨p,d⟩:=Z2 (show sgn y=z by rw[← q];exact B.o) (N6 w.heap.size I (Nat.le_refl w.heap.size) (.bool (decide (y < 0))) (.slice F f c3));clear g3 o q;rcases Int.lt_trichotomy y 0 with h|h|h
 ·have c:f≠0:=by
   rw[← b];intro e;have:=Ka.1 (List.eq_nil_of_length_eq_zero e);omega
  have H:((f:Int) == 0)=false:=by simpa using c
  have a:decide (y < 0)=true:=by simpa using h
  rw[a] at d ⊢;have g:=Z (show z = -1 by rw[← p.o];unfold sgn;rw[if_pos h]);clear b a h c;go_wp2_with fail;go_ret;exact⟨_,rfl,Below.trans (k.o.trans j.o) d.o,by rw[g.o];rfl⟩
 ·have c:f=0:=by rw[← b,h];simp[Kr]
  have a:decide (y < 0)=false:=by simp;omega
  rw[a] at d ⊢;have g:=Z (show z=0 by rw[← p.o];unfold sgn;rw[if_neg (by omega),if_pos h]);subst c;clear b a h;go_wp2_with fail;go_ret;exact⟨_,rfl,Below.trans (k.o.trans j.o) d.o,by rw[g.o];rfl⟩
 ·have c:f≠0:=by
   rw[← b];intro e;have:=Ka.1 (List.eq_nil_of_length_eq_zero e);omega
  have H:((f:Int) == 0)=false:=by simpa using c
  have a:decide (y < 0)=false:=by simp;omega
  rw[a] at d ⊢;have g:=Z (show z=1 by rw[← p.o];unfold sgn;rw[if_neg (by omega),if_neg (by omega)]);clear b a h c;go_wp2_with fail;go_ret;exact⟨_,rfl,Below.trans (k.o.trans j.o) d.o,by rw[g.o];rfl⟩
theorem absmul (a b:Int):(if ((decide (a < 0)) != (decide (b < 0))) then -((a.natAbs * b.natAbs:Nat):Int) else ((a.natAbs * b.natAbs:Nat):Int))=a * b:=by
 have:=J1L (decide (a < 0)) (decide (b < 0)) (digs a.natAbs) (digs b.natAbs);rw[Mx,Mx,Jf,Jf] at this;exact this
theorem J5D (w:World)(va vb:Value)(n n':Bool)(g lb:List Nat)(z:Int)(hz:zval n g * zval n' lb=z)(o:IntL w va n g)(q:IntL w vb n' lb)(a2:g.length≤1099511627776)(a3:lb.length≤1099511627776):
  Calls Tryz.prog 159 #[va,vb] w (Ret w fun r w'=>IntC w' r z):=by
 obtain⟨a6,a7⟩:=Z2 o q;obtain⟨x,D⟩:∃ x,zval n g=x:=⟨_,rfl⟩
 obtain⟨y,E⟩:∃ y,zval n' lb=y:=⟨_,rfl⟩
 have P:(digs x.natAbs).length≤1099511627776:=by
  have e:x.natAbs=nval g:=by rw[← D];unfold zval;rcases n with _|_<;>simp
  rw[e];exact Nat.le_trans (Kk o.dig) a2
 have Q:(digs y.natAbs).length≤1099511627776:=by
  have e:y.natAbs=nval lb:=by rw[← E];unfold zval;rcases n' with _|_<;>simp
  rw[e];exact Nat.le_trans (Kk q.dig) a3
 obtain⟨Hx,Hy,b8,b9,HL⟩:=Z5 D E P Q (Ok P Q);have G:=Z (show zval ((decide (x < 0)) != (decide (y < 0))) (digs (x.natAbs * y.natAbs))=z by
  rw[← hz,D,E];unfold zval;rw[Jf];exact absmul x y)
 obtain⟨pa,ka,ca,rfl,o⟩:=o;obtain⟨pb,kb,cb,rfl,q⟩:=q;clear o q hz D E P Q;have R:=boxed3 w (.bool n) (.slice pa ka ca) (.bool n') (.slice pb kb cb) (.bool false) (.slice none 0 0) 66 66 66;go_enter Tryz.func159,Tryz.ntmps159;go_wp2_with fail;generalize ((w.alloc _).alloc _).alloc _=W at R ⊢;obtain⟨S,b,tb,f⟩:=R;obtain⟨F,V,X,Y⟩:=Z4 S b tb f;have a0:=b.c0;have j:=b.c1;have l:=tb.c0;have m:=tb.c1;have c0:=f.lt;clear S b tb f;have u:Gr W W.drew:=(Gr.refl W).drew;refine Lu [(0,true),(2,true),(1,false),(3,false),(4,false),(5,false)] (by kernel_rfl) (by kernel_rfl) rfl (by kernel_rfl) (fun _ _ d _ _ h=>by cases d<;>exact h) ?_;repeat(refine Jc u (h:=?_))
 refine Jj rfl rfl (fun K a=>?_);go_simp;refine(Oy _ _ n g x Hx.o (a6.o.grow (F.o.trans u)) a2).mono ?_;rintro _ w2 ⟨r2,rfl,I,A⟩;refine⟨fun _=>I,a _ _ ?_⟩;clear a K;obtain⟨p2,k2,c2,rfl,A⟩:=A;obtain⟨T,b2⟩:=Z2 (u.trans I) A;clear I A;refine Jj rfl rfl (fun K a=>?_);go_simp;refine(Oy _ _ n' lb y Hy.o (a7.o.grow (F.o.trans T.o)) a3).mono ?_;rintro _ w3 ⟨r3,rfl,g3,B⟩;refine⟨fun _=>g3,a _ _ ?_⟩;clear a K;obtain⟨p3,k3,c3,rfl,B⟩:=B;obtain⟨t,b3,b4⟩:=Z3 (T.o.trans g3) (b2.o.grow g3) B;obtain⟨s,hs⟩:∃ s,decide (x < 0)=s:=⟨_,rfl⟩
 obtain⟨s',a5⟩:∃ s',decide (y < 0)=s':=⟨_,rfl⟩
 rw[hs] at G ⊢;rw[a5] at G ⊢;have b:=V.o.grow t.o;have tb:=X.o.grow t.o;have f:=Y.o.grow t.o;have TW:=twice (s:=s) (s':=s') (p:=p2) (k:=k2) (c:=c2) (p':=p3) (k':=k3) (c':=c3) b tb f;clear a0 j l m;have a0:=b.load.1;have j:=b.load.2;have l:=tb.load.1;have m:=tb.load.2;have f1:=b.f0 0;have f2:=b.f0 1;have f3:=tb.f0 0;have f4:=tb.f0 1;clear g3 B b tb f hs a5 u;refine Jj rfl rfl (fun K a=>?_);go_simp;refine⟨fun h=>Bool.noConfusion h,a _ _ ?_⟩;clear a K;refine Jj rfl rfl (fun K a=>?_);go_simp;refine⟨fun h=>Bool.noConfusion h,a _ _ ?_⟩;clear a K;refine Jg ?_;generalize (((w3.setCell _ _).setCell _ _).setCell _ _).setCell _ _=H at TW ⊢;obtain⟨b,tb,f,M,a4⟩:=TW;obtain⟨a8,a9,HO,HR⟩:=Z4 (M _ _ b3.o) (M _ _ b4.o) (Below.trans (F.o.trans t.o) a4) f;have c1:=f.lt;clear a0 j l m f1 f2 f3 f4 M a4 c0 V X Y;have a0:=b.c0;have j:=b.c1;have l:=tb.c0;have m:=tb.c1;clear b tb f;go_wp2_with fail;have g4:Gr H H.drew:=(Gr.refl H).drew;refine Lu [(0,true),(1,true),(2,true),(3,true),(4,true),(5,true),(6,true),(7,true),(8,true),(9,false),(10,false),(11,false)] (by kernel_rfl) (by kernel_rfl) rfl (by kernel_rfl) (fun _ _ d _ _ h=>by cases d<;>exact h) ?_;repeat(refine Jc g4 (h:=?_))
 refine Jj rfl rfl (fun K a=>?_);go_simp;refine(J0P _ _ _ _ _ (a8.o.grow g4) (a9.o.grow g4) (Nat.le_trans b8.o (by omega)) (Nat.le_trans b9.o (by omega))).mono ?_;rintro _ w5 ⟨r5,rfl,J,N⟩;refine⟨fun _=>J,a _ _ ?_⟩;clear a K;rw[Jf,Jf] at N;obtain⟨G5,b5⟩:=Z2 (g4.trans J) N;clear J N;refine Jj rfl rfl (fun K a=>?_);go_simp;refine(M9 _ (s != s') r5 _ z G.o b5.o (Nat.le_trans HL.o (by omega))).mono ?_;rintro _ w6 ⟨r6,rfl,L,C⟩;refine⟨fun _=>L,a _ _ ?_⟩;clear a K;obtain⟨p6,k6,c6,rfl,C⟩:=C;obtain⟨sg,O⟩:∃ sg,sg=decide (z < 0):=⟨_,rfl⟩
 rw[← O];obtain⟨b7,U,b6⟩:=Z3 O (G5.o.trans L) C;have i:=Z (HR.o.grow U.o);have r0:=i.o.load.1;have r1:=i.o.load.2;have f0:=i.o.f0 0;have f1:=i.o.f0 1;clear L C a0 j l m g4 O;refine Jj rfl rfl (fun K a=>?_);go_simp;refine⟨fun h=>Bool.noConfusion h,a _ _ ?_⟩;clear a K;refine Jg ?_;go_wp2_with fail;refine bodyPost_ret (v:=.agg #[.bool sg,.slice p6 k6 c6]) (by simp[results,Tryz.results159,go_sem,r0,r1]) rfl ?_;exact Ku (by omega) (Gr.trans HO.o U.o) i.o b6.o b7.o
theorem J0B (w:World)(va vb:Value)(n n':Bool)(E lb:List Nat)(z:Int)(hz:zval n E+zval n' lb=z)(S:IntL w va n E)(T:IntL w vb n' lb)(c5:E.length≤1099511627776)(c7:lb.length≤1099511627776):
  Calls Tryz.prog 162 #[va,vb] w (Ret w fun r w'=>IntC w' r z):=by
 obtain⟨c8,d0⟩:=Z2 S T;obtain⟨x,hx⟩:∃ x,zval n E=x:=⟨_,rfl⟩
 obtain⟨y,hy⟩:∃ y,zval n' lb=y:=⟨_,rfl⟩
 have b4:(digs x.natAbs).length≤1099511627776:=by
  have e:x.natAbs=nval E:=by rw[← hx];unfold zval;rcases n with _|_<;>simp
  rw[e];exact Nat.le_trans (Kk S.dig) c5
 have b5:(digs y.natAbs).length≤1099511627776:=by
  have e:y.natAbs=nval lb:=by rw[← hy];unfold zval;rcases n' with _|_<;>simp
  rw[e];exact Nat.le_trans (Kk T.dig) c7
 obtain⟨Hx,Hy,L,M,HL,Hz⟩:=Z6 hx hy b4 b5 (Ny b4 b5) (show x+y=z by rw[← hz,hx,hy]);obtain⟨pa,ka,ca,rfl,S⟩:=S;obtain⟨pb,kb,cb,rfl,T⟩:=T;clear S T hz hx hy b4 b5;have B3:=boxed3 w (.bool n) (.slice pa ka ca) (.bool n') (.slice pb kb cb) (.bool false) (.slice none 0 0) 66 66 66;go_enter Tryz.func162,Tryz.ntmps162;go_wp2_with fail;generalize ((w.alloc _).alloc _).alloc _=W at B3 ⊢;obtain⟨G0,b,tb,i⟩:=B3;obtain⟨HW,b8,b9,c0⟩:=Z4 G0 b tb i;have a0:=b.c0;have q:=b.c1;have t:=tb.c0;have u:=tb.c1;have e3:=i.lt;clear G0 b tb i;have g0:Gr W W.drew:=(Gr.refl W).drew;refine Lu [(0,true),(2,true),(1,false),(3,false),(4,false),(5,false)] (by kernel_rfl) (by kernel_rfl) rfl (by kernel_rfl) (fun _ _ d _ _ h=>by cases d<;>exact h) ?_;repeat(refine Jc g0 (h:=?_))
 refine Jj rfl rfl (fun K a=>?_);go_simp;refine(Oy _ _ n E x Hx.o (c8.o.grow (HW.o.trans g0)) c5).mono ?_;rintro _ w2 ⟨r2,rfl,g2,a2⟩;refine⟨fun _=>g2,a _ _ ?_⟩;clear a K;obtain⟨p2,k2,c2,rfl,a2⟩:=a2;obtain⟨G2,d6⟩:=Z2 (g0.trans g2) a2;clear g2 a2;refine Jj rfl rfl (fun K a=>?_);go_simp;refine(Oy _ _ n' lb y Hy.o (d0.o.grow (HW.o.trans G2.o)) c7).mono ?_;rintro _ w3 ⟨r3,rfl,g3,a3⟩;refine⟨fun _=>g3,a _ _ ?_⟩;clear a K;obtain⟨p3,k3,c3,rfl,a3⟩:=a3;obtain⟨G3,d7,d8⟩:=Z3 (G2.o.trans g3) (d6.o.grow g3) a3;obtain⟨s,hs⟩:∃ s,decide (x < 0)=s:=⟨_,rfl⟩
 obtain⟨s',b2⟩:∃ s',decide (y < 0)=s':=⟨_,rfl⟩
 rw[hs,b2];obtain⟨Hs,a9⟩:=Z2 hs b2;have b:=b8.o.grow G3.o;have tb:=b9.o.grow G3.o;have i:=c0.o.grow G3.o;have O:=twice (s:=s) (s':=s') (p:=p2) (k:=k2) (c:=c2) (p':=p3) (k':=k3) (c':=c3) b tb i;clear a0 q t u;have a0:=b.load.1;have q:=b.load.2;have t:=tb.load.1;have u:=tb.load.2;have f1:=b.f0 0;have f2:=b.f0 1;have f3:=tb.f0 0;have f4:=tb.f0 1;clear g3 a3 b tb i hs b2 g0;refine Jj rfl rfl (fun K a=>?_);go_simp;refine⟨fun h=>Bool.noConfusion h,a _ _ ?_⟩;clear a K;refine Jj rfl rfl (fun K a=>?_);go_simp;refine⟨fun h=>Bool.noConfusion h,a _ _ ?_⟩;clear a K;refine Jg ?_;generalize (((w3.setCell _ _).setCell _ _).setCell _ _).setCell _ _=o at O ⊢;obtain⟨b,tb,i,C,V⟩:=O;obtain⟨a5,a6,HO,HR⟩:=Z4 (C _ _ d7.o) (C _ _ d8.o) (Below.trans (HW.o.trans G3.o) V) i;have b3:=i.lt;clear a0 q t u f1 f2 f3 f4 C V e3 b8 b9 c0;obtain⟨d4,d5⟩:=Z2 b tb;have a0:=b.c0;have q:=b.c1;have t:=tb.c0;have u:=tb.c1;clear b tb i;by_cases a4:s=s'
 ·subst a4;have N:=Z (show zval s (digs (x.natAbs+y.natAbs))=z by
   rw[← Hz.o];unfold zval;rw[Jf];have Q:=Hs.o;have R:=a9.o;rcases s with _|_<;>simp at Q R ⊢<;>omega)
  have c1:Gr o o:=Gr.refl o;go_wp2_with fail;have g4:Gr o o.drew:=(Gr.refl o).drew;refine Lu [(0,true),(1,true),(2,true),(3,true),(4,true),(5,true),(6,false),(7,false),(8,false)] (by kernel_rfl) (by kernel_rfl) rfl (by kernel_rfl) (fun _ _ d _ _ h=>by cases d<;>exact h) ?_;repeat(refine Jc g4 (h:=?_))
  refine Jj rfl rfl (fun K a=>?_);go_simp;refine(Rz _ _ _ _ _ (a5.o.grow g4) (a6.o.grow g4) (Nat.le_trans L.o (by omega)) (Nat.le_trans M.o (by omega))).mono ?_;rintro _ w5 ⟨r5,rfl,j,l⟩;refine⟨fun _=>j,a _ _ ?_⟩;clear a K;rw[Jf,Jf] at l;obtain⟨F,H⟩:=Z2 (g4.trans j) l;clear j l;refine Jj rfl rfl (fun K a=>?_);go_simp;refine(M9 _ s r5 _ z N.o H.o (Nat.le_trans HL.o (by omega))).mono ?_;rintro _ w6 ⟨r6,rfl,A,g⟩;refine⟨fun _=>A,a _ _ ?_⟩;clear a K;obtain⟨Y,X,P,rfl,g⟩:=g;obtain⟨sg,m⟩:∃ sg,sg=decide (z < 0):=⟨_,rfl⟩
  rw[← m];obtain⟨J,B,I⟩:=Z3 m (F.o.trans A) g;have f:=Z (HR.o.grow B.o);have r0:=f.o.load.1;have r1:=f.o.load.2;have f0:=f.o.f0 0;have f1:=f.o.f0 1;clear A g a0 q t u g4 m;refine Jj rfl rfl (fun K a=>?_);go_simp;refine⟨fun h=>Bool.noConfusion h,a _ _ ?_⟩;clear a K;refine Jg ?_;go_wp2_with fail;refine bodyPost_ret (v:=.agg #[.bool sg,.slice Y X P]) (by simp[results,Tryz.results162,go_sem,r0,r1]) rfl ?_;exact Ku (by omega) (Gr.trans HO.o B.o) f.o I.o J.o
 ·have e6:(s == s')=false:=by simpa using a4
  have c1:Gr o o:=Gr.refl o;have sx:=Z a4;clear a4;go_wp2_with fail;refine(R0 _ _ _ _ _ a5.o a6.o (Nat.le_trans L.o (by omega)) (Nat.le_trans M.o (by omega))).mono ?_;rintro _ e4 ⟨_,rfl,g4,rfl⟩;rw[Jf,Jf];obtain⟨b6,b7,a7,D,G,O4⟩:=Z6 (a5.o.grow g4) (a6.o.grow g4) (HR.o.grow g4) (d4.o.grow g4) (d5.o.grow g4) (Gr.trans HO.o g4);clear a0 q t u c1 b3 g4;have b3:=a7.o.lt;have a0:=D.o.load.1;have q:=D.o.load.2;have t:=G.o.load.1;have u:=G.o.load.2;rcases Nat.lt_or_ge x.natAbs y.natAbs with U|U
  ·have Hc:=Z (Pc U);rw[Hc.o];have a8:=Z (Nat.le_of_lt U);have N:=Z (show zval s' (digs (y.natAbs - x.natAbs))=z by
    rw[← Hz.o];unfold zval;rw[Jf];have Q:=Hs.o;have R:=a9.o;have h3:=sx.o;rcases s with _|_<;>rcases s' with _|_<;>simp at Q R h3 ⊢<;>omega)
   have d9:=D.o.f0 0;have e0:=D.o.f0 1;have e1:=G.o.f0 0;have e2:=G.o.f0 1;have O:=twice (s:=s') (s':=s) (p:=p3) (k:=k3) (c:=c3) (p':=p2) (k':=k2) (c':=c2) D.o G.o a7.o;clear U;go_wp2_with fail;generalize (((e4.setCell _ _).setCell _ _).setCell _ _).setCell _ _=W5 at O ⊢;obtain⟨b,tb,i,C,V⟩:=O;obtain⟨d1,d2,O5,d3,c9⟩:=Z5 (C _ _ b6.o) (C _ _ b7.o) (Below.trans O4.o V) i b;have e7:=i.lt;clear a0 q t u d9 e0 e1 e2 C V b tb i b3;refine(J0Q _ _ _ _ _ d2.o d1.o (Nat.le_trans M.o (by omega)) (Nat.le_trans L.o (by omega)) (by rw[Jf,Jf];exact a8.o)).mono ?_;rintro _ w5 ⟨_,rfl,j,r5,rfl,l⟩;rw[Jf,Jf] at l;obtain⟨F,H⟩:=Z2 j l;clear l;have a0:=c9.o.c0 w5 j;clear j;go_wp2_with fail;refine(M9 _ s' r5 _ z N.o H.o (Nat.le_trans (Kh (Nat.sub_le _ _)) (Nat.le_trans M.o (by omega)))).mono ?_;rintro _ w6 ⟨r6,rfl,A,g⟩;obtain⟨Y,X,P,rfl,g⟩:=g;obtain⟨sg,m⟩:∃ sg,sg=decide (z < 0):=⟨_,rfl⟩
   rw[← m];obtain⟨J,B,I⟩:=Z3 m (F.o.trans A) g;have f:=Z (d3.o.grow B.o);have r0:=f.o.load.1;have r1:=f.o.load.2;have f0:=f.o.f0 0;have f1:=f.o.f0 1;clear A g a0 m;go_wp2_with fail;refine bodyPost_ret (v:=.agg #[.bool sg,.slice Y X P]) (by simp[results,Tryz.results162,go_sem,r0,r1]) rfl ?_;exact Ku (by omega) (Gr.trans O5.o B.o) f.o I.o J.o
  ·have hc:=Nw x.natAbs y.natAbs;obtain⟨cz,c4⟩:∃ cz,cmpZ x.natAbs y.natAbs=cz:=⟨_,rfl⟩
   rw[c4] at hc ⊢;have e5:¬ cz < 0:=by omega
   have a8:=Z (show y.natAbs≤x.natAbs by omega);have N:=Z (show zval s (digs (x.natAbs - y.natAbs))=z by
    rw[← Hz.o];unfold zval;rw[Jf];have Q:=Hs.o;have R:=a9.o;have h3:=sx.o;rcases s with _|_<;>rcases s' with _|_<;>simp at Q R h3 ⊢<;>omega)
   clear hc c4 U;go_wp2_with fail;refine(J0Q _ _ _ _ _ b6.o b7.o (Nat.le_trans L.o (by omega)) (Nat.le_trans M.o (by omega)) (by rw[Jf,Jf];exact a8.o)).mono ?_;rintro _ w5 ⟨_,rfl,j,r5,rfl,l⟩;rw[Jf,Jf] at l;obtain⟨F,H⟩:=Z2 j l;clear a0 q t u l;have a0:=D.o.c0 w5 j;clear j;go_wp2_with fail;refine(M9 _ s r5 _ z N.o H.o (Nat.le_trans (Kh (Nat.sub_le _ _)) (Nat.le_trans L.o (by omega)))).mono ?_;rintro _ w6 ⟨r6,rfl,A,g⟩;obtain⟨Y,X,P,rfl,g⟩:=g;obtain⟨sg,m⟩:∃ sg,sg=decide (z < 0):=⟨_,rfl⟩
   rw[← m];obtain⟨J,B,I⟩:=Z3 m (F.o.trans A) g;have f:=Z (a7.o.grow B.o);have r0:=f.o.load.1;have r1:=f.o.load.2;have f0:=f.o.f0 0;have f1:=f.o.f0 1;clear A g a0 m;go_wp2_with fail;refine bodyPost_ret (v:=.agg #[.bool sg,.slice Y X P]) (by simp[results,Tryz.results162,go_sem,r0,r1]) rfl ?_;exact Ku (by omega) (Gr.trans O4.o B.o) f.o I.o J.o
theorem J5G (w:World)(E F:Value)(n n':Bool)(f lb:List Nat)(z:Int)(B:zval n f - zval n' lb=z)(i:IntL w E n f)(b:IntL w F n' lb)(T:f.length≤1099511627776)(y:lb.length≤1099511627776):
  Calls Tryz.prog 297 #[E,F] w (Ret w fun r w'=>IntC w' r z):=by
 have O:=Z (show zval n f+zval (decide (-zval n' lb < 0)) (digs (-zval n' lb).natAbs)=z by rw[Mx,← B];omega);have I:=Z (show(digs (-zval n' lb).natAbs).length≤1099511627776 by
  obtain⟨D,C,x,rfl,b⟩:=b;have e:(-zval n' lb).natAbs=nval lb:=by unfold zval;rcases n' with _|_<;>simp
  rw[e];exact Nat.le_trans (Kk b.dig) y)
 clear B;obtain⟨H,G⟩:=Z2 b i;obtain⟨Y,V,S,rfl,i⟩:=i;obtain⟨D,C,x,rfl,b⟩:=b;clear i b;have q:=boxed3 w (.bool n) (.slice Y V S) (.bool n') (.slice D C x) (.bool false) (.slice none 0 0) 66 66 66;go_enter Tryz.func297,Tryz.ntmps297;go_wp2_with fail;generalize ((w.alloc _).alloc _).alloc _=W at q ⊢;obtain⟨s,o,tb,p⟩:=q;obtain⟨k,J⟩:=Z2 s p;have a0:=o.c0;have P:=o.c1;have Q:=tb.c0;have R:=tb.c1;have a2:=p.lt;clear s o tb p;have g:Gr W W.drew:=(Gr.refl W).drew;refine Lu [(0,true),(1,true),(2,false),(3,false),(4,false)] (by kernel_rfl) (by kernel_rfl) rfl (by kernel_rfl) (fun _ _ d _ _ h=>by cases d<;>exact h) ?_;repeat(refine Jc g (h:=?_))
 refine Jj rfl rfl (fun K a=>?_);go_simp;refine(J0C _ _ n' lb _ rfl (H.o.grow (k.o.trans g)) y).mono ?_;rintro _ w2 ⟨r,rfl,l,A⟩;refine⟨fun _=>l,a _ _ ?_⟩;clear a K;obtain⟨t,L⟩:=Z2 (g.trans l) A;clear l A;refine Jj rfl rfl (fun K a=>?_);go_simp;refine(J0B _ _ _ n _ f _ z O.o (G.o.grow (k.o.trans t.o)) L.o T I.o).mono ?_;rintro _ w3 ⟨r3,rfl,g3,j⟩;refine⟨fun _=>g3,a _ _ ?_⟩;clear a K;obtain⟨X,U,c3,rfl,j⟩:=j;obtain⟨sg,m⟩:∃ sg,sg=decide (z < 0):=⟨_,rfl⟩
 rw[← m];obtain⟨N,u,M⟩:=Z3 m (t.o.trans g3) j;have c:=Z (J.o.grow u.o);have r0:=c.o.load.1;have r1:=c.o.load.2;have f0:=c.o.f0 0;have f1:=c.o.f0 1;clear g3 j a0 P Q R g m;refine Jj rfl rfl (fun K a=>?_);go_simp;refine⟨fun h=>Bool.noConfusion h,a _ _ ?_⟩;clear a K;refine Jg ?_;go_wp2_with fail;refine bodyPost_ret (v:=.agg #[.bool sg,.slice X U c3]) (by simp[results,Tryz.results297,go_sem,r0,r1]) rfl ?_;exact Ku (by omega) (k.o.trans u.o) c.o M.o N.o
theorem J77 (a:Nat):zval false (digs a)=a:=by unfold zval;rw[Jf];simp
theorem J76 (a:Nat):zval true (digs a) = -a:=by unfold zval;rw[Jf];simp
theorem Ol {a:Nat}(h:a < 18446744073709551616):(digs a).length≤2:=by
 refine Kj ?_;rw[Jd];omega
theorem Ut (w:World)(z:Int)(I : -9223372036854775808≤z)(J:z≤9223372036854775807):
  Calls Tryz.prog 54 #[.int .i64 z] w (Ret w fun r w'=>IntC w' r z):=by
 have i:=Z (boxed1 w (.bool false) (.slice none 0 0) 66);by_cases K:z < 0
 ·obtain⟨a,u⟩:∃ a:Nat,z = -(a:Int) - 1:=⟨(-z - 1).toNat,by omega⟩
  have D:a≤9223372036854775807:=by omega
  have y:=Z u;have H : -(z+1)=(a:Int):=by omega
  clear u;go_enter Tryz.func54,Tryz.ntmps54;go_wp2_with fail;refine(J0O _ a (by omega)).mono ?_;rintro _ h ⟨r,rfl,g1,g⟩;obtain⟨j,k⟩:=Z2 g1 g;clear g g1;go_wp2_with fail;refine(Rz _ r (.slice (some ⟨h.heap.size,0,none⟩) 1 1) _ [1] (k.o.grow ((Gr.refl h).alloc _)) (NatL.one h _ 1 rfl (by rw[Jd];omega) _) (Nat.le_trans (Ol (by omega)) (by omega)) (by simp)).mono ?_;rintro _ L ⟨E,rfl,t,n⟩;rw[Jf,show nval [1]=1 from rfl] at n;obtain⟨x,A⟩:=Z2 (j.o.trans (((Gr.refl h).alloc _).trans t)) n;clear n t;go_wp2_with fail;refine(M9 _ true E _ z (by rw[J76,y.o];omega) A.o (Nat.le_trans (Ol (by omega)) (by omega))).mono ?_;rintro _ G ⟨F,rfl,g3,c⟩;obtain⟨p,o,c3,rfl,c⟩:=c;obtain⟨sg,d⟩:∃ sg,sg=decide (z < 0):=⟨_,rfl⟩
  rw[← d];obtain⟨m,f,l⟩:=Z3 d (x.o.trans g3) c;have b:=Z (i.o.2.grow f.o);have q:=b.o.load.1;have s:=b.o.load.2;have B:=b.o.f0 0;have C:=b.o.f0 1;clear g3 c d;go_wp2_with fail;refine bodyPost_ret (v:=.agg #[.bool sg,.slice p o c3]) (by simp[results,Tryz.results54,go_sem,q,s]) rfl ?_;exact Ku (by omega) (i.o.1.trans f.o) b.o l.o m.o
 ·obtain⟨a,rfl⟩:∃ a:Nat,z=a:=⟨z.toNat,by omega⟩
  have D:a≤9223372036854775807:=by omega
  go_enter Tryz.func54,Tryz.ntmps54;go_wp2_with fail;refine(J0O _ a (by omega)).mono ?_;rintro _ h ⟨r,rfl,g1,g⟩;obtain⟨j,k⟩:=Z2 g1 g;clear g g1;go_wp2_with fail;refine(M9 _ false r _ _ (J77 a) k.o (Nat.le_trans (Ol (by omega)) (by omega))).mono ?_;rintro _ G ⟨F,rfl,g3,c⟩;obtain⟨p,o,c3,rfl,c⟩:=c;obtain⟨sg,d⟩:∃ sg,sg=decide ((a:Int) < 0):=⟨_,rfl⟩
  rw[← d];obtain⟨m,f,l⟩:=Z3 d (j.o.trans g3) c;have b:=Z (i.o.2.grow f.o);have q:=b.o.load.1;have s:=b.o.load.2;have B:=b.o.f0 0;have C:=b.o.f0 1;clear g3 c d;go_wp2_with fail;refine bodyPost_ret (v:=.agg #[.bool sg,.slice p o c3]) (by simp[results,Tryz.results54,go_sem,q,s]) rfl ?_;exact Ku (by omega) (i.o.1.trans f.o) b.o l.o m.o
theorem Yu (w:World)(z:Int)(D : -9223372036854775808≤z)(E:z≤9223372036854775807):
  Calls Tryz.prog 126 #[.int .i64 z] w (Ret w fun r w'=>IntC w' r z):=by
 have h:=Z (boxed1 w (.bool false) (.slice none 0 0) 66);by_cases G:z < 0
 ·obtain⟨a,s⟩:∃ a:Nat,z = -(a:Int):=⟨(-z).toNat,by omega⟩
  have y:a≤9223372036854775808:=by omega
  have F:0 < a:=by omega
  have q:=Z s;clear s;go_enter Tryz.func126,Tryz.ntmps126;go_wp2_with fail;have t:IntKind.u64.wrap (-IntKind.u64.wrap z)=(a:Int):=by
   rw[IntKind.wrap_u64,IntKind.wrap_u64,q.o];omega
  rw[t];refine(Mn _ a (by omega)).mono ?_;rintro _ B ⟨r,rfl,g1,g⟩;obtain⟨i,j⟩:=Z2 g1 g;clear g g1 t;go_wp2_with fail;refine(M6 _ true r _ z j.o (Nat.le_trans (Ol (by omega)) (by omega)) (by rw[q.o];simp)).mono ?_;rintro _ C ⟨A,rfl,g3,c⟩;obtain⟨n,m,c3,rfl,c⟩:=c;obtain⟨sg,d⟩:∃ sg,sg=decide (z < 0):=⟨_,rfl⟩
  rw[← d];obtain⟨l,f,k⟩:=Z3 d (i.o.trans g3) c;have b:=Z (h.o.2.grow f.o);have o:=b.o.load.1;have p:=b.o.load.2;have u:=b.o.f0 0;have x:=b.o.f0 1;clear g3 c d;go_wp2_with fail;refine bodyPost_ret (v:=.agg #[.bool sg,.slice n m c3]) (by simp[results,Tryz.results126,go_sem,o,p]) rfl ?_;exact Ku (by omega) (h.o.1.trans f.o) b.o k.o l.o
 ·obtain⟨a,rfl⟩:∃ a:Nat,z=a:=⟨z.toNat,by omega⟩
  have y:a≤9223372036854775807:=by omega
  go_enter Tryz.func126,Tryz.ntmps126;go_wp2_with fail;refine(Mn _ a (by omega)).mono ?_;rintro _ B ⟨r,rfl,g1,g⟩;obtain⟨i,j⟩:=Z2 g1 g;clear g g1;go_wp2_with fail;refine(M6 _ false r _ _ j.o (Nat.le_trans (Ol (by omega)) (by omega)) (by simp;rfl)).mono ?_;rintro _ C ⟨A,rfl,g3,c⟩;obtain⟨n,m,c3,rfl,c⟩:=c;obtain⟨sg,d⟩:∃ sg,sg=decide ((a:Int) < 0):=⟨_,rfl⟩
  rw[← d];obtain⟨l,f,k⟩:=Z3 d (i.o.trans g3) c;have b:=Z (h.o.2.grow f.o);have o:=b.o.load.1;have p:=b.o.load.2;have u:=b.o.f0 0;have x:=b.o.f0 1;clear g3 c d;go_wp2_with fail;refine bodyPost_ret (v:=.agg #[.bool sg,.slice n m c3]) (by simp[results,Tryz.results126,go_sem,o,p]) rfl ?_;exact Ku (by omega) (h.o.1.trans f.o) b.o k.o l.o
def quoZ (fl:Bool)(a b:Int):Int:=
 let q:Nat:=a.natAbs / b.natAbs+(if fl && (decide (sgn a * sgn b < 0) && decide (0 < a.natAbs % b.natAbs)) then 1 else 0)
 if sgn a * sgn b < 0 then -(q:Int) else q
theorem J1a (a:Int) : -1≤sgn a∧sgn a≤1:=by unfold sgn;split<;>(try split)<;>omega
theorem J19 (a b:Int) : -1≤sgn a * sgn b∧sgn a * sgn b≤1:=by
 have d:=J1a a;have f:=J1a b;have c:sgn a = -1∨sgn a=0∨sgn a=1:=by omega
 rcases c with h|h|h<;>rw[h]<;>omega
theorem O6 (n:Bool)(l:List Nat):(zval n l).natAbs=nval l:=by unfold zval;rcases n with _|_<;>simp
theorem J2x (w:World)(a b:Bool):Calls Tryz.prog 248 #[.bool a,.bool b] w fun e w'=>e = .returned (.bool (false && (a && b)))∧w=w':=by
 go_enter Tryz.func248,Tryz.ntmps248;go_wp2_with fail;go_ret;exact⟨rfl,rfl⟩
theorem J2v (w:World)(a b:Bool):Calls Tryz.prog 293 #[.bool a,.bool b] w fun e w'=>e = .returned (.bool (true && (a && b)))∧w=w':=by
 rcases a with _|_
 ·go_enter Tryz.func293,Tryz.ntmps293;go_wp2_with fail;go_ret;exact⟨rfl,rfl⟩
 ·go_enter Tryz.func293,Tryz.ntmps293;go_wp2_with fail;go_ret;exact⟨rfl,rfl⟩
theorem boxed4 (w:World)(x y a c b d i j:Value)(t f h t3:TypeId):Gr w ((((w.alloc (.cells #[x,y] t)).alloc (.cells #[a,c] f)).alloc (.cells #[b,d] h)).alloc (.cells #[i,j] t3))∧
  Two ((((w.alloc (.cells #[x,y] t)).alloc (.cells #[a,c] f)).alloc (.cells #[b,d] h)).alloc (.cells #[i,j] t3)) w.heap.size x y∧
  Two ((((w.alloc (.cells #[x,y] t)).alloc (.cells #[a,c] f)).alloc (.cells #[b,d] h)).alloc (.cells #[i,j] t3)) (w.heap.size+1) a c∧
  Two ((((w.alloc (.cells #[x,y] t)).alloc (.cells #[a,c] f)).alloc (.cells #[b,d] h)).alloc (.cells #[i,j] t3)) (w.heap.size+1+1) b d∧
  Two ((((w.alloc (.cells #[x,y] t)).alloc (.cells #[a,c] f)).alloc (.cells #[b,d] h)).alloc (.cells #[i,j] t3)) (w.heap.size+1+1+1) i j:=by
 obtain⟨g,m,n,o⟩:=boxed3 w x y a c b d t f h;obtain⟨k,l⟩:=boxed1 (((w.alloc (.cells #[x,y] t)).alloc (.cells #[a,c] f)).alloc (.cells #[b,d] h)) i j t3;rw[World.size_alloc,World.size_alloc,World.size_alloc] at l;exact⟨g.trans k,m.grow k,n.grow k,o.grow k,l⟩
theorem R8 {w:World}{B:Nat}{n n' s s':Bool}{j m p p':Option Addr}{g d i f k c k' c':Nat}
  (a:Two w B (.bool n) (.slice j g d)) (tb:Two w (B+1) (.bool n') (.slice m i f)):
  Two ((((w.setCell ⟨B,0,none⟩ (.bool s)).setCell ⟨B,1,none⟩ (.slice p k c)).setCell ⟨B+1,0,none⟩ (.bool s')).setCell ⟨B+1,1,none⟩ (.slice p' k' c')) B (.bool s) (.slice p k c)∧
  Two ((((w.setCell ⟨B,0,none⟩ (.bool s)).setCell ⟨B,1,none⟩ (.slice p k c)).setCell ⟨B+1,0,none⟩ (.bool s')).setCell ⟨B+1,1,none⟩ (.slice p' k' c')) (B+1) (.bool s') (.slice p' k' c')∧
  (∀ v l,NatL w v l→NatL ((((w.setCell ⟨B,0,none⟩ (.bool s)).setCell ⟨B,1,none⟩ (.slice p k c)).setCell ⟨B+1,0,none⟩ (.bool s')).setCell ⟨B+1,1,none⟩ (.slice p' k' c')) v l)∧
  Own B w ((((w.setCell ⟨B,0,none⟩ (.bool s)).setCell ⟨B,1,none⟩ (.slice p k c)).setCell ⟨B+1,0,none⟩ (.bool s')).setCell ⟨B+1,1,none⟩ (.slice p' k' c')):=by
 have o:=a.set (.bool s) (.slice p k c);have b:=tb.other (b':=B) (by omega) (.bool s) (.slice p k c);exact⟨o.other (by omega) _ _,b.set _ _,fun v l h=>(h.keepBox a _ _).keepBox b _ _,(N6 B w (Nat.le_refl _) _ _).trans (N6 B _ (by omega) _ _)⟩
theorem Yx (w:World)(va vb:Value)(n n':Bool)(C lb:List Nat)(F:Bool)(Y:Nat)(c2:(F=false∧Y=248)∨(F=true∧Y=293))(x y:Int)(hx:zval n C=x)(hy:zval n' lb=y)
  (ha:IntL w va n C) (hb:IntL w vb n' lb) (i3:C.length≤274877906944) (i4:lb.length≤274877906944) (h0:y≠0):
  Calls Tryz.prog 247 #[va,vb,.func (.func Y) #[] #[]] w (Ret w fun r w'=>∃ q s,r = .tuple #[q,s,.int .i64 0]∧IntC w' q (quoZ F x y)∧IntC w' s (x - quoZ F x y * y)):=by
 have c3:nval C=x.natAbs:=by rw[← hx,O6]
 have c4:nval lb=y.natAbs:=by rw[← hy,O6]
 obtain⟨a8,a9,HN,HM,Hx,Hy,H0⟩:=Z7 ha hb c3 c4 hx hy (show nval lb≠0 by rw[c4];omega);have e8:(digs (x.natAbs / y.natAbs)).length≤274877906944:=by
  refine Nat.le_trans (Kh (Nat.div_le_self _ _)) ?_;rw[← c3];exact Nat.le_trans (Kk ha.dig) i3
 have f9:=Z e8;obtain⟨i,a6⟩:∃ i,decide (sgn x * sgn y < 0)=i:=⟨_,rfl⟩
 obtain⟨t,d0⟩:∃ t,x.natAbs % y.natAbs=t:=⟨_,rfl⟩
 obtain⟨R,c7⟩:∃ R,x.natAbs / y.natAbs=R:=⟨_,rfl⟩
 obtain⟨Q,hQ⟩:∃ Q,quoZ F x y=Q:=⟨_,rfl⟩
 have e9:(if i then -((R+(if F && (i && decide (0 < t)) then 1 else 0):Nat):Int) else ((R+(if F && (i && decide (0 < t)) then 1 else 0):Nat):Int))=Q:=by
  rw[← hQ];unfold quoZ;rw[a6,d0,c7];rw[← a6];by_cases h:sgn x * sgn y < 0<;>simp[h]
 rw[hQ];obtain⟨b4,h1,e0⟩:=Z3 e9 d0 c7;obtain⟨S,d2⟩:∃ S,sgn x=S:=⟨_,rfl⟩
 obtain⟨T,d3⟩:∃ T,sgn y=T:=⟨_,rfl⟩
 have f6:=(J19 x y).1;have f7:=(J19 x y).2;rw[d2,d3] at f6 f7 a6;obtain⟨h6,h7⟩:=Z2 (show sgn (zval n C)=S by rw[hx];exact d2) (show sgn (zval n' lb)=T by rw[hy];exact d3);obtain⟨pa,ka,ca,rfl,ha⟩:=ha;obtain⟨pb,kb,cb,rfl,hb⟩:=hb;obtain⟨HA,HB⟩:=Z2 ha hb;clear ha hb h0 hQ e9 c3 c4 hx hy e8 d0 c7 d2 d3;have B4:=boxed4 w (.bool n) (.slice pa ka ca) (.bool n') (.slice pb kb cb) (.bool false) (.slice none 0 0) (.bool false) (.slice none 0 0) 66 66 66 66;go_enter Tryz.func247,Tryz.ntmps247;go_wp2_with fail;generalize (((w.alloc _).alloc _).alloc _).alloc _=W at B4 ⊢;obtain⟨G0,ta,tb,g,f⟩:=B4;obtain⟨o,V,X,e2,e1⟩:=Z5 G0 ta tb g f;clear G0 ta tb g f;refine(Zs _ _ _ C lb (HA.o.grow o.o) (HB.o.grow o.o) (by omega) (by omega) H0.o).mono ?_;rintro _ w1 ⟨_,rfl,g1,q1,r1,rfl,c8,a7⟩;rw[HN.o,HM.o,e0.o] at c8;rw[HN.o,HM.o,h1.o] at a7;obtain⟨G1,h3,e6⟩:=Z3 g1 c8 a7;obtain⟨p1,c1,rfl,-⟩:=a7.parts;have d1:(0:Int) < ((digs t).length:Int)↔0 < t:=by
  rw[show(0:Int) < ((digs t).length:Int)↔0 < (digs t).length from by omega,List.length_pos_iff,ne_eq,Ka];omega
 obtain⟨lr,f5⟩:∃ lr,(digs t).length=lr:=⟨_,rfl⟩
 rw[f5] at e6 d1 ⊢;have h5:=Z d1;have a0:=V.o.c0;have a1:=V.o.c1;have b0:=X.o.c0;have b1:=X.o.c1;have e7:Gr W w1:=g1;clear g1 c8 a7 f5 d1;go_wp2_with fail;have i7:IntKind.i64.wrap (S * T)=S * T:=IntWalk.i64_in _ (by omega);have g0:Gr W w1.drew:=e7.drew;clear e7;refine Lu [(0,true),(2,true),(1,false),(3,false),(4,true),(5,true),(6,true)] (by kernel_rfl) (by kernel_rfl) rfl (by kernel_rfl) (fun _ _ d _ _ h=>by cases d<;>exact h) ?_;repeat(refine Jc g0 (h:=?_))
 refine Jj rfl rfl (fun K a=>?_);go_simp;refine(Qd _ _ n C S h6.o (a8.o.grow (o.o.trans g0)) (by omega)).mono ?_;rintro _ w2 ⟨_,rfl,g2,rfl⟩;refine⟨fun _=>g2,a _ _ ?_⟩;clear a K;have g3:Gr W w2:=g0.trans g2;have G2:=Z g2;clear g2 g0;refine Jj rfl rfl (fun K a=>?_);go_simp;refine(Qd _ _ n' lb T h7.o (a9.o.grow (o.o.trans g3)) (by omega)).mono ?_;rintro _ w3 ⟨_,rfl,g4,rfl⟩;refine⟨fun _=>g4,a _ _ ?_⟩;clear a K;have g5:Gr W w3:=g3.trans g4;obtain⟨e5,i6⟩:=Z2 (h3.o.grow (show Gr w1 w3 from Gr.trans ((Gr.refl w1).drew) (Gr.trans G2.o g4))) (e6.o.grow (show Gr w1 w3 from Gr.trans ((Gr.refl w1).drew) (Gr.trans G2.o g4)));clear g4 g3;repeat(refine Jc g5 (h:=?_))
 refine Jg ?_;have d6:=Z g5;obtain⟨N,i2⟩:∃ N,decide (0 < lr)=N:=⟨_,rfl⟩
 have e4:=Z (show decide (0 < t)=N by
  rw[← i2];have:=h5.o;exact decide_eq_decide.2 (by omega))
 have i5:S * T < 0↔i=true:=by rw[← a6];simp
 clear a0 a1 b0 b1 g5 f6 f7;obtain⟨aw,c0⟩:∃ aw,(F && (i && N))=aw:=⟨_,rfl⟩
 have e3:=Z c0;have f4:∀ (w:World),Calls Tryz.prog Y #[.bool i,.bool N] w fun e w'=>e = .returned (.bool aw)∧w=w':=by
  intro w;rw[← c0];rcases c2 with⟨rfl,rfl⟩|⟨rfl,rfl⟩
  ·exact J2x w i N
  ·exact J2v w i N
 have h2:=Z f4;have i1:Y=248∨Y=293:=by rcases c2 with⟨_,h⟩|⟨_,h⟩;exact .inl h;exact .inr h
 clear c2 c0 f4 i5;have b2:=Z (show(digs R).length≤274877906944 by rw[← e0.o];exact f9.o);have d7:=Z (show(digs (R+1)).length≤274877906945 from Ny b2.o (Nat.le_trans (Ol (by omega)) (by omega)));have d9:Q.natAbs≤R+1:=by
  rw[← b4.o];rcases i with _|_<;>simp<;>split<;>omega
 have b3:=Z (Nat.le_trans (Kh d9) d7.o);have d8:=Z (show(digs (Q * y).natAbs).length≤549755813889 by
  rw[Int.natAbs_mul];exact Nat.le_trans (Ok b3.o (k:=274877906945) (m:=274877906944) (by rw[← HM.o];exact Nat.le_trans (Kk HB.o.dig) i4)) (by omega))
 clear d9;rcases i1 with rfl|rfl;all_goals
  go_wp2_with fail;refine(h2.o _).mono ?_;rintro _ _ ⟨rfl,rfl⟩;rcases aw with _|_
  ·go_wp2_with fail;refine(M6 _ i q1 _ Q e5.o (Nat.le_trans b2.o (by omega)) (by rw[← b4.o,e4.o,e3.o];rfl)).mono ?_;rintro _ w6 ⟨r6,rfl,g6,A⟩;have a2:=Z A;obtain⟨P,O,H,rfl,A⟩:=A;have G6:=Z (Gr.trans d6.o g6);obtain⟨sg,M⟩:∃ sg,decide (Q < 0)=sg:=⟨_,rfl⟩
   rw[M] at a2 ⊢;have b9:=Z M;obtain⟨u,E⟩:=boxed1 w6 (.bool sg) (.slice P O H) 66;clear g6 A M;go_wp2_with fail;generalize w6.alloc _=z at u E ⊢;obtain⟨b,a3⟩:=Z2 (G6.o.trans u) (a2.o.grow u);have a0:=(V.o.grow b.o).c0;have a1:=(V.o.grow b.o).c1;have b0:=(X.o.grow b.o).c0;have b1:=(X.o.grow b.o).c1;have q0:=E.c0;have d5:=E.c1;have l:Gr z z.drew:=(Gr.refl z).drew;clear u E;refine Lu [(0,true),(1,true),(2,true),(3,true),(4,false),(5,false),(6,false),(7,false),(8,true)] (by kernel_rfl) (by kernel_rfl) rfl (by kernel_rfl) (fun _ _ d _ _ h=>by cases d<;>exact h) ?_;repeat(refine Jc l (h:=?_))
   refine Jj rfl rfl (fun K a=>?_);go_simp;refine(Ts _ _ _ _ n' _ lb (Q * y) (by rw[Mx,Hy.o]) (a3.o.grow l) (a9.o.grow ((o.o.trans b.o).trans l)) (Nat.le_trans b3.o (by omega)) (by omega)).mono ?_;rintro _ w8 ⟨r8,rfl,I,a5⟩;refine⟨fun _=>I,a _ _ ?_⟩;clear a K;obtain⟨G8,b6⟩:=Z2 (l.trans I) a5;clear I a5;refine Jj rfl rfl (fun K a=>?_);go_simp;refine(Tt _ _ _ n _ C _ (x - Q * y) (by rw[Mx,Hx.o]) (a8.o.grow ((o.o.trans b.o).trans G8.o)) b6.o (by omega) (Nat.le_trans d8.o (by omega))).mono ?_;rintro _ w9 ⟨r9,rfl,J,B⟩;refine⟨fun _=>J,a _ _ ?_⟩;clear a K;obtain⟨p9,k9,c9,rfl,B⟩:=B;obtain⟨j,b7⟩:=Z2 (G8.o.trans J) B;have b5:=Z (a3.o.grow j.o);obtain⟨D,L⟩:∃ D,decide (x - Q * y < 0)=D:=⟨_,rfl⟩
   rw[L];have b8:=Z L;have g:=e2.o.grow (b.o.trans j.o);have f:=e1.o.grow (b.o.trans j.o);have TW:=R8 (s:=sg) (s':=D) (p:=P) (k:=O) (c:=H) (p':=p9) (k':=k9) (c':=c9) g f;have f0:=g.f0 0;have f1:=g.f0 1;have f2:=f.f0 0;have f3:=f.f0 1;have r0:=g.load.1;have r1:=g.load.2;have u0:=f.load.1;have u1:=f.load.2;have i0:Gr z w9:=j.o;clear J B a0 a1 b0 b1 q0 d5 l L g f;refine Jj rfl rfl (fun K a=>?_);go_simp;refine⟨fun h=>Bool.noConfusion h,a _ _ ?_⟩;clear a K;refine Jj rfl rfl (fun K a=>?_);go_simp;refine⟨fun h=>Bool.noConfusion h,a _ _ ?_⟩;clear a K;generalize (((w9.setCell _ _).setCell _ _).setCell _ _).setCell _ _=G at TW ⊢;obtain⟨U,t2,a4,c5⟩:=TW;have x0:=U.load.1;have x1:=U.load.2;have y0:=t2.load.1;have y1:=t2.load.2;have gx:Gr G G:=Gr.refl G;clear f0 f1 f2 f3 r0 r1 u0 u1 U t2;repeat(refine Jc gx (h:=?_))
   refine Jg ?_;go_wp2_with fail;refine bodyPost_ret (v:=.tuple #[.agg #[.bool sg,.slice P O H],.agg #[.bool D,.slice p9 k9 c9],.int .i64 0]) (by simp[results,Tryz.results247,go_sem,x0,x1,y0,y1]) rfl ?_;refine⟨_,rfl,Below.trans (o.o.trans (b.o.trans j.o)) (Below.mono c5 (by omega)),_,_,rfl,?_,?_⟩
   ·obtain⟨pp,kk,cc,he,hn⟩:=b5.o
    cases he
    rw[IntC,b9.o];exact⟨_,_,_,rfl,a4 _ _ hn⟩
   ·rw[IntC,b8.o];exact⟨_,_,_,rfl,a4 _ _ b7.o⟩
  ·go_wp2_with fail;refine(Mn _ 1 (by omega)).mono ?_;rintro _ w4 ⟨v4,rfl,g4,f8⟩;obtain⟨h8,h4,G4⟩:=Z3 f8 (e5.o.grow g4) (d6.o.trans g4);clear g4 f8;go_wp2_with fail;refine(Qg _ _ _ _ _ h4.o h8.o (Nat.le_trans b2.o (by omega)) (Nat.le_trans (Ol (by omega)) (by omega))).mono ?_;rintro _ w5 ⟨v5,rfl,g5,d4⟩;rw[Jf,Jf] at d4;obtain⟨h9,G5⟩:=Z2 d4 (G4.o.trans g5);clear g5 d4;go_wp2_with fail;refine(M6 _ i v5 _ Q h9.o (Nat.le_trans d7.o (by omega)) (by rw[← b4.o,e4.o,e3.o];rfl)).mono ?_;rintro _ w6 ⟨r6,rfl,g6,A⟩;have a2:=Z A;obtain⟨P,O,H,rfl,A⟩:=A;have G6:=Z (Gr.trans G5.o g6);obtain⟨sg,M⟩:∃ sg,decide (Q < 0)=sg:=⟨_,rfl⟩
   rw[M] at a2 ⊢;have b9:=Z M;obtain⟨u,E⟩:=boxed1 w6 (.bool sg) (.slice P O H) 66;clear g6 A M;go_wp2_with fail;generalize w6.alloc _=z at u E ⊢;obtain⟨b,a3⟩:=Z2 (G6.o.trans u) (a2.o.grow u);have a0:=(V.o.grow b.o).c0;have a1:=(V.o.grow b.o).c1;have b0:=(X.o.grow b.o).c0;have b1:=(X.o.grow b.o).c1;have q0:=E.c0;have d5:=E.c1;have l:Gr z z.drew:=(Gr.refl z).drew;clear u E;refine Lu [(0,true),(1,true),(2,true),(3,true),(4,false),(5,false),(6,false),(7,false),(8,true)] (by kernel_rfl) (by kernel_rfl) rfl (by kernel_rfl) (fun _ _ d _ _ h=>by cases d<;>exact h) ?_;repeat(refine Jc l (h:=?_))
   refine Jj rfl rfl (fun K a=>?_);go_simp;refine(Ts _ _ _ _ n' _ lb (Q * y) (by rw[Mx,Hy.o]) (a3.o.grow l) (a9.o.grow ((o.o.trans b.o).trans l)) (Nat.le_trans b3.o (by omega)) (by omega)).mono ?_;rintro _ w8 ⟨r8,rfl,I,a5⟩;refine⟨fun _=>I,a _ _ ?_⟩;clear a K;obtain⟨G8,b6⟩:=Z2 (l.trans I) a5;clear I a5;refine Jj rfl rfl (fun K a=>?_);go_simp;refine(Tt _ _ _ n _ C _ (x - Q * y) (by rw[Mx,Hx.o]) (a8.o.grow ((o.o.trans b.o).trans G8.o)) b6.o (by omega) (Nat.le_trans d8.o (by omega))).mono ?_;rintro _ w9 ⟨r9,rfl,J,B⟩;refine⟨fun _=>J,a _ _ ?_⟩;clear a K;obtain⟨p9,k9,c9,rfl,B⟩:=B;obtain⟨j,b7⟩:=Z2 (G8.o.trans J) B;have b5:=Z (a3.o.grow j.o);obtain⟨D,L⟩:∃ D,decide (x - Q * y < 0)=D:=⟨_,rfl⟩
   rw[L];have b8:=Z L;have g:=e2.o.grow (b.o.trans j.o);have f:=e1.o.grow (b.o.trans j.o);have TW:=R8 (s:=sg) (s':=D) (p:=P) (k:=O) (c:=H) (p':=p9) (k':=k9) (c':=c9) g f;have f0:=g.f0 0;have f1:=g.f0 1;have f2:=f.f0 0;have f3:=f.f0 1;have r0:=g.load.1;have r1:=g.load.2;have u0:=f.load.1;have u1:=f.load.2;have i0:Gr z w9:=j.o;clear J B a0 a1 b0 b1 q0 d5 l L g f;refine Jj rfl rfl (fun K a=>?_);go_simp;refine⟨fun h=>Bool.noConfusion h,a _ _ ?_⟩;clear a K;refine Jj rfl rfl (fun K a=>?_);go_simp;refine⟨fun h=>Bool.noConfusion h,a _ _ ?_⟩;clear a K;generalize (((w9.setCell _ _).setCell _ _).setCell _ _).setCell _ _=G at TW ⊢;obtain⟨U,t2,a4,c5⟩:=TW;have x0:=U.load.1;have x1:=U.load.2;have y0:=t2.load.1;have y1:=t2.load.2;have gx:Gr G G:=Gr.refl G;clear f0 f1 f2 f3 r0 r1 u0 u1 U t2;repeat(refine Jc gx (h:=?_))
   refine Jg ?_;go_wp2_with fail;refine bodyPost_ret (v:=.tuple #[.agg #[.bool sg,.slice P O H],.agg #[.bool D,.slice p9 k9 c9],.int .i64 0]) (by simp[results,Tryz.results247,go_sem,x0,x1,y0,y1]) rfl ?_;refine⟨_,rfl,Below.trans (o.o.trans (b.o.trans j.o)) (Below.mono c5 (by omega)),_,_,rfl,?_,?_⟩
   ·obtain⟨pp,kk,cc,he,hn⟩:=b5.o
    cases he
    rw[IntC,b9.o];exact⟨_,_,_,rfl,a4 _ _ hn⟩
   ·rw[IntC,b8.o];exact⟨_,_,_,rfl,a4 _ _ b7.o⟩
theorem J3L (w:World)(N O:Value)(n n':Bool)(j lb:List Nat)(x y Q R:Int)(G:zval n j=x)(H:zval n' lb=y)(D:quoZ false x y=Q)(E:x - Q * y=R)
  (h:IntL w N n j) (i:IntL w O n' lb) (a2:j.length≤274877906944) (a3:lb.length≤274877906944) (C:y≠0):
  Calls Tryz.prog 203 #[N,O] w (Ret w fun r w'=>∃ q s,r = .tuple #[q,s,.int .i64 0]∧IntC w' q Q∧IntC w' s R):=by
 obtain⟨T,U,S,Hx,Hy,V,X⟩:=Z7 h i C G H D E;obtain⟨pa,ka,ca,rfl,h⟩:=h;obtain⟨pb,kb,cb,rfl,i⟩:=i;clear h i C G H D E;have u:=boxed4 w (.bool n) (.slice pa ka ca) (.bool n') (.slice pb kb cb) (.bool false) (.slice none 0 0) (.bool false) (.slice none 0 0) 66 66 66 66;go_enter Tryz.func203,Tryz.ntmps203;go_wp2_with fail;generalize (((w.alloc _).alloc _).alloc _).alloc _=W at u ⊢;obtain⟨z,ta,tb,b,a⟩:=u;have m:=Z z;refine(Yx _ _ _ n n' j lb false 248 (.inl ⟨rfl,rfl⟩) x y Hx.o Hy.o (T.o.grow m.o) (U.o.grow m.o) a2 a3 S.o).mono ?_;rintro _ w9 ⟨_,rfl,g,q,s,rfl,f,d⟩;rw[V.o] at f d;rw[X.o] at d;have P:=Z g;obtain⟨K,I,B,rfl,f⟩:=f;obtain⟨L,J,c9,rfl,d⟩:=d;obtain⟨Y,Hs⟩:=Z2 f d;obtain⟨sg,t⟩:∃ sg,decide (Q < 0)=sg:=⟨_,rfl⟩
 obtain⟨l,o⟩:∃ l,decide (R < 0)=l:=⟨_,rfl⟩
 rw[t,o];obtain⟨a1,a0⟩:=Z2 t o;have b:=b.grow g;have a:=a.grow g;have A:=R8 (s:=sg) (s':=l) (p:=K) (k:=I) (c:=B) (p':=L) (k':=J) (c':=c9) b a;have f0:=b.f0 0;have f1:=b.f0 1;have f2:=a.f0 0;have f3:=a.f0 1;have r0:=b.load.1;have r1:=b.load.2;have u0:=a.load.1;have u1:=a.load.2;clear z ta tb b a g f d t o;go_wp2_with fail;generalize (((w9.setCell _ _).setCell _ _).setCell _ _).setCell _ _=a5 at A ⊢;obtain⟨M,t2,F,a4⟩:=A;have x0:=M.load.1;have x1:=M.load.2;have y0:=t2.load.1;have y1:=t2.load.2;refine bodyPost_ret (v:=.tuple #[.agg #[.bool sg,.slice K I B],.agg #[.bool l,.slice L J c9],.int .i64 0]) (by simp[results,Tryz.results203,go_sem,x0,x1,y0,y1]) rfl ?_;refine⟨_,rfl,Below.trans (m.o.trans P.o) (Below.mono a4 (by omega)),_,_,rfl,?_,?_⟩
 ·rw[IntC,a1.o];exact⟨_,_,_,rfl,F _ _ Y.o⟩
 ·rw[IntC,a0.o];exact⟨_,_,_,rfl,F _ _ Hs.o⟩
theorem J3I (w:World)(N O:Value)(n n':Bool)(j lb:List Nat)(x y Q R:Int)(G:zval n j=x)(H:zval n' lb=y)(D:quoZ true x y=Q)(E:x - Q * y=R)
  (h:IntL w N n j) (i:IntL w O n' lb) (a2:j.length≤274877906944) (a3:lb.length≤274877906944) (C:y≠0):
  Calls Tryz.prog 286 #[N,O] w (Ret w fun r w'=>∃ q s,r = .tuple #[q,s,.int .i64 0]∧IntC w' q Q∧IntC w' s R):=by
 obtain⟨T,U,S,Hx,Hy,V,X⟩:=Z7 h i C G H D E;obtain⟨pa,ka,ca,rfl,h⟩:=h;obtain⟨pb,kb,cb,rfl,i⟩:=i;clear h i C G H D E;have u:=boxed4 w (.bool n) (.slice pa ka ca) (.bool n') (.slice pb kb cb) (.bool false) (.slice none 0 0) (.bool false) (.slice none 0 0) 66 66 66 66;go_enter Tryz.func286,Tryz.ntmps286;go_wp2_with fail;generalize (((w.alloc _).alloc _).alloc _).alloc _=W at u ⊢;obtain⟨z,ta,tb,b,a⟩:=u;have m:=Z z;refine(Yx _ _ _ n n' j lb true 293 (.inr ⟨rfl,rfl⟩) x y Hx.o Hy.o (T.o.grow m.o) (U.o.grow m.o) a2 a3 S.o).mono ?_;rintro _ w9 ⟨_,rfl,g,q,s,rfl,f,d⟩;rw[V.o] at f d;rw[X.o] at d;have P:=Z g;obtain⟨K,I,B,rfl,f⟩:=f;obtain⟨L,J,c9,rfl,d⟩:=d;obtain⟨Y,Hs⟩:=Z2 f d;obtain⟨sg,t⟩:∃ sg,decide (Q < 0)=sg:=⟨_,rfl⟩
 obtain⟨l,o⟩:∃ l,decide (R < 0)=l:=⟨_,rfl⟩
 rw[t,o];obtain⟨a1,a0⟩:=Z2 t o;have b:=b.grow g;have a:=a.grow g;have A:=R8 (s:=sg) (s':=l) (p:=K) (k:=I) (c:=B) (p':=L) (k':=J) (c':=c9) b a;have f0:=b.f0 0;have f1:=b.f0 1;have f2:=a.f0 0;have f3:=a.f0 1;have r0:=b.load.1;have r1:=b.load.2;have u0:=a.load.1;have u1:=a.load.2;clear z ta tb b a g f d t o;go_wp2_with fail;generalize (((w9.setCell _ _).setCell _ _).setCell _ _).setCell _ _=a5 at A ⊢;obtain⟨M,t2,F,a4⟩:=A;have x0:=M.load.1;have x1:=M.load.2;have y0:=t2.load.1;have y1:=t2.load.2;refine bodyPost_ret (v:=.tuple #[.agg #[.bool sg,.slice K I B],.agg #[.bool l,.slice L J c9],.int .i64 0]) (by simp[results,Tryz.results286,go_sem,x0,x1,y0,y1]) rfl ?_;refine⟨_,rfl,Below.trans (m.o.trans P.o) (Below.mono a4 (by omega)),_,_,rfl,?_,?_⟩
 ·rw[IntC,a1.o];exact⟨_,_,_,rfl,F _ _ Y.o⟩
 ·rw[IntC,a0.o];exact⟨_,_,_,rfl,F _ _ Hs.o⟩
theorem J4x {m:List Nat}(h:m.length≤2):gd m 1 * BB+gd m 0=nval m:=by
 match m,h with
 | [],_=>rfl
 | [a],_=>simp[gd,nval]
 | [a,b],_=>simp[gd,nval];rw[Nat.mul_comm];omega
theorem Ui (w:World)(v:Value)(l:List Nat)(t:Bool)(h:NatL w v l)(r:decide ((digs (nval l)).length≤2)=t):
  Calls Tryz.prog 273 #[v] w fun e w'=>e = .returned (.tuple #[.int .u64 (if t then nval l else 0),.bool t])∧w=w':=by
 obtain⟨u,x⟩:=Z2 h r;clear h r;go_enter Tryz.func273,Tryz.ntmps273;go_wp2_with fail;refine(L3 _ v l u.o).mono ?_;rintro _ _ ⟨⟨p,k,rfl,b⟩,rfl⟩;have g:=b.len;obtain⟨m,n⟩:∃ m,trimL l=m:=⟨_,rfl⟩
 rw[n] at b g;have i:digs (nval l)=m:=by rw[← Lh];exact n
 have s:nval m=nval l:=by rw[← i,Jf]
 obtain⟨a,y,o,c⟩:=Z4 b s (show decide (m.length≤2)=t by rw[← i];exact x.o) g;clear b s i n g;obtain⟨j,rfl⟩:∃ j:Nat,k=j:=⟨k,rfl⟩
 by_cases f:k≤2
 ·have d:t=true:=by rw[← o.o];exact decide_eq_true (by rw[c.o];exact f)
  subst d;have g1:=a.o.dig.gd 1;have q:=a.o.dig.gd 0;have z:=Pb g1 q;rw[J4x (by rw[c.o];exact f),y.o] at z;rw[Jd] at q g1;go_wp2_with fail;refine(Mo _ _ m 1 a.o (by decide)).mono ?_;rintro _ _ ⟨rfl,rfl⟩;go_wp2_with fail;refine(Mo _ _ m 0 a.o (by decide)).mono ?_;rintro _ _ ⟨rfl,rfl⟩;go_wp2_with fail;go_ret2;exact⟨by simp,rfl⟩
 ·have d:t=false:=by rw[← o.o];exact decide_eq_false (by rw[c.o];exact f)
  subst d;go_wp2_with fail;go_ret2;exact⟨by simp,rfl⟩
theorem Nj {v:Nat}:(digs v).length≤2↔v < 18446744073709551616:=by
 have e:BB ^ 2=18446744073709551616:=by decide
 rw[← e];exact⟨Kt,Kj⟩
def fits (z:Int):Bool:=decide (-9223372036854775808≤z∧z < 9223372036854775808)
theorem J71 {u:Int}(a:0≤u)(h:u≤9223372036854775808):wrap64 (IntKind.u64.wrap (-u)) = -u:=by
 rw[IntKind.wrap_u64];unfold wrap64;omega
theorem J3J (w:World)(o:Value)(n:Bool)(d:List Nat)(z:Int)(t:Bool)(a:zval n d=z)(b:fits z=t)(i:IntL w o n d):
  Calls Tryz.prog 292 #[o] w (Ret w fun r _=>r = .tuple #[.int .i64 (if t then z else 0),.bool t]):=by
 obtain⟨C,A,x,rfl,i⟩:=i;obtain⟨p,v,g⟩:=Z3 i a b;have B:=boxed1 w (.bool n) (.slice C A x) 66;clear i a b;go_enter Tryz.func292,Tryz.ntmps292;go_wp2_with fail;generalize w.alloc _=W at B ⊢;obtain⟨k,h⟩:=B;generalize w.heap.size=F at h ⊢;obtain⟨f,D⟩:=Z2 k h;have c0:=h.c0 W (Gr.refl _);have G:=h.c1 W (Gr.refl _);clear h k;go_wp2_with fail;obtain⟨s,c⟩:∃ s,decide ((digs (nval d)).length≤2)=s:=⟨_,rfl⟩
 have q:=Z c;refine(Ui _ _ d s (p.o.grow f.o) c).mono ?_;rintro _ _ ⟨rfl,rfl⟩;clear c;have a:=v.o;unfold zval at a;have c:=q.o
 cases s
 ·have j:¬ nval d < 18446744073709551616:=by
   rw[← Nj];exact of_decide_eq_false c
  have b:t=false:=by
   rw[← g.o];unfold fits;refine decide_eq_false ?_
   cases n<;>simp at a<;>omega
  subst b;clear a c j;go_wp2_with fail;go_ret2;exact⟨_,rfl,f.o,by simp⟩
 ·have j:nval d < 18446744073709551616:=by
   rw[← Nj];exact of_decide_eq_true c
  clear c;obtain⟨u,m⟩:∃ u:Int,((nval d:Nat):Int)=u:=⟨_,rfl⟩
  have y:0≤u:=by omega
  have j:u < 18446744073709551616:=by omega
  simp only[m,if_true] at a ⊢;clear m
  cases n
  ·simp only[Bool.false_eq_true,if_false] at a;by_cases l:u < 9223372036854775808
   ·have b:t=true:=by rw[← g.o];unfold fits;exact decide_eq_true (by omega)
    subst b;subst a;go_wp2_with fail;go_ret2;exact⟨_,rfl,f.o,by simp⟩
   ·have b:t=false:=by rw[← g.o];unfold fits;exact decide_eq_false (by omega)
    subst b;subst a;go_wp2_with fail;go_ret2;exact⟨_,rfl,f.o,by simp⟩
  ·simp only[if_true] at a;by_cases l:u≤9223372036854775808
   ·have b:t=true:=by rw[← g.o];unfold fits;exact decide_eq_true (by omega)
    subst b;subst a;have E:=J71 y l;go_wp2_with fail;go_ret2;exact⟨_,rfl,f.o,by simp[E]⟩
   ·have b:t=false:=by rw[← g.o];unfold fits;exact decide_eq_false (by omega)
    subst b;subst a;go_wp2_with fail;go_ret2;exact⟨_,rfl,f.o,by simp⟩
def denV (d:List Nat):Nat:=if nval d=0 then 1 else nval d
def dd (k:Nat):List Nat:=if k=1 then [] else digs k
def ratv (n:Bool)(l d:List Nat):Rat:=mkRat (zval n l) (denV d)
def cmpQ (x y:Rat):Int:=if x < y then -1 else if x=y then 0 else 1
def Sz (L:Nat)(x:Rat):Prop:=(digs x.num.natAbs).length≤L∧(digs x.den).length≤L
theorem S9 (d:List Nat):denV d≠0:=by unfold denV;split<;>omega
theorem J2L:denV []=1:=rfl
theorem S4 {k:Nat}(h:k≠0):denV (dd k)=k:=by
 unfold dd;by_cases a:k=1
 ·rw[if_pos a,a];rfl
 ·rw[if_neg a];unfold denV;rw[Jf,if_neg h]
theorem J2H {j k:Nat}(a:j≠0)(b:k≠0)(h:dd j=dd k):j=k:=by
 rw[← S4 a,← S4 b,h]
theorem Vr (z:Int):zval (decide (z < 0)) (digs z.natAbs)=z:=by
 unfold zval;rw[Jf]
 split<;>rename_i h<;>simp at h<;>omega
theorem J0y (x:Rat):ratv (decide (x.num < 0)) (digs x.num.natAbs) (dd x.den)=x:=by
 unfold ratv;rw[Vr,S4 x.den_nz,Rat.mkRat_self]
theorem Xj {k L:Nat}(h:(digs k).length≤L):(dd k).length≤L:=by
 unfold dd
 split
 ·exact Nat.zero_le _
 ·exact h
theorem J2G (k:Nat):Dig (dd k):=by
 unfold dd
 split
 ·exact fun x a=>by cases a
 ·exact Dig.digs k
theorem Qe (z:Int)(d:Nat)(a:d≠0):(mkRat z d).num=z / (Nat.gcd z.natAbs d:Nat):=by
 rw[Rat.num_mkRat,if_neg a,Nat.gcd_comm]
theorem Oq (z:Int)(d:Nat)(a:d≠0):(mkRat z d).den=d / Nat.gcd z.natAbs d:=by
 rw[Rat.den_mkRat,if_neg a,Nat.gcd_comm]
theorem Ty (z:Int)(d:Nat)(i:d≠0):(mkRat z d).num.natAbs=z.natAbs / Nat.gcd z.natAbs d:=by
 rw[Qe z d i];have c:Nat.gcd z.natAbs d ∣ z.natAbs:=Nat.gcd_dvd_left _ _;have b:0 < Nat.gcd z.natAbs d:=Nat.gcd_pos_of_pos_right _ (by omega);obtain⟨k,a⟩:=c;generalize Nat.gcd z.natAbs d=g at a b ⊢;rw[a,Nat.mul_div_cancel_left _ b];have f:z=g * (if z < 0 then -(k:Int) else k):=by
  split
  ·have:z = -(z.natAbs:Int):=by omega
   rw[this,a];simp[Int.mul_neg]
  ·have:z=(z.natAbs:Int):=by omega
   rw[this,a];simp
 have h:z / (g:Int)=if z < 0 then -(k:Int) else k:=by
  conv=>lhs;rw[f]
  exact Int.mul_ediv_cancel_left _ (by omega)
 rw[h]
 split<;>omega
theorem Tz (z:Int)(d:Nat)(f:d≠0):((mkRat z d).num < 0)↔z < 0:=by
 have i:0 < Nat.gcd z.natAbs d:=Nat.gcd_pos_of_pos_right _ (by omega);obtain⟨k,c⟩:(Nat.gcd z.natAbs d:Int) ∣ z:=Int.ofNat_dvd_left.2 (Nat.gcd_dvd_left _ _);rw[Qe z d f];generalize Nat.gcd z.natAbs d=g at c i ⊢;subst c;rw[Int.mul_ediv_cancel_left _ (by omega)];constructor
 ·intro h;exact Int.mul_neg_of_pos_of_neg (by omega) h
 ·intro h;by_cases c:k < 0
  ·exact c
  ·have:=Int.mul_nonneg (a:=(g:Int)) (b:=k) (by omega) (by omega);omega
theorem J0r (z:Int)(d:Nat)(f:d≠0):quoZ false z (Nat.gcd z.natAbs d:Nat)=(mkRat z d).num:=by
 have k:0 < Nat.gcd z.natAbs d:=Nat.gcd_pos_of_pos_right _ (by omega);have b:=Ty z d f;have c:=Tz z d f;have j:Nat.gcd z.natAbs d ∣ z.natAbs:=Nat.gcd_dvd_left _ _;generalize Nat.gcd z.natAbs d=g at b k j ⊢;unfold quoZ;have i:(sgn z * sgn (g:Int) < 0)↔z < 0:=by
  have:sgn (g:Int)=1:=by unfold sgn;rw[if_neg (by omega),if_neg (by omega)]
  rw[this];unfold sgn
  split
  ·simp;omega
  ·split<;>simp<;>omega
 simp only[Bool.false_and,Int.natAbs_natCast,Bool.false_eq_true,if_false,Nat.add_zero];rw[← b];by_cases a:z < 0
 ·rw[if_pos (i.2 a)];have:=c.2 a;omega
 ·rw[if_neg (fun h=>a (i.1 h))];have:=fun h=>a (c.1 h);omega
theorem J0s (z:Int)(d:Nat)(c:d≠0):quoZ false (d:Int) (Nat.gcd z.natAbs d:Nat)=((mkRat z d).den:Int):=by
 have f:0 < Nat.gcd z.natAbs d:=Nat.gcd_pos_of_pos_right _ (by omega);rw[Oq z d c];generalize Nat.gcd z.natAbs d=g at f ⊢;unfold quoZ;have h:¬ (sgn (d:Int) * sgn (g:Int) < 0):=by
  have a:sgn (g:Int)=1:=by unfold sgn;rw[if_neg (by omega),if_neg (by omega)]
  have b:sgn (d:Int)=1:=by unfold sgn;rw[if_neg (by omega),if_neg (by omega)]
  rw[a,b];decide
 simp only[Bool.false_and,Int.natAbs_natCast,Bool.false_eq_true,if_false,Nat.add_zero];rw[if_neg h]
theorem Zg (z:Int)(d:Nat):mkRat (-z) d = -mkRat z d:=(Rat.neg_mkRat z d).symm
theorem J2T {a b:Int}(h:0 < b):Rat.divInt a b=mkRat a b.natAbs:=by
 rw[← Rat.divInt_ofNat];congr 1;omega
theorem J2S {a b:Int}(h:b < 0):Rat.divInt a b=mkRat (-a) b.natAbs:=by
 rw[← Rat.divInt_ofNat,← Rat.neg_divInt_neg];congr 1;omega
theorem Vy (p r:Int){q s:Nat}(a:q≠0)(b:s≠0):mkRat p q+mkRat r s=mkRat (p * s+r * q) (q * s):=Rat.mkRat_add_mkRat p r a b
theorem Zn (p r:Int)(q s:Nat):mkRat p q * mkRat r s=mkRat (p * r) (q * s):=Rat.mkRat_mul_mkRat p r q s
theorem J49 (p r:Int){q s:Nat}(c:q≠0)(d:s≠0):mkRat p q < mkRat r s↔p * s < r * q:=by
 rw[Rat.mkRat_eq_div,Rat.mkRat_eq_div];have a:(0:Rat) < (q:Rat):=Rat.natCast_pos.2 (by omega);have b:(0:Rat) < (s:Rat):=Rat.natCast_pos.2 (by omega);rw[Rat.div_lt_iff a,show(r:Rat) / s * q=(r * q) / s by grind,Rat.lt_div_iff b];rw[← Rat.intCast_natCast s,← Rat.intCast_natCast q,← Rat.intCast_mul,← Rat.intCast_mul,Rat.intCast_lt_intCast]
theorem J34 (p r:Int){q s:Nat}(a:q≠0)(b:s≠0):mkRat p q=mkRat r s↔p * s=r * q:=Rat.mkRat_eq_iff a b
theorem J2z (p r:Int){q s:Nat}(a:q≠0)(b:s≠0):cmpZ (p * s) (r * q)=cmpQ (mkRat p q) (mkRat r s):=by
 unfold cmpZ cmpQ;simp only[J49 p r a b,J34 p r a b]
theorem J18 (p:Int){q:Nat}(a:q≠0):sgn p=sgn (mkRat p q).num:=by
 have h:=Tz p q a;have b:(mkRat p q).num=0↔p=0:=by rw[Rat.num_eq_zero,Rat.mkRat_eq_zero a]
 unfold sgn;simp only[h,b]
theorem J17 (x y:Rat):sgn (x - y).num=cmpQ x y:=by
 unfold sgn cmpQ;have a:(x - y).num < 0↔x < y:=by
  rw[← Int.not_le,Rat.num_nonneg,← Rat.le_iff_sub_nonneg,Rat.not_le]
 have b:(x - y).num=0↔x=y:=by
  rw[Rat.num_eq_zero];constructor
  ·intro h;grind
  ·intro h;subst h;grind
 simp only[a,b]
theorem X9 (p:Int){q:Nat}(c:q≠0):p / (q:Int)=(mkRat p q).floor:=by
 rw[Rat.floor_def];obtain⟨g,d,a,b⟩:∃ g:Nat,g≠0∧p=(mkRat p q).num * g∧q=(mkRat p q).den * g:=by
  rw[← Rat.normalize_eq_mkRat c];exact Rat.normalize_num_den' p q c
 generalize mkRat p q=x at a b ⊢;rw[a,b,Int.natCast_mul,Int.mul_ediv_mul_of_pos_left _ _ (by omega)]
theorem Tx (p:Int){q:Nat}(a:q≠0):(mkRat p q).num.natAbs≤p.natAbs∧(mkRat p q).den≤q:=by
 rw[Ty p q a,Oq p q a];exact⟨Nat.div_le_self _ _,Nat.div_le_self _ _⟩
theorem U9 {p:Int}{q L:Nat}(c:q≠0)(a:(digs p.natAbs).length≤L)(b:(digs q).length≤L):Sz L (mkRat p q):=by
 obtain⟨d,f⟩:=Tx p c;exact⟨Nat.le_trans (Kh d) a,Nat.le_trans (Kh f) b⟩
theorem Sz.mono {L M:Nat}{x:Rat}(h:Sz L x)(a:L≤M):Sz M x:=⟨Nat.le_trans h.1 a,Nat.le_trans h.2 a⟩
theorem No {L:Nat}{x:Rat}(h:Sz L x):Sz L (-x):=by
 refine⟨?_,h.2⟩;rw[show(-x).num = -x.num from rfl,Int.natAbs_neg];exact h.1
theorem J2Q {k L:Nat}(a:k≠0)(h:(digs k).length≤L):1≤L:=by
 cases L with
 | zero=>exact absurd (Ka.1 (List.eq_nil_of_length_eq_zero (Nat.le_zero.1 h))) a
 | succ n=>omega
theorem J6l {L M:Nat}{x y:Rat}(a:Sz L x)(c:Sz M y):Sz (L+M+1) (x+y):=by
 rw[Rat.add_def'];refine U9 (Nat.mul_ne_zero x.den_nz y.den_nz) ?_ ?_
 ·refine Nat.le_trans (Kh (b:=x.num.natAbs * y.den+y.num.natAbs * x.den) ?_) (Ny (k:=L+M) (Ok a.1 c.2) ?_)
  ·refine Nat.le_trans (Int.natAbs_add_le _ _) ?_;rw[Int.natAbs_mul,Int.natAbs_mul,Int.natAbs_natCast,Int.natAbs_natCast];exact Nat.le_refl _
  ·rw[Nat.add_comm L M];exact Ok c.1 a.2
 ·exact Nat.le_succ_of_le (Ok a.2 c.2)
theorem J6m {L M:Nat}{x y:Rat}(a:Sz L x)(b:Sz M y):Sz (L+M+1) (x - y):=by
 rw[Rat.sub_eq_add_neg];exact J6l a (No b)
theorem Oz {L:Nat}{z:Int}(h:(digs z.natAbs).length≤L)(a:1≤L):Sz L (z:Rat):=by
 refine⟨h,?_⟩;rw[Rat.den_intCast];exact Nat.le_trans (by decide +kernel) a
theorem Rj (z:Int):mkRat z 1=(z:Rat):=by
 rw[Rat.mkRat_eq_div]
 grind
end Go.Proofs.YtcjgimlcefhhmaaGreatDoor
namespace Go.Proofs.YtcjgimlcefhhmaaGreatDoor
namespace Prf
def OnD (D K:Nat)(x:Rat):Prop:=∃ z:Int,x * ((D:Int):Rat)=(z:Rat)∧z.natAbs≤K
theorem OnD.mono {D K a:Nat}{x:Rat}(h:OnD D K x)(d:K≤a):OnD D a x:=by
 obtain⟨z,b,c⟩:=h;exact⟨z,b,by omega⟩
theorem Ow (D K:Nat):OnD D K 0:=⟨0,by grind,by omega⟩
theorem Rp {D K M:Nat}{x y:Rat}(c:OnD D K x)(d:OnD D M y):OnD D (K+M) (x+y):=by
 obtain⟨z,a,f⟩:=c;obtain⟨u,b,g⟩:=d;exact⟨z+u,by rw[Rat.intCast_add,← a,← b];grind,by omega⟩
theorem J0b {D K:Nat}{x:Rat}(b:OnD D K x):OnD D K (-x):=by
 obtain⟨z,a,c⟩:=b;exact⟨-z,by rw[Rat.intCast_neg,← a];grind,by omega⟩
theorem J4E {D K M:Nat}{x y:Rat}(a:OnD D K x)(b:OnD D M y):OnD D (K+M) (x - y):=by
 rw[Rat.sub_eq_add_neg];exact Rp a (J0b b)
theorem Ov {D K:Nat}{x:Rat}{n:Int}{N:Nat}(c:n.natAbs≤N)(d:OnD D K x):OnD D (N * K) ((n:Rat) * x):=by
 obtain⟨z,a,b⟩:=d;exact⟨n * z,by rw[Rat.intCast_mul,← a];grind,by rw[Int.natAbs_mul];exact Nat.mul_le_mul c b⟩
theorem J4F (D:Nat){n:Int}{N:Nat}(a:n.natAbs≤N):OnD D (N * D) (n:Rat):=
 ⟨n * (D:Int),by rw[Rat.intCast_mul],by rw[Int.natAbs_mul,Int.natAbs_natCast];exact Nat.mul_le_mul a (Nat.le_refl _)⟩
theorem OnD.sz {D K L:Nat}{x:Rat}(h:OnD D K x)(a:D≠0)(c:D < BB ^ L)(g:K < BB ^ L):Sz L x:=by
 obtain⟨z,b,d⟩:=h;have f:((D:Int):Rat)≠0:=by
  intro h;exact a (by simpa using h)
 have e:x=mkRat z D:=by
  rw[Rat.mkRat_eq_div,← b];have:((D:Nat):Rat)=((D:Int):Rat):=(Rat.intCast_natCast D).symm
  grind
 rw[e];exact U9 a (Kj (by omega)) (Kj c)
def prodD:List Rat→Nat
 | []=>1
 | x :: l=>x.den * prodD l
theorem J0l:∀ l,prodD l≠0
 | []=>by decide
 | x :: l=>Nat.mul_ne_zero x.den_nz (J0l l)
theorem J0k {B:Nat}(a:0 < B):∀ (l:List Rat),(∀ x ∈ l,x.den≤B)→prodD l≤B ^ l.length
 | [],_=>by simp[prodD]
 | x :: l,h=>by
  have i:=J0k a l (fun y b=>h y (List.mem_cons_of_mem _ b));have:=h x (List.mem_cons_self ..);rw[List.length_cons,Nat.pow_succ];show x.den * prodD l≤_;rw[Nat.mul_comm];exact Nat.mul_le_mul i this
theorem J0j:∀ (l:List Rat) (x:Rat),x ∈ l→x.den ∣ prodD l
 | y :: l,x,h=>by
  rcases List.mem_cons.1 h with rfl|h
  ·exact Nat.dvd_mul_right _ _
  ·exact Nat.dvd_trans (J0j l x h) (Nat.dvd_mul_left _ _)
theorem J4D {D M:Nat}{x:Rat}(h:x.den ∣ D)(a:x.num.natAbs≤M):OnD D (M * D) x:=by
 obtain⟨k,rfl⟩:=h;refine⟨x.num * k,?_,?_⟩
 ·rw[Int.natCast_mul,Rat.intCast_mul,Rat.intCast_mul];have:x * ((x.den:Int):Rat)=(x.num:Rat):=by
   have b:=Rat.num_divInt_den x;rw[Rat.intCast_natCast];have c:(x.den:Rat)≠0:=by simpa using x.den_nz
   have d:x=(x.num:Rat) / (x.den:Rat):=by
    conv=>lhs;rw[← Rat.mkRat_self x,Rat.mkRat_eq_div]
   grind
  rw[← Rat.mul_assoc,this]
 ·rw[Int.natAbs_mul,Int.natAbs_natCast];refine Nat.mul_le_mul a ?_;exact Nat.le_mul_of_pos_left _ (Nat.pos_of_ne_zero x.den_nz)
theorem J29 (y:List Rat)(i:Nat):atQ y i=0∨atQ y i ∈ y:=by
 unfold atQ
 cases h:y[i]? with
 | none=>exact .inl rfl
 | some x=>exact .inr (List.mem_of_getElem? h)
theorem Zd {n k:Nat}(h:(digs n).length≤k):n < BB ^ k:=by
 rcases Nat.lt_or_ge n (BB ^ k) with a|a
 ·exact a
 ·exfalso;have b:=Kh a;have c:(digs (BB ^ k)).length=k+1:=Xq (Nat.le_refl _) (Nat.pow_lt_pow_right (by decide) (by omega));omega
theorem common {y:List Rat}(g:∀ x ∈ y,Sz 4 x)(k:y.length≤16):∃ D U:Nat,D≠0∧D≤U∧U≤BB ^ 68∧D≤BB ^ 64∧∀ i,OnD D U (atQ y i):=by
 have a:0 < BB ^ 4:=Nat.pow_pos (by decide);have c:prodD y≤(BB ^ 4) ^ y.length:=J0k a y fun x b=>Nat.le_of_lt (Zd (g x b).2);have d:(BB ^ 4) ^ y.length≤(BB ^ 4) ^ 16:=Nat.pow_le_pow_right a k;have f:(BB ^ 4) ^ 16=BB ^ 64:=(Nat.pow_mul BB 4 16).symm;have j:BB ^ 68=BB ^ 4 * BB ^ 64:=Nat.pow_add BB 4 64;have l:=fun x (b:x ∈ y)=>Nat.le_of_lt (Zd (g x b).1);refine⟨prodD y,BB ^ 4 * prodD y,J0l y,Nat.le_mul_of_pos_left _ a,?_,f ▸ Nat.le_trans c d,fun i=>?_⟩
 ·rw[j];exact Nat.mul_le_mul (Nat.le_refl _) (f ▸ Nat.le_trans c d)
 ·rcases J29 y i with h|h
  ·rw[h];exact Ow _ _
  ·exact J4D (J0j y _ h) (l _ h)
theorem Ll {n:Int}(h:In n):n.natAbs≤1099511627776:=by obtain⟨a,b⟩:=h;omega
theorem Ux {n:Nat}:∀ (l:List Ji) (a:Int),Inc n a l→∀ j:Nat,((j:Int)≤a→rowCoef l j=0)∧In (rowCoef l j)
 | [],a,_,j=>⟨fun _=>rfl,by simp[rowCoef,In]⟩
 | t :: l,a,h,j=>by
  obtain⟨⟨g,i,k,d⟩,f⟩:=h;obtain⟨c,i2⟩:=Ux l t.v f j;have e:rowCoef (t :: l) j=(if t.v=(j:Int) then t.c else 0)+rowCoef l j:=by simp[rowCoef]
  rw[e];by_cases b:t.v=(j:Int)
  ·rw[if_pos b,c (by omega)];exact⟨fun h=>by omega,by simpa using d⟩
  ·rw[if_neg b];exact⟨fun h=>by rw[c (by omega)];rfl,by simpa using i2⟩
theorem Yo {n:Nat}:∀ (k:Nat) (l:List Ji) (a:Int),Inc n a l→Inc n a (l.take k)
 | 0,_,_,_=>by simp[Inc]
 | k+1,[],_,_=>by simp[Inc]
 | k+1,t :: l,a,h=>⟨h.1,Yo k l t.v h.2⟩
theorem J2.coef {n:Nat}{r:RowS}(h:J2 n r)(k j:Nat):In (rowCoef (r.terms.take k) j):=(Ux _ _ (Yo k _ _ h.2.2.2.2.2) j).2
theorem J2.coefs {n:Nat}{r:RowS}(h:J2 n r)(j:Nat):In (rowCoef r.terms j):=(Ux _ _ h.2.2.2.2.2 j).2
theorem Pk {D K:Nat}{f:Nat→Rat}:∀ n,(∀ i,i < n→OnD D K (f i))→OnD D (n * K) (sumQ f n)
 | 0,_=>Ow _ _
 | n+1,h=>by
  rw[Ls];refine(Rp (Pk n fun i a=>h i (by omega)) (h n (by omega))).mono ?_;rw[Nat.add_mul];omega
theorem J4B {p:Prg}{y:List Rat}{D U:Nat}(a:∀ r ∈ p.rows,J2 p.vars.length r)(b:∀ i,OnD D U (atQ y i))(j i:Nat):OnD D (1099511627776 * U) (cA p y j i):=by
 unfold cA
 cases h:p.rows[i]? with
 | none=>exact Ow _ _
 | some r=>exact Ov (Ll ((a r (List.mem_of_getElem? h)).coefs j)) (b i)
theorem J4C {p:Prg}{y:List Rat}{D U:Nat}(a:∀ r ∈ p.rows,J2 p.vars.length r)(b:∀ i,OnD D U (atQ y i))(i:Nat):OnD D (1099511627776 * U) (cB p y i):=by
 unfold cB
 cases h:p.rows[i]? with
 | none=>exact Ow _ _
 | some r=>exact Ov (Ll (a r (List.mem_of_getElem? h)).2.2.2.1) (b i)
theorem Sr {D U K:Nat}{x:Rat}(b:D≠0)(j:U≤BB ^ 68)(g:D≤BB ^ 64)(i:K≤79228162514264337593543950335)(h:OnD D (K * U) x):Sz 80 x:=by
 have a:BB ^ 80=BB ^ 12 * BB ^ 68:=Nat.pow_add BB 12 68;refine h.sz b ?_ ?_
 ·exact Nat.lt_of_le_of_lt g (Nat.pow_lt_pow_right (by decide) (by decide))
 ·rw[a];have c:K * U≤K * BB ^ 68:=Nat.mul_le_mul (Nat.le_refl _) j;have d:0 < BB ^ 68:=Nat.pow_pos (by decide);have f:K < BB ^ 12:=Nat.lt_of_le_of_lt i (by decide);exact Nat.lt_of_le_of_lt c (Nat.mul_lt_mul_of_lt_of_le f (Nat.le_refl _) d)
structure Calm (p:Prg)(y:List Rat):Prop where
 y0:∀ i,Sz 80 (atQ y i)
 t:∀ (c:Int) i,In c→Sz 80 ((c:Rat) * atQ y i)
 a:∀ i j,i≤p.rows.length→Sz 80 (sumQ (cA p y j) i)
 ak:∀ i j k r,p.rows[i]?=some r→Sz 80 (sumQ (cA p y j) i+(rowCoef (r.terms.take k) j:Rat) * atQ y i)
 b:∀ i,i≤p.rows.length→Sz 80 (sumQ (cB p y) i)
 l0:∀ j,Sz 80 (lTerm p.vars (fun j => - combA p y j) j)
 l:∀ j,j≤p.vars.length→Sz 80 (sumQ (lTerm p.vars (fun j => - combA p y j)) j)
 bl:Sz 80 (combB p y+leastS p.vars (fun j => - combA p y j))
 r0:∀ j,Sz 80 (loT p.vars (combA p y) j)
 r:∀ j,j≤p.vars.length→Sz 80 (combB p y - sumQ (loT p.vars (combA p y)) j)
theorem P4 {p:Prg}{y:List Rat}(L:∀ x ∈ y,Sz 4 x)(I:y.length≤16)(q:∀ r ∈ p.rows,J2 p.vars.length r)(A:∀ v ∈ p.vars,Ky v)(g:p.rows.length≤40)(J:p.vars.length≤10):Calm p y:=by
 obtain⟨D,U,C,M,G,E,h⟩:=common L I;have a:∀ {K:Nat} {x:Rat},K≤79228162514264337593543950335→OnD D (K * U) x→Sz 80 x:=fun F h=>Sr C G E F h;have l:∀ i j,i≤40→OnD D (40 * 1099511627776 * U) (sumQ (cA p y j) i):=fun i j f=>by
  refine(Pk i fun i _=>J4B q h j i).mono ?_;rw[Nat.mul_assoc];exact Nat.mul_le_mul f (Nat.le_refl _)
 have m:∀ i,i≤40→OnD D (40 * 1099511627776 * U) (sumQ (cB p y) i):=fun i f=>by
  refine(Pk i fun i _=>J4C q h i).mono ?_;rw[Nat.mul_assoc];exact Nat.mul_le_mul f (Nat.le_refl _)
 have w:∀ j,OnD D (40 * 1099511627776 * U) (combA p y j):=fun j=>l _ j g;have n:∀ j,OnD D (1099511627776 * (40 * 1099511627776 * U)) (lTerm p.vars (fun j => - combA p y j) j):=fun j=>by
  unfold lTerm
  cases b:p.vars[j]? with
  | none=>exact Ow _ _
  | some v=>
   have k:=A v (List.mem_of_getElem? b);refine Ov ?_ (J0b (w j))
   split
   ·exact Ll k.2.1
   ·exact Ll k.1
 have o:∀ j,j≤10→OnD D (10 * (1099511627776 * (40 * 1099511627776 * U))) (sumQ (lTerm p.vars (fun j => - combA p y j)) j):=fun j b=>
  (Pk j fun i _=>n i).mono (Nat.mul_le_mul b (Nat.le_refl _))
 have s:∀ j,OnD D (1099511627776 * (40 * 1099511627776 * U)) (loT p.vars (combA p y) j):=fun j=>by
  unfold loT
  cases b:p.vars[j]? with
  | none=>exact Ow _ _
  | some v=>
   have k:=A v (List.mem_of_getElem? b);simp only[];rw[Rat.mul_comm];exact Ov (Ll k.1) (w j)
 have z:∀ j,j≤10→OnD D (10 * (1099511627776 * (40 * 1099511627776 * U))) (sumQ (loT p.vars (combA p y)) j):=fun j b=>
  (Pk j fun i _=>s i).mono (Nat.mul_le_mul b (Nat.le_refl _))
 have t:1099511627776 * (40 * 1099511627776 * U)=1099511627776 * 43980465111040 * U:=by rw[← Nat.mul_assoc]
 have B:10 * (1099511627776 * (40 * 1099511627776 * U))=10 * 1099511627776 * 43980465111040 * U:=by rw[t,← Nat.mul_assoc]
 have u:40 * 1099511627776 * U+10 * 1099511627776 * 43980465111040 * U=(40 * 1099511627776+10 * 1099511627776 * 43980465111040) * U:=(Nat.add_mul _ _ _).symm;rw[t] at n s;rw[B] at o z;refine⟨fun i=>a (K:=1) (by decide) (by rw[Nat.one_mul];exact h i),fun c i H=>a (by decide) (Ov (Ll H) (h i)),fun i j f=>a (by decide) (l i j (by omega)),fun i j k r g=>?_,
  fun i f=>a (by decide) (m i (by omega)),fun j=>a (by decide) (n j),fun j b=>a (by decide) (o j (by omega)),?_,fun j=>a (by decide) (s j),fun j b=>?_⟩
 ·have f:=(List.getElem?_eq_some_iff.1 g).1;have d:=Rp (l i j (by omega)) (Ov (Ll ((q r (List.mem_of_getElem? g)).coef k j)) (h i));rw[← Nat.add_mul] at d;exact a (by decide) d
 ·have d:=Rp (m _ g) (o _ J);rw[u] at d;exact a (by decide) d
 ·have d:=J4E (m _ g) (z j (by omega));rw[u] at d;exact a (by decide) d
end Prf
end Go.Proofs.YtcjgimlcefhhmaaGreatDoor

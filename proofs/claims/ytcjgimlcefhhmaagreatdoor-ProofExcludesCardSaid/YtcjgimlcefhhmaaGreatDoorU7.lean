/- Texts: LeafL Int IntB IntC. -/
import Derived.Lib.ItoaNum
import Derived.Test.YtcjgimlcefhhmaaGreatDoorU6
set_option linter.unusedVariables false
set_option linter.unusedSimpArgs false
set_option maxRecDepth 100000
set_option maxHeartbeats 12800000
namespace Go.Proofs.YtcjgimlcefhhmaaGreatDoor
open Go.RowKit
theorem J1D {x:Nat}(h:x≠0)(hx:x < BB):1≤Lib.bitLen x∧Lib.bitLen x≤32∧2 ^ (Lib.bitLen x - 1)≤x∧x < 2 ^ Lib.bitLen x:=by
 have h1:=Lib.bitLenAux_bounds 64 x (by rw[Jc] at hx;omega) h
 exact⟨h1.1,Vh hx,h1.2.1,h1.2.2⟩
theorem J4c {B k:Nat}(hk:(digs B).length=k+2):
  ∃ s:Nat,s≤31∧(32 - (Lib.bitLen (gd (digs B) (k+1)):Int)=(s:Int))∧(digs (B * 2 ^ s)).length=k+2∧2147483648≤gd (digs (B * 2 ^ s)) (k+1):=by
 obtain⟨t,ht⟩:∃ t,gd (digs B) (k+1)=t:=⟨_,rfl⟩
 have ht0:t≠0:=by
  have:=V6 (n:=B) (fun e=>by rw[e,Kk] at hk;cases hk)
  rw[hk] at this
  rw[← ht];exact this
 have htB:t < BB:=by rw[← ht];exact(Dig.digs B).gd _
 obtain⟨b1,b2,b3,b4⟩:=J1D ht0 htB
 rw[ht]
 obtain⟨c,hc⟩:∃ c,Lib.bitLen t=c:=⟨_,rfl⟩
 rw[hc] at b1 b2 b3 b4 ⊢
 have hT:2 ^ c * 2 ^ (32 - c)=BB:=by rw[← Nat.pow_add,show c+(32 - c)=32 from by omega,Jc]
 have hT2:2 ^ (c - 1) * 2 ^ (32 - c)=2147483648:=by rw[← Nat.pow_add,show c - 1+(32 - c)=31 from by omega]
 have htop:=Pt (digs B) (k+1) hk
 rw[Je,ht] at htop
 have htk:=Oa (Dig.digs B) (k+1)
 have hX:0 < BB ^ (k+1):=Nat.pow_pos Jt
 generalize nval ((digs B).take (k+1))=R at *
 obtain⟨X,hXe⟩:∃ X,BB ^ (k+1)=X:=⟨_,rfl⟩
 obtain⟨S,hS⟩:∃ S,2 ^ (32 - c)=S:=⟨_,rfl⟩
 have hS0:1≤S:=by rw[← hS];exact Nat.one_le_two_pow
 rw[hS] at hT hT2
 rw[hXe] at htop htk hX
 have h1:2147483648≤t * S:=by rw[← hT2];exact Nat.mul_le_mul_right _ b3
 have h2:(t+1) * S≤BB:=by rw[← hT];exact Nat.mul_le_mul_right _ b4
 have hBS:B * S=R * S+X * (t * S):=by rw[htop,Nat.add_mul,Nat.mul_assoc]
 have hlow:X * 2147483648≤B * S:=by rw[hBS];have:=Nat.mul_le_mul_left X h1;omega
 have hup:B * S < X * BB:=by
  have h3:=Nat.mul_le_mul_left X h2
  rw[Nat.add_mul,Nat.one_mul,Nat.mul_add] at h3
  have h4:(R+1) * S≤X * S:=Nat.mul_le_mul_right _ htk
  rw[Nat.add_mul,Nat.one_mul] at h4
  rw[hBS];omega
 have hlen:(digs (B * S)).length=k+2:=by
  refine V7 (k:=k+1) ?_ ?_
  ·rw[hXe]
   have:X * 1≤X * 2147483648:=Nat.mul_le_mul_left _ (by omega)
   omega
  ·rw[Nat.pow_succ,hXe];exact hup
 refine⟨32 - c,by omega,by omega,by rw[hS];exact hlen,?_⟩
 rw[hS]
 have e:=Pt (digs (B * S)) (k+1) hlen
 rw[Je] at e
 have e2:=Oa (Dig.digs (B * S)) (k+1)
 rw[hXe] at e e2
 rw[e] at hlow
 clear e hup hBS
 generalize gd (digs (B * S)) (k+1)=f at *
 generalize nval ((digs (B * S)).take (k+1))=R' at *
 refine Nat.le_of_lt_succ (Nat.lt_of_mul_lt_mul_left (a:=X) ?_)
 show X * 2147483648 < X * (f+1)
 rw[Nat.mul_add,Nat.mul_one]
 omega
theorem J39 {ul vl:List Nat}{k i:Nat}(hu:Dig ul)(hv:Dig vl)(hvl:vl.length=k+2)(hf:2147483648≤gd vl (k+1))(hN:nval ul < BB ^ (i+1) * nval vl):
  gd ul (i+k+2)≤gd vl (k+1)∧nval ul < BB ^ (i+(k+2+1))∧
  (qhat (gd ul (i+k+2)) (gd ul (i+k+1)) (gd ul (i+k)) (gd vl (k+1)) (gd vl k)=0∨BB ^ i * ((qhat (gd ul (i+k+2)) (gd ul (i+k+1)) (gd ul (i+k)) (gd vl (k+1)) (gd vl k) - 1) * nval vl)≤nval ul)∧
  nval ul < BB ^ i * ((qhat (gd ul (i+k+2)) (gd ul (i+k+1)) (gd ul (i+k)) (gd vl (k+1)) (gd vl k)+1) * nval vl):=by
 have hV:=J4l vl k hvl
 have hVl:=Oa hv k
 have hVlt:=Lh vl hv
 rw[hvl] at hVlt
 have hN2:nval ul < BB ^ (i+(k+2+1)):=by
  refine Nat.lt_of_lt_of_le hN ?_
  rw[show i+(k+2+1)=(i+1)+(k+2) from by omega,Nat.pow_add BB (i+1)]
  exact Nat.mul_le_mul_left _ (Nat.le_of_lt hVlt)
 have hU:=J4m hu (i+k) (by rw[show i+k+3=i+(k+2+1) from by omega];exact hN2)
 have hUl:=Oa hu (i+k)
 have hsp:=J5j (I:=BB ^ i) (P:=BB ^ k) (N:=nval ul) (Nl:=nval (ul.take (i+k))) (V:=nval vl) (Vl:=nval (vl.take k)) (x:=gd ul (i+k+2)) (y:=gd ul (i+k+1)) (z:=gd ul (i+k)) (f:=gd vl (k+1)) (s:=gd vl k)
  (by rw[← Nat.pow_add];exact hU) (by rw[← Nat.pow_add];exact hUl) hV hVl (by omega) (by rw[← Nat.mul_assoc,← Nat.pow_succ];exact hN)
 refine⟨?_,hN2,.inr hsp.1,hsp.2⟩
 refine Nat.le_of_not_lt fun hlt=>?_
 -- x≥f+1
 have h1:nval vl < BB ^ (k+1) * (gd vl (k+1)+1):=by
  rw[Pt vl (k+1) hvl,Nat.mul_add]
  have:=Oa hv (k+1)
  omega
 have h2:BB ^ (i+1) * nval vl≤BB ^ (i+1) * (BB ^ (k+1) * (gd vl (k+1)+1)):=Nat.mul_le_mul_left _ (Nat.le_of_lt h1)
 have h3:BB ^ (i+1) * (BB ^ (k+1) * (gd vl (k+1)+1))≤BB ^ (i+k+2) * gd ul (i+k+2):=by
  rw[← Nat.mul_assoc,← Nat.pow_add,show i+1+(k+1)=i+k+2 from by omega]
  exact Nat.mul_le_mul_left _ hlt
 have h4:BB ^ (i+k+2) * gd ul (i+k+2)≤nval ul:=by
  have a:=M0 ul (i+k+2)
  rw[K4,Nat.mul_add] at a
  omega
 omega
theorem J41 (w:World)(va vb:Value)(la lb:List Nat)(ha:NatL w va la)(hb:NatL w vb lb)(hla:la.length≤1099511627776)(hlb:lb.length≤1099511627776)(hle:nval lb≤nval la)(k:Nat)(hk:(digs (nval lb)).length=k+2):
  Calls Tryz.prog 233 #[va,vb] w (Ret w fun r w'=>∃ x y,r = .tuple #[x,y,.int .i64 0]∧NatL w' x (digs (nval la / nval lb))∧NatL w' y (digs (nval la % nval lb))):=by
 have HA:=ξ ha
 have HB:=ξ hb
 have Hle:=ξ hle
 have HLa:=ξ (Lk la ha.dig)
 have HLb:=ξ (Lk lb hb.dig)
 obtain⟨cz,hcz⟩:∃ cz,cmpZ (nval la) (nval lb)=cz:=⟨_,rfl⟩
 have hc0:¬ cz < 0:=by rw[← hcz,Nb];omega
 have Hcz:=ξ hcz
 obtain⟨s,hs31,hs,hVlen,hVtop⟩:=J4c hk
 obtain⟨na,hna⟩:∃ n,(digs (nval la)).length=n:=⟨_,rfl⟩
 have hkn:k+2≤na:=by
  rw[← hna,← hk]
  refine Nat.le_of_not_lt fun h=>?_
  have:=Tb h
  omega
 have hna2:na≤1099511627776:=by rw[← hna];exact Nat.le_trans HLa.out hla
 have Hna:=ξ hna
 have Hk:=ξ hk
 have Hs:=ξ hs
 have HVlen:=ξ hVlen
 have HVtop:=ξ hVtop
 have htop:=(Dig.digs (nval lb)).gd (k+1)
 obtain⟨top,htp⟩:∃ top,gd (digs (nval lb)) (k+1)=top:=⟨_,rfl⟩
 rw[htp,Jc] at htop
 have Htp:=ξ htp
 clear ha hb hle hcz hna hk hs hVlen hVtop hla hlb htp
 go_enter Tryz.func233,Tryz.ntmps233
 go_wp2_with fail
 refine(Lg _ _ la HA.out).mono ?_
 rintro _ _ ⟨⟨p,na',rfl,hr⟩,rfl⟩
 obtain rfl:na=na':=by rw[← hr.len,← Hna.out];rfl
 have Hr:=ξ hr
 clear hr
 go_wp2_with fail
 refine(Lg _ _ lb HB.out).mono ?_
 rintro _ _ ⟨⟨q,nb,rfl,hr2⟩,rfl⟩
 obtain rfl:nb=k+2:=by rw[← hr2.len,← Hk.out];rfl
 have Hr2:=ξ hr2
 clear hr2
 go_wp2_with fail
 refine(N8 _ _ _ _ _ Hr.out Hr2.out (by rw[trimL,Hna.out];omega) (by rw[trimL,Hk.out];omega)).mono ?_
 rintro _ _ ⟨rfl,rfl⟩
 have e1:cmpZ (nval (trimL la)) (nval (trimL lb))=cz:=by rw[← Hcz.out,trimL,trimL,Je,Je]
 rw[e1]
 clear e1
 obtain⟨b,o,rfl,hc⟩:=Hr2.out.at (k+1) (by rw[trimL,Hk.out];omega)
 rw[show gd (trimL lb) (k+1)=top from Htp.out] at hc
 go_wp2_with fail
 have hs':32 - (Lib.bitLen top:Int)=s:=by rw[← Htp.out];exact Hs.out
 refine(Tryz.bits_LeadingZeros32 _ _ (by omega) (by omega)).mono ?_
 rintro _ w0 ⟨rfl,hw0⟩
 obtain rfl:w=w0:=hw0.symm
 rw[Int.toNat_natCast,hs']
 clear hs'
 go_wp2_with fail
 refine(Zc _ _ (trimL la) s Hr.out (by rw[trimL,Hna.out];omega) hs31).mono ?_
 rintro _ w1 ⟨rfl,g1,ul,hu1,hu2,hu3⟩
 have G1:=ξ g1
 have Hrow1:=ξ hu1
 have hla':(trimL la).length=na:=Hna.out
 rw[hla'] at hu2 ⊢
 have Hul:=ξ hu2
 have Huv:=ξ (show nval ul=nval la * 2 ^ s by rw[hu3,trimL,Je])
 have Hr2':=ξ (Hr2.out.grow g1)
 clear g1 hu1 hu2 hu3 hla'
 go_wp2_with fail
 refine(Zc _ _ (trimL lb) s Hr2'.out (by rw[trimL,Hk.out];omega) hs31).mono ?_
 rintro _ w2 ⟨rfl,g2,vx,hv1,hv2,hv3⟩
 have G2:=ξ (G1.out.trans g2)
 have Hrow1':=ξ (Hrow1.out.grow g2)
 have hlb':(trimL lb).length=k+2:=Hk.out
 rw[hlb'] at hv2 ⊢
 have hread:=hv1.read (k+2+1) (by rw[hv2];exact Nat.le_refl _) (by omega)
 rw[hv2] at hread
 have Hlt1:=ξ (Hrow1.out.lt)
 have HVblk:=ξ (hv1.lt)
 go_wp2_with fail
 refine(Tj _ _ _ _ vx hread).mono ?_
 rintro _ _ ⟨⟨kk,rfl,hv⟩,rfl⟩
 have hvx:trimL vx=digs (nval lb * 2 ^ s):=by rw[trimL,hv3,trimL,Je]
 rw[hvx] at hv
 obtain rfl:kk=k+2:=by rw[← hv.len];exact HVlen.out
 have HV:=ξ hv
 obtain⟨gu,hgu⟩:∃ gu,w.heap.size=gu:=⟨_,rfl⟩
 obtain⟨gv,hgv⟩:∃ gv,w1.heap.size=gv:=⟨_,rfl⟩
 rw[hgu] at Hrow1' Hlt1
 rw[hgv] at HV Hlt1 HVblk
 rw[hgu,hgv]
 have Hgu:=ξ hgu
 clear hread hv1 hv2 hv3 hlb' hv hvx Hrow1 Hr2' g2 hgu hgv
 have hgne:gu < gv:=Hlt1.out
 have hgvlt:gv < w2.heap.size:=HVblk.out
 obtain⟨M,hM⟩:∃ M,M+(k+2)=na+1:=⟨na - k - 1,by omega⟩
 obtain⟨gq,hgq⟩:∃ gq,w2.heap.size=gq:=⟨_,rfl⟩
 have Hgq:=ξ hgq
 have hgvq:gv < gq:=by omega
 clear hgq hgvlt hw0
 go_wp2_with (at_make;go_must (refine P6 rfl _ _ 64 rfl (by kernel_rfl) M _ rfl rfl (by omega) (by omega) ?_;rw[Hgq.out];intro w3 hq3 hgr3 hsz3))
 obtain⟨V,hV⟩:∃ V,nval lb * 2 ^ s=V:=⟨_,rfl⟩
 have HVe:=ξ hV
 rw[hV] at HV HVlen HVtop
 obtain⟨vl,hvl⟩:∃ vl,digs V=vl:=⟨_,rfl⟩
 rw[hvl] at HV HVlen HVtop
 have Hnv:=ξ (show nval vl=V by rw[← hvl,Je])
 have HVd:=ξ (show Dig vl by rw[← hvl];exact Dig.digs V)
 have Hrow3:=ξ (Hrow1'.out.grow hgr3)
 have HV3:=ξ (HV.out.grow hgr3)
 have Hq3:=ξ hq3
 have G3:=ξ (G2.out.trans hgr3)
 have hsz:w.heap.size≤gu:=by rw[Hgu.out];exact Nat.le_refl _
 have HG0:=ξ (show w.heap.size≤w3.heap.size from G3.out.size)
 have Hinit:=ξ (show nval ul < V * BB ^ M by
  have h1:nval la < BB ^ na:=by have:=Kl (n:=nval la) (k:=na) (by rw[Hna.out];exact Nat.le_refl _);exact this
  have h2:2 ^ s≤2147483648:=Nat.pow_le_pow_right (by omega) hs31
  have h3:=Pt vl (k+1) HVlen.out
  rw[Hnv.out] at h3
  have h4:BB ^ (k+1) * 2147483648≤V:=by have:=Nat.mul_le_mul_left (BB ^ (k+1)) HVtop.out;omega
  have h5:na=(k+1)+M:=by omega
  have h6:nval la * 2 ^ s < BB ^ na * 2147483648:=by
   have a:=Nat.mul_le_mul_left (nval la) h2
   have b:=Nat.mul_lt_mul_of_pos_right (k:=2147483648) h1 (by omega)
   omega
  have h7:=Nat.mul_le_mul_right (BB ^ M) h4
  rw[Huv.out]
  refine Nat.lt_of_lt_of_le h6 (Nat.le_trans ?_ h7)
  rw[h5,Nat.pow_add,Nat.mul_right_comm]
  exact Nat.le_refl _)
 clear hq3 hgr3 hsz3 hV hvl
 go_loopw [14] (fun i w4=>∃ (j:Nat) (um ql:List Nat),j≤M∧i = .int .i64 ((j:Int) - 1)∧RowN w4 gu um∧um.length=na+1∧RowN w4 gq ql∧ql.length=M∧nval um+V * nval ql=nval ul∧nval um < V * BB ^ j∧
   (∀ t,t < j→gd ql t=0)∧NatL w4 (.slice (some ⟨gv,0,none⟩) (k+2) (k+2)) vl∧Own w.heap.size w3 w4) (fun i _=>((intOf i)+1).toNat)
 case atStart=>
  refine⟨M,ul,_,Nat.le_refl _,?_,Hrow3.out,Hul.out,Hq3.out,by simp,by rw[Ps];simp,Hinit.out,fun t _=>?_,HV3.out,Own.refl _ _⟩
  ·rw[show((na:Int)+1 - ((k:Int)+2) - 1)=((M:Int) - 1) from by omega]
  ·unfold gd;rw[List.getD_eq_getElem?_getD,List.getElem?_replicate];split<;>rfl
 case round=>
  obtain⟨j,um,ql,hj,rfl,hum,huml,hql,hqll,hinv,hbound,hz,hvr,ho⟩:=hrel
  have Hum:=ξ hum
  have Huml:=ξ huml
  have Hql:=ξ hql
  have Hqll:=ξ hqll
  have Hinv:=ξ hinv
  have Hbound:=ξ hbound
  have Hz:=ξ hz
  have Hvr:=ξ hvr
  have Ho:=ξ ho
  clear hum huml hql hqll hinv hbound hz hvr ho hc
  by_cases hj0:j=0
  ·obtain rfl:=hj0
   rw[show(((0:Nat):Int) - 1) = -1 from rfl]
   have Hb0:=ξ (show nval um < V by have:=Hbound.out;rwa [Nat.pow_zero,Nat.mul_one] at this)
   have HVB:=ξ (show V < BB ^ (k+2) by have:=Lh vl HVd.out;rwa [Hnv.out,HVlen.out] at this)
   clear Hbound Hz
   go_wp2_with fail
   obtain⟨wo,hwo⟩:∃ wo:World,wo=wr:=⟨_,rfl⟩
   rw[← hwo]
   rw[← hwo] at Hum Hql Hvr Ho
   clear hwo
   go_loopw [124] (fun i w5=>∃ (j:Nat) (um2:List Nat),j≤k+2∧i = .int .i64 j∧RowN w5 gu um2∧um2.length=na+1∧(∀ t,j≤t→gd um2 t=gd um t)∧
    (∀ t,t < j→gd um2 t=(gd um (t+1) * BB+gd um t) / 2 ^ s % BB)∧RowN w5 gq ql∧Own w.heap.size wo w5) (fun i _=>k+2 - (intOf i).toNat)
   case atStart=>exact⟨0,um,by omega,rfl,Hum.out,Huml.out,fun _ _=>rfl,fun _ h=>absurd h (by omega),Hql.out,Own.refl _ _⟩
   case round=>
    obtain⟨j,um2,hj2,rfl,hum2,huml2,hs1,hs2,hql2,ho2⟩:=hrel
    have Hum2:=ξ hum2
    have Huml2:=ξ huml2
    have Hs1:=ξ hs1
    have Hs2:=ξ hs2
    have Hql2:=ξ hql2
    have Ho2:=ξ ho2
    clear hum2 huml2 hs1 hs2 hql2 ho2
    by_cases hjk:j < k+2
    ·have hread:=Hum2.out.read (na+1) (by rw[Huml2.out];exact Nat.le_refl _) (by omega)
     rw[Huml2.out] at hread
     have Hread:=ξ hread
     clear hread
     have c1:=Hum2.out.cell (i:=j) (by rw[Huml2.out];omega)
     have f1:=Hum2.out.free j
     have u1:=Hum2.out.dig.gd j
     have u2:=Hum2.out.dig.gd (j+1)
     go_wp2_with fail
     refine(L4 _ _ um2 (j+1) Hread.out (by omega)).mono ?_
     rintro _ _ ⟨rfl,rfl⟩
     have hor:=Pf u2 u1
     rw[Hs1.out (j+1) (by omega),Hs1.out j (Nat.le_refl _)] at hor
     obtain⟨X,hX⟩:∃ X,gd um (j+1) * BB+gd um j=X:=⟨_,rfl⟩
     obtain⟨d1,hd1⟩:∃ d,gd um2 (j+1)=d:=⟨_,rfl⟩
     obtain⟨d0,hd0⟩:∃ d,gd um2 j=d:=⟨_,rfl⟩
     rw[hX,← Hs1.out (j+1) (by omega),← Hs1.out j (Nat.le_refl _),hd1,hd0] at hor
     rw[hd1] at u2 ⊢
     rw[hd0] at u1 c1
     have hX64:X≤18446744073709551615:=by
      rw[← hX,← Hs1.out (j+1) (by omega),← Hs1.out j (Nat.le_refl _),hd1,hd0]
      rw[Jc] at *
      omega
     have HX:=ξ hX
     have Hd0:=ξ hd0
     rw[Jc] at u1 u2
     clear hX hd1
     go_wp2_with fail
     refine(L4 _ _ um2 j Hread.out (by omega)).mono ?_
     rintro _ _ ⟨rfl,rfl⟩
     rw[Hd0.out]
     clear hd0
     go_wp2_with fail
     have hTX:(X:Int) / 2 ^ s=((X / 2 ^ s:Nat):Int):=by rw[Int.natCast_ediv,Int.natCast_pow];rfl
     have E1:(X:Int) / 2 ^ s % 4294967296=((X / 2 ^ s % BB:Nat):Int):=by rw[hTX,Jc];rfl
     refine⟨⟨j+1,um2.set j (X / 2 ^ s % BB),by omega,by go_num,Hum2.out.set j _ _ E1 (Nat.mod_lt _ Jt),by rw[List.length_set];exact Huml2.out,?_,?_,Hql2.out.keep (by omega) (Jl.set _ _ _ _),?_⟩,by simp[intOf];omega⟩
     ·intro t' ht';rw[Lq (by omega)];exact Hs1.out t' (by omega)
     ·intro t' ht'
      by_cases htj:t'=j
      ·subst htj;rw[Xw (by rw[Huml2.out];omega),HX.out]
      ·rw[Lq (by omega)];exact Hs2.out t' (by omega)
     ·exact Ho2.out.trans (Own.setCell _ hsz _ _)
    ·obtain rfl:j=k+2:=by omega
     go_wp2_with fail
     have y9:(0:Int)≤(k:Int)+2:=by omega
     have y10:(k:Int)+2≤(na:Int)+1:=by omega
     have n6:((k:Int)+2).toNat=k+2:=by omega
     refine Ll [(0,true),(2,true),(3,true),(4,true),(1,false),(5,false),(6,true),(7,true),(8,true)] (by kernel_rfl) (by kernel_rfl) rfl (by kernel_rfl) (fun _ _ d _ _ h=>by cases d<;>exact h) ?_
     repeat(refine Uv rfl rfl (fun K hK=>?_);go_simp;refine⟨_,fun _ _=>rfl,hK _ _ ?_⟩;clear hK K)
     refine Jj rfl rfl (fun K hK=>?_)
     go_simp
     have hr1:=Hql2.out.read M (by rw[Hqll.out];exact Nat.le_refl _) (by omega)
     rw[Hqll.out] at hr1
     refine(Lg _ _ ql (hr1.grow (Gr.refl wr).drew)).mono ?_
     rintro _ _ ⟨⟨rq,kq,rfl,hrq⟩,rfl⟩
     refine⟨fun _=>Gr.refl _,hK _ _ ?_⟩
     clear hK K hr1
     have Hrq:=ξ hrq
     clear hrq
     refine Jj rfl rfl (fun K hK=>?_)
     go_simp
     have hr2:=Hum2.out.read (na+1) (by rw[Huml2.out];exact Nat.le_refl _) (by omega)
     rw[Huml2.out] at hr2
     refine(Qv _ _ (um2.take (k+2)) ((hr2.take (k+2) (na+1) (by rw[Huml2.out];omega) (by omega) (Nat.le_refl _)).grow (Gr.refl wr).drew) (by rw[List.length_take];omega)).mono ?_
     rintro _ w6 ⟨rr,rfl,g6,hrr⟩
     refine⟨fun _=>g6,hK _ _ ?_⟩
     clear hK K hr2
     have Hrr:=ξ hrr
     have G6:=ξ g6
     clear hrr g6
     repeat(refine Uv rfl rfl (fun K hK=>?_);go_simp;refine⟨_,fun _ _=>rfl,hK _ _ ?_⟩;clear hK K)
     refine Ji ?_
     go_wp2_with fail
     go_ret3
     have hT0:0 < 2 ^ s:=Nat.pow_pos (by omega)
     obtain⟨dq,dr⟩:=J2r Hinv.out Hb0.out
     rw[Huv.out,← HVe.out,Nat.mul_div_mul_right _ _ hT0] at dq
     rw[Huv.out,← HVe.out,Nat.mul_mod_mul_right] at dr
     have hz0:nval (um.drop (0+(k+2)))=0:=by
      have:=M0 um (k+2)
      rw[Nat.zero_add]
      refine Nat.eq_zero_of_not_pos fun hp=>?_
      have h1:=Nat.mul_le_mul_left (BB ^ (k+2)) hp
      have h2:=Hb0.out
      have h3:=HVB.out
      generalize BB ^ (k+2)=Y at *
      omega
     have hsh:=J63 (J52 (s:=s) (by omega)) um um2 Hum.out.dig (k+2) 0 (fun t _ h=>Hs2.out t (by omega)) hz0
     rw[List.drop_zero,List.drop_zero,← dr,Nat.mul_div_cancel _ hT0] at hsh
     refine⟨_,rfl,?_,_,_,rfl,?_,?_⟩
     ·exact Gr.trans (Below.trans G3.out (Below.trans Ho.out Ho2.out)) ((Gr.refl wr).drew.trans G6.out)
     ·have:=Hrq.out.grow G6.out
      rw[trimL,← dq] at this
      exact this
     ·have:=Hrr.out
      rw[hsh] at this
      exact this
  ·obtain⟨i,rfl⟩:∃ i,j=i+1:=⟨j - 1,by omega⟩
   have e1:=ξ (show((i+1:Nat):Int) - 1=(i:Int) by omega)
   rw[e1.out]
   have c1:=Hum.out.cell (i:=i+k+2) (by rw[Huml.out];omega)
   have c2:=Hum.out.cell (i:=i+k+1) (by rw[Huml.out];omega)
   have c3:=Hum.out.cell (i:=i+k) (by rw[Huml.out];omega)
   obtain⟨bv,ov,hbv,d1⟩:=Hvr.out.at (k+1) (by rw[HVlen.out];omega)
   obtain⟨bv2,ov2,hbv2,d2⟩:=Hvr.out.at k (by rw[HVlen.out];omega)
   cases hbv
   cases hbv2
   rw[Nat.zero_add] at d1 d2
   have u1:=Hum.out.dig.gd (i+k+2)
   have u2:=Hum.out.dig.gd (i+k+1)
   have u3:=Hum.out.dig.gd (i+k)
   have v1:=HVd.out.gd (k+1)
   have v2:=HVd.out.gd k
   have GS:=ξ (J39 (i:=i) Hum.out.dig HVd.out HVlen.out HVtop.out (by rw[Hnv.out,Nat.mul_comm];exact Hbound.out))
   obtain⟨x,hx⟩:∃ x,gd um (i+k+2)=x:=⟨_,rfl⟩
   obtain⟨y,hy⟩:∃ y,gd um (i+k+1)=y:=⟨_,rfl⟩
   obtain⟨z,hz⟩:∃ z,gd um (i+k)=z:=⟨_,rfl⟩
   obtain⟨f,hf⟩:∃ f,gd vl (k+1)=f:=⟨_,rfl⟩
   obtain⟨t,ht⟩:∃ t,gd vl k=t:=⟨_,rfl⟩
   rw[hx] at c1 u1 GS
   rw[hy] at c2 u2 GS
   rw[hz] at c3 u3 GS
   rw[hf] at d1 v1 GS HVtop
   rw[ht] at d2 v2 GS
   have Hx:=ξ u1
   have Hy:=ξ u2
   have Hzz:=ξ u3
   have Hf:=ξ v1
   have Ht:=ξ v2
   rw[Jc] at u1 u2 u3 v1 v2
   clear hx hy hz hf ht
   go_wp2_with fail
   have i1:IntKind.i64.wrap ((i:Int)+((k:Int)+2))=(i:Int)+((k:Int)+2):=IntWalk.i64_in _ (by omega)
   have i2:IntKind.i64.wrap ((i:Int)+((k:Int)+2) - 1)=(i:Int)+((k:Int)+2) - 1:=IntWalk.i64_in _ (by omega)
   have i3:IntKind.i64.wrap ((i:Int)+((k:Int)+2) - 2)=(i:Int)+((k:Int)+2) - 2:=IntWalk.i64_in _ (by omega)
   have i4:IntKind.i64.wrap ((k:Int)+2 - 1)=(k:Int)+2 - 1:=IntWalk.i64_in _ (by omega)
   have i5:IntKind.i64.wrap ((k:Int)+2 - 2)=(k:Int)+2 - 2:=IntWalk.i64_in _ (by omega)
   have n1:((i:Int)+((k:Int)+2)).toNat=i+k+2:=by omega
   have n2:((i:Int)+((k:Int)+2) - 1).toNat=i+k+1:=by omega
   have n3:((i:Int)+((k:Int)+2) - 2).toNat=i+k:=by omega
   have n4:((k:Int)+2 - 1).toNat=k+1:=by omega
   have n5:((k:Int)+2 - 2).toNat=k:=by omega
   have z1:(0:Int)≤(i:Int)+((k:Int)+2):=by omega
   have z2:(0:Int)≤(i:Int)+((k:Int)+2) - 1:=by omega
   have z3:(0:Int)≤(i:Int)+((k:Int)+2) - 2:=by omega
   have z4:(0:Int)≤(k:Int)+2 - 1:=by omega
   have z5:(0:Int)≤(k:Int)+2 - 2:=by omega
   have y1:(i:Int)+((k:Int)+2) < (na:Int)+1:=by omega
   have y2:(i:Int)+((k:Int)+2) - 1 < (na:Int)+1:=by omega
   have y3:(i:Int)+((k:Int)+2) - 2 < (na:Int)+1:=by omega
   have y4:(k:Int)+2 - 1 < (k:Int)+2:=by omega
   have y5:(k:Int)+2 - 2 < (k:Int)+2:=by omega
   have s2:(1:Int)≤(i:Int)+((k:Int)+2):=by omega
   have s3:(2:Int)≤(i:Int)+((k:Int)+2):=by omega
   have s4:(1:Int)≤(k:Int)+2:=by omega
   have s5:(2:Int)≤(k:Int)+2:=by omega
   have x1:IntKind.u64.wrap (x:Int)=(x:Int):=by rw[IntKind.wrap_u64];omega
   have x2:IntKind.u64.wrap (y:Int)=(y:Int):=by rw[IntKind.wrap_u64];omega
   have x3:IntKind.u64.wrap (z:Int)=(z:Int):=by rw[IntKind.wrap_u64];omega
   have x4:IntKind.u64.wrap (f:Int)=(f:Int):=by rw[IntKind.wrap_u64];omega
   have x5:IntKind.u64.wrap (t:Int)=(t:Int):=by rw[IntKind.wrap_u64];omega
   have i6:IntKind.i64.wrap (k:Int)=(k:Int):=IntWalk.i64_in _ (by omega)
   have y6:(k:Int) < (k:Int)+2:=by omega
   have y7:k < k+2:=by omega
   have y8:(0:Int)≤(k:Int):=by omega
   go_quiet ((go_at_call 276;exact Calls.quiet_of (J45 _ x y z f t Hx.out Hy.out Hzz.out Hf.out Ht.out HVtop.out GS.out.1)))
   clear i1 i2 i3 i4 i5 i6 n1 n2 n3 n4 n5 z1 z2 z3 z4 z5 y1 y2 y3 y4 y5 y6 y7 y8 s2 s3 s4 s5 x1 x2 x3 x4 x5 c1 c2 c3 d1 d2
   obtain⟨G,hG⟩:∃ G,qhat x y z f t=G:=⟨_,rfl⟩
   have HG:=ξ hG
   rw[hG] at GS
   rw[hG]
   have hGB:=ξ (show G < BB by rw[← hG];exact J5h _ _ _ _ _)
   clear hG
   go_wp2_with fail
   refine(J46 _ gu (na+1) i G _ um vl (Hum.out.grow ((Gr.refl wr).drewN nq)) Huml.out (Hvr.out.grow ((Gr.refl wr).drewN nq)) (by intro b o n c h;cases h;omega) hGB.out (by omega) (by rw[HVlen.out];omega) (by rw[HVlen.out];exact GS.out.2.1) GS.out.2.2.1 GS.out.2.2.2).mono ?_
   rintro _ w5 ⟨q',um',rfl,ho5,hum5,huml5,hm5,hlt5,hqB⟩
   have HO5:=ξ ho5
   have Hum5:=ξ hum5
   have Huml5:=ξ huml5
   have Hm5:=ξ hm5
   have Hlt5:=ξ hlt5
   have HqB:=ξ hqB
   rw[Jc] at hqB
   have Hql5:=ξ ((Hql.out.grow ((Gr.refl wr).drewN nq)).keep (show gq≠gu by omega) ho5)
   have hcq:=Hql5.out.cell (i:=i) (by rw[Hqll.out];omega)
   have hfq:=Hql5.out.free i
   clear ho5 hum5 huml5 hm5 hlt5
   go_wp2_with fail
   have hnotu:M7 gu (.slice (some ⟨gv,0,none⟩) (k+2) (k+2)):=by intro b o n c h;cases h;omega
   have hnotq:M7 gq (.slice (some ⟨gv,0,none⟩) (k+2) (k+2)):=by intro b o n c h;cases h;omega
   have hset:=Jl.set gq w5 i (.int .u32 q')
   have hgw:=HG0.out
   have hsw:=Ho.out.size
   refine⟨⟨i,um',ql.set i q',by omega,rfl,Hum5.out.keep (by omega) hset,Huml5.out,Hql5.out.set i q' _ rfl HqB.out,by rw[List.length_set];exact Hqll.out,?_,?_,?_,?_,?_⟩,by simp[intOf]⟩
   ·have h1:=N9 (l:=ql) (i:=i) q' (by rw[Hqll.out];omega)
    rw[Hz.out i (by omega),Nat.mul_zero,Nat.add_zero] at h1
    rw[h1,Nat.mul_add,← Hinv.out,← Hm5.out,Hnv.out,Nat.mul_comm q' V,Nat.mul_left_comm V]
    omega
   ·have h2:=Hlt5.out
    rw[Hnv.out,Nat.mul_comm] at h2
    exact h2
   ·intro t' ht';rw[Lq (by omega)];exact Hz.out t' (by omega)
   ·exact((Hvr.out.grow ((Gr.refl wr).drewN nq)).keep hnotu HO5.out).keep hnotq hset
   ·refine Ho.out.trans ((Own.drewN _ wr nq).trans ((HO5.out.own ?_ hsz).trans (hset.own ?_ (by omega))))
    ·show w.heap.size≤wr.heap.size;omega
    ·have:=HO5.out.size;show w.heap.size≤w5.heap.size;have h3:wr.heap.size≤w5.heap.size:=this;omega
theorem Y7 (w:World)(va vb:Value)(la lb:List Nat)(ha:NatL w va la)(hb:NatL w vb lb)(hla:la.length≤1099511627776)(hlb:lb.length≤1099511627776)(h0:nval lb≠0):
  Calls Tryz.prog 233 #[va,vb] w (Ret w fun r w'=>∃ x y,r = .tuple #[x,y,.int .i64 0]∧NatL w' x (digs (nval la / nval lb))∧NatL w' y (digs (nval la % nval lb))):=by
 rcases Nat.lt_or_ge (nval la) (nval lb) with hlt|hge
 ·exact J40 w va vb la lb ha hb (by omega) (by omega) hlt
 ·match hk:(digs (nval lb)).length with
  | 0=>exact absurd (J7.1 (List.eq_nil_of_length_eq_zero hk)) h0
  | 1=>exact J42 w va vb la lb ha hb (by omega) (by omega) hge hk
  | k+2=>exact J41 w va vb la lb ha hb hla hlb hge k hk
def IntL (w:World)(v:Value)(n:Bool)(l:List Nat):Prop:=∃ p k c,v = .agg #[.bool n,.slice p k c]∧NatL w (.slice p k c) l
theorem IntL.grow {w w':World}{v:Value}{n:Bool}{l:List Nat}(h:IntL w v n l)(g:Gr w w'):IntL w' v n l:=by
 obtain⟨p,k,c,rfl,h⟩:=h;exact⟨p,k,c,rfl,h.grow g⟩
def zval (n:Bool)(l:List Nat):Int:=if n then -(nval l:Int) else nval l
def IntC (w:World)(v:Value)(z:Int):Prop:=IntL w v (decide (z < 0)) (digs z.natAbs)
theorem IntC.grow {w w':World}{v:Value}{z:Int}(h:IntC w v z)(g:Gr w w'):IntC w' v z:=IntL.grow h g
def Two (w:World)(b:Nat)(x y:Value):Prop:=∃ t,w.heap[b]?=some (.cells #[x,y] t (0,0))
theorem Two.lt {w:World}{b:Nat}{x y:Value}(h:Two w b x y):b < w.heap.size:=by
 obtain⟨t,h⟩:=h
 rcases Nat.lt_or_ge b w.heap.size with h'|h'
 ·exact h'
 ·rw[Array.getElem?_eq_none h'] at h;cases h
theorem Two.grow {w w':World}{b:Nat}{x y:Value}(h:Two w b x y)(g:Gr w w'):Two w' b x y:=by
 have hl:=h.lt
 obtain⟨t,h⟩:=h;exact⟨t,by rw[Below.block g b hl];exact h⟩
theorem Two.c0 {w:World}{b:Nat}{x y:Value}(h:Two w b x y):∀ w',Gr w w'→w'.cell? ⟨b,0,none⟩=some x:=fun w' g=>by
 obtain⟨t,h⟩:=h.grow g;simp[World.cell?,h]
theorem Two.c1 {w:World}{b:Nat}{x y:Value}(h:Two w b x y):∀ w',Gr w w'→w'.cell? ⟨b,1,none⟩=some y:=fun w' g=>by
 obtain⟨t,h⟩:=h.grow g;simp[World.cell?,h]
theorem Two.f0 {w:World}{b:Nat}{x y:Value}(h:Two w b x y)(i:Nat):w.frozen? ⟨b,i,none⟩=false:=by
 obtain⟨t,h⟩:=h;simp[World.frozen?,h]
theorem Two.set {w:World}{b:Nat}{x y:Value}(h:Two w b x y)(u v:Value):Two ((w.setCell ⟨b,0,none⟩ u).setCell ⟨b,1,none⟩ v) b u v:=by
 obtain⟨t,h⟩:=h
 refine⟨t,?_⟩
 simp[World.setCell,Array.getElem?_modify,h]
theorem Two.other {w:World}{b b':Nat}{x y:Value}(h:Two w b x y)(hne:b≠b')(u v:Value):Two ((w.setCell ⟨b',0,none⟩ u).setCell ⟨b',1,none⟩ v) b x y:=by
 obtain⟨t,h⟩:=h
 refine⟨t,?_⟩
 rw[Below.heap_setCell _ _ _ _ hne,Below.heap_setCell _ _ _ _ hne];exact h
theorem Two.new (w:World)(x y:Value)(t:TypeId):Two (w.alloc (.cells #[x,y] t)) w.heap.size x y:=⟨t,heap_alloc_new w _⟩
theorem boxed1 (w:World)(x y:Value)(t:TypeId):Gr w (w.alloc (.cells #[x,y] t))∧Two (w.alloc (.cells #[x,y] t)) w.heap.size x y:=
 ⟨(Gr.refl w).alloc _,Two.new w x y t⟩
theorem boxed2 (w:World)(x y x' y':Value)(t t':TypeId):Gr w ((w.alloc (.cells #[x,y] t)).alloc (.cells #[x',y'] t'))∧
  Two ((w.alloc (.cells #[x,y] t)).alloc (.cells #[x',y'] t')) w.heap.size x y∧Two ((w.alloc (.cells #[x,y] t)).alloc (.cells #[x',y'] t')) (w.heap.size+1) x' y':=by
 obtain⟨g,h⟩:=boxed1 w x y t
 obtain⟨g',h'⟩:=boxed1 (w.alloc (.cells #[x,y] t)) x' y' t'
 rw[World.size_alloc] at h'
 exact⟨g.trans g',h.grow g',h'⟩
theorem boxed3 (w:World)(x y x' y' x'' y'':Value)(t t' t'':TypeId):Gr w (((w.alloc (.cells #[x,y] t)).alloc (.cells #[x',y'] t')).alloc (.cells #[x'',y''] t''))∧
  Two (((w.alloc (.cells #[x,y] t)).alloc (.cells #[x',y'] t')).alloc (.cells #[x'',y''] t'')) w.heap.size x y∧
  Two (((w.alloc (.cells #[x,y] t)).alloc (.cells #[x',y'] t')).alloc (.cells #[x'',y''] t'')) (w.heap.size+1) x' y'∧
  Two (((w.alloc (.cells #[x,y] t)).alloc (.cells #[x',y'] t')).alloc (.cells #[x'',y''] t'')) (w.heap.size+1+1) x'' y'':=by
 obtain⟨g,h1,h2⟩:=boxed2 w x y x' y' t t'
 obtain⟨g',h3⟩:=boxed1 ((w.alloc (.cells #[x,y] t)).alloc (.cells #[x',y'] t')) x'' y'' t''
 rw[World.size_alloc,World.size_alloc] at h3
 exact⟨g.trans g',h1.grow g',h2.grow g',h3⟩
theorem IntL.mk {w:World}{n:Bool}{m:Value}{l:List Nat}(h:NatL w m l):IntL w (.agg #[.bool n,m]) n l:=by
 obtain⟨p,c,rfl,-⟩:=h.parts
 exact⟨p,_,c,rfl,h⟩
theorem Two.load {w:World}{b:Nat}{x y:Value}(h:Two w b x y):w.cell? ⟨b,0,none⟩=some x∧w.cell? ⟨b,1,none⟩=some y:=⟨h.c0 w (Gr.refl w),h.c1 w (Gr.refl w)⟩
theorem IntC.of {w:World}{m:Value}{n:Bool}{a:Nat}(h:NatL w m (digs a)):IntC w (.agg #[.bool (n && decide (0 < a)),m]) (if n then -(a:Int) else a):=by
 have e1:(n && decide (0 < a))=decide ((if n then -(a:Int) else a) < 0):=by
  rcases n with _|_<;>simp<;>omega
 have e2:(if n then -(a:Int) else a).natAbs=a:=by
  rcases n with _|_<;>simp
 unfold IntC
 rw[e1,e2]
 exact IntL.mk h
theorem J3y (w:World)(n:Bool)(m:Value)(l:List Nat)(h:NatL w m l)(hlen:l.length≤17592186044416):
  Calls Tryz.prog 191 #[.bool n,m] w (Ret w fun r w'=>r = .agg #[.bool (n && decide (0 < nval l)),m]):=by
 have HA:=ξ h
 obtain⟨p,c,rfl,-⟩:=h.parts
 have B1:=ξ (boxed1 w (.bool false) (.slice none 0 0) 66)
 have Hb:=ξ (show(0 < bitsN (nval l))↔0 < nval l from⟨fun h=>by
  rcases Nat.eq_zero_or_pos (nval l) with h0|h0
  ·rw[h0,Vj] at h;omega
  ·exact h0,fun h=>Ry (by omega)⟩)
 clear h
 obtain⟨k,hk⟩:∃ k,l.length=k:=⟨_,rfl⟩
 rw[hk] at HA ⊢
 have Hk:=ξ hk
 clear hk
 rcases n with _|_
 ·go_enter Tryz.func191,Tryz.ntmps191
  go_wp2_with fail
  refine bodyPost_ret (v:=.agg #[.bool false,.slice p k c]) (by simp[results,Tryz.results191,go_sem]) rfl ?_
  exact⟨_,rfl,(Gr.refl w).alloc _,rfl⟩
 ·go_enter Tryz.func191,Tryz.ntmps191
  go_wp2_with fail
  refine(Pr _ _ l (HA.out.grow B1.out.1) hlen).mono ?_
  rintro _ _ ⟨rfl,rfl⟩
  by_cases hb:0 < bitsN (nval l)
  ·have t1:(0:Int) < (bitsN (nval l):Int):=by omega
   have h1:=ξ (Hb.out.1 hb)
   go_wp2_with fail
   refine bodyPost_ret (v:=.agg #[.bool true,.slice p k c]) (by simp[results,Tryz.results191,go_sem]) rfl ?_
   exact⟨_,rfl,(Gr.refl w).alloc _,by simp[h1.out]⟩
  ·have t1:¬ (0:Int) < (bitsN (nval l):Int):=by omega
   have h1:=ξ (show ¬ 0 < nval l from fun h=>hb (Hb.out.2 h))
   go_wp2_with fail
   refine bodyPost_ret (v:=.agg #[.bool false,.slice p k c]) (by simp[results,Tryz.results191,go_sem]) rfl ?_
   exact⟨_,rfl,(Gr.refl w).alloc _,by simp[h1.out]⟩
theorem Mf (w:World)(n:Bool)(m:Value)(a:Nat)(z:Int)(h:NatL w m (digs a))(hlen:(digs a).length≤17592186044416)(hz:(if n then -(a:Int) else a)=z):
  Calls Tryz.prog 191 #[.bool n,m] w (Ret w fun r w'=>IntC w' r z):=
 (J3y w n m (digs a) h hlen).mono fun e w' ⟨v,he,hg,hv⟩=>⟨v,he,hg,by subst hv;rw[Je,← hz];exact IntC.of (h.grow hg)⟩
theorem NatL.keepBox {w:World}{v:Value}{l:List Nat}(h:NatL w v l){b:Nat}{s:Bool}{p:Option Addr}{k c:Nat}(t:Two w b (.bool s) (.slice p k c))(u v':Value):
  NatL ((w.setCell ⟨b,0,none⟩ u).setCell ⟨b,1,none⟩ v') v l:=by
 obtain⟨h0,q,d,rfl,h1,h2,h3⟩:=h
 refine⟨h0,q,d,rfl,h1,h2,?_⟩
 rcases h3 with h3|⟨b',o,rfl,hc⟩
 ·exact .inl h3
 ·refine .inr ⟨b',o,rfl,fun i hi=>?_⟩
  have hi':=hc i hi
  have hne:b'≠b:=by
   intro e
   subst e
   obtain⟨ty,t⟩:=t
   simp only[World.cell?,t] at hi'
   match ho:o+i with
   | 0=>simp[ho] at hi'
   | 1=>simp[ho] at hi'
   | n+2=>simp[ho] at hi'
  rw[World.cell?_of_block (w:=w) (by rw[Below.heap_setCell _ _ _ _ hne,Below.heap_setCell _ _ _ _ hne])]
  exact hi'
theorem Np (base:Nat)(w:World){b:Nat}(hb:base≤b)(u v:Value):Own base w ((w.setCell ⟨b,0,none⟩ u).setCell ⟨b,1,none⟩ v):=
 (Own.setCell w hb 0 u).trans (Own.setCell _ hb 1 v)
theorem Kp {w w3:World}{z:Int}{b:Nat}{s sg:Bool}{p p3:Option Addr}{k c k3 c3:Nat}(hb:w.heap.size≤b)(g:Gr w w3)(t:Two w3 b (.bool s) (.slice p k c))(h:NatL w3 (.slice p3 k3 c3) (digs z.natAbs))(hs:sg=decide (z < 0)):
  Ret w (fun r w'=>IntC w' r z) (.returned (.agg #[.bool sg,.slice p3 k3 c3])) ((w3.setCell ⟨b,0,none⟩ (.bool sg)).setCell ⟨b,1,none⟩ (.slice p3 k3 c3)):=by
 refine⟨_,rfl,Below.trans g (Np _ _ hb _ _),?_⟩
 subst hs
 exact⟨p3,k3,c3,rfl,h.keepBox t _ _⟩
theorem N1 {a b:Nat}{k:Nat}(ha:(digs a).length≤k)(hb:(digs b).length≤k):(digs (a+b)).length≤k+1:=by
 have h1:=Kl ha
 have h2:=Kl hb
 refine Kf (Nat.lt_of_lt_of_le ?_ (To k))
 generalize BB ^ k=X at *
 omega
theorem N2 {a b:Nat}{k m:Nat}(ha:(digs a).length≤k)(hb:(digs b).length≤m):(digs (a * b)).length≤k+m:=by
 have h1:=Kl ha
 have h2:=Kl hb
 refine Kf ?_
 rw[Nat.pow_add]
 exact Nat.mul_lt_mul'' h1 h2
theorem Kn {a b:Nat}(h:a≤b):(digs a).length≤(digs b).length:=by
 refine Kf ?_
 have:=Kl (n:=b) (Nat.le_refl _)
 omega
theorem Kg {l:List Nat}(h:Dig l):(digs (nval l)).length≤l.length:=Lk l h
theorem Zk {la lb:List Nat}{k:Nat}(ha:Dig la)(hb:Dig lb)(h1:la.length≤k)(h2:lb.length≤k):(digs (nval la+nval lb)).length≤k+1:=
 N1 (Nat.le_trans (Kg ha) h1) (Nat.le_trans (Kg hb) h2)
theorem J6X (n:Bool)(la lb:List Nat):(if n then -((nval la+nval lb:Nat):Int) else ((nval la+nval lb:Nat):Int))=zval n la+zval n lb:=by
 unfold zval;rcases n with _|_<;>simp<;>omega
theorem J1d (n n':Bool)(hn:n≠n')(la lb:List Nat)(h:nval lb≤nval la):(if n then -((nval la - nval lb:Nat):Int) else ((nval la - nval lb:Nat):Int))=zval n la+zval n' lb:=by
 unfold zval;rcases n with _|_<;>rcases n' with _|_<;>simp at hn ⊢<;>omega
theorem J3o (w:World)(va vb:Value)(n:Bool)(la lb:List Nat)(z:Int)(hz:zval n la+zval n lb=z)(ha:IntL w va n la)(hb:IntL w vb n lb)(hla:la.length≤1099511627776)(hlb:lb.length≤1099511627776):
  Calls Tryz.prog 199 #[va,vb] w (Ret w fun r w'=>IntC w' r z):=by
 have Hz:=ξ (show _=z from(J6X n la lb).trans hz)
 clear hz
 obtain⟨pa,ka,ca,rfl,ha⟩:=ha
 obtain⟨pb,kb,cb,rfl,hb⟩:=hb
 have HA:=ξ ha
 have HB:=ξ hb
 have HL:=ξ (Zk ha.dig hb.dig hla hlb)
 clear ha hb
 have B3:=boxed3 w (.bool n) (.slice pa ka ca) (.bool n) (.slice pb kb cb) (.bool false) (.slice none 0 0) 66 66 66
 go_enter Tryz.func199,Tryz.ntmps199
 go_wp2_with fail
 generalize ((w.alloc _).alloc _).alloc _=W at B3 ⊢
 obtain⟨G0,ta,tb,tr⟩:=B3
 have HW:=ξ G0
 have HR:=ξ tr
 have a0:=ta.c0
 have a1:=ta.c1
 have b0:=tb.c0
 have b1:=tb.c1
 have hsz:=tr.lt
 clear G0 ta tb tr
 have g0:Gr W W.drew:=(Gr.refl W).drew
 refine Ll [(0,true),(1,true),(2,true),(3,true),(4,true),(5,true),(6,false),(7,false),(8,false)] (by kernel_rfl) (by kernel_rfl) rfl (by kernel_rfl) (fun _ _ d _ _ h=>by cases d<;>exact h) ?_
 repeat(refine Jf (v:=?_) g0 rfl rfl (fun w' hg=>?_) (fun K hK=>?_);rotate_left;(go_simp;rfl);go_simp;refine hK _ _ ?_;clear hK K)
 refine Jj rfl rfl (fun K hK=>?_)
 go_simp
 refine(Pq _ _ _ la lb ((HA.out.grow HW.out).grow g0) ((HB.out.grow HW.out).grow g0) (by omega) (by omega)).mono ?_
 rintro _ w2 ⟨r,rfl,g2,hr⟩
 refine⟨fun _=>g2,hK _ _ ?_⟩
 clear hK K
 have G2:=ξ (g0.trans g2)
 have Hr:=ξ hr
 clear g2 hr
 refine Jj rfl rfl (fun K hK=>?_)
 go_simp
 refine(Mf _ n r _ _ Hr.out (Nat.le_trans HL.out (by omega)) Hz.out).mono ?_
 rintro _ w3 ⟨r3,rfl,g3,hr3⟩
 refine⟨fun _=>g3,hK _ _ ?_⟩
 clear hK K
 obtain⟨p3,k3,c3,rfl,hr3⟩:=hr3
 obtain⟨sg,hsg⟩:∃ sg,sg=decide (z < 0):=⟨_,rfl⟩
 rw[← hsg]
 have Hsg:=ξ hsg
 have G3:=ξ (G2.out.trans g3)
 have Hr3:=ξ hr3
 have HR3:=ξ (HR.out.grow G3.out)
 have r0:=HR3.out.load.1
 have r1:=HR3.out.load.2
 have f0:=HR3.out.f0 0
 have f1:=HR3.out.f0 1
 clear g3 hr3 a0 a1 b0 b1 g0 hsg
 refine Jj rfl rfl (fun K hK=>?_)
 go_simp
 refine⟨fun h=>Bool.noConfusion h,hK _ _ ?_⟩
 clear hK K
 refine Ji ?_
 go_wp2_with fail
 refine bodyPost_ret (v:=.agg #[.bool sg,.slice p3 k3 c3]) (by simp[results,Tryz.results199,go_sem,r0,r1]) rfl ?_
 exact Kp (by omega) (HW.out.trans G3.out) HR3.out Hr3.out Hsg.out
theorem J3n (w:World)(va vb:Value)(n n':Bool)(hn:n≠n')(la lb:List Nat)(z:Int)(hz:zval n la+zval n' lb=z)(ha:IntL w va n la)(hb:IntL w vb n' lb)(hla:la.length≤1099511627776)(hlb:lb.length≤1099511627776)(hle:nval lb≤nval la):
  Calls Tryz.prog 199 #[va,vb] w (Ret w fun r w'=>IntC w' r z):=by
 have Hz:=ξ (show _=z from(J1d n n' hn la lb hle).trans hz)
 have Hle:=ξ hle
 obtain⟨cz,hcz⟩:∃ cz,cmpZ (nval la) (nval lb)=cz:=⟨_,rfl⟩
 have hc0:¬ cz < 0:=by rw[← hcz,Nb];omega
 have Hcz:=ξ hcz
 have hnn:(n == n')=false:=by simpa using hn
 clear hz hle hcz
 obtain⟨pa,ka,ca,rfl,ha⟩:=ha
 obtain⟨pb,kb,cb,rfl,hb⟩:=hb
 have HA:=ξ ha
 have HB:=ξ hb
 have HL:=ξ (Nat.le_trans (Kn (Nat.sub_le (nval la) (nval lb))) (Nat.le_trans (Kg ha.dig) hla))
 clear ha hb hn
 have B3:=boxed3 w (.bool n) (.slice pa ka ca) (.bool n') (.slice pb kb cb) (.bool false) (.slice none 0 0) 66 66 66
 go_enter Tryz.func199,Tryz.ntmps199
 go_wp2_with fail
 refine(N8 _ _ _ la lb (HA.out.grow B3.1) (HB.out.grow B3.1) (by omega) (by omega)).mono ?_
 rintro _ _ ⟨rfl,rfl⟩
 rw[Hcz.out]
 generalize ((w.alloc _).alloc _).alloc _=W at B3 ⊢
 obtain⟨G0,ta,tb,tr⟩:=B3
 have HW:=ξ G0
 have HR:=ξ tr
 have HTA:=ξ ta
 have a0:=ta.load.1
 have a1:=ta.load.2
 have b0:=tb.load.1
 have b1:=tb.load.2
 have hsz:=tr.lt
 clear G0 ta tb tr
 go_wp2_with fail
 refine(Y9 _ _ _ la lb (HA.out.grow HW.out) (HB.out.grow HW.out) (by omega) (by omega) Hle.out).mono ?_
 rintro _ w2 ⟨_,rfl,g2,r,rfl,hr⟩
 have G2:=ξ g2
 have Hr:=ξ hr
 clear hr a0 a1 b0 b1
 have a0:=HTA.out.c0 w2 g2
 clear g2
 go_wp2_with fail
 refine(Mf _ n r _ _ Hr.out (Nat.le_trans HL.out (by omega)) Hz.out).mono ?_
 rintro _ w3 ⟨r3,rfl,g3,hr3⟩
 obtain⟨p3,k3,c3,rfl,hr3⟩:=hr3
 obtain⟨sg,hsg⟩:∃ sg,sg=decide (z < 0):=⟨_,rfl⟩
 rw[← hsg]
 have Hsg:=ξ hsg
 have G3:=ξ (G2.out.trans g3)
 have Hr3:=ξ hr3
 have HR3:=ξ (HR.out.grow G3.out)
 have r0:=HR3.out.load.1
 have r1:=HR3.out.load.2
 have f0:=HR3.out.f0 0
 have f1:=HR3.out.f0 1
 clear g3 hr3 a0 hsg
 go_wp2_with fail
 refine bodyPost_ret (v:=.agg #[.bool sg,.slice p3 k3 c3]) (by simp[results,Tryz.results199,go_sem,r0,r1]) rfl ?_
 exact Kp (by omega) (HW.out.trans G3.out) HR3.out Hr3.out Hsg.out
theorem J3p (w:World)(va vb:Value)(n n':Bool)(hn:n≠n')(la lb:List Nat)(z:Int)(hz:zval n la+zval n' lb=z)(ha:IntL w va n la)(hb:IntL w vb n' lb)(hla:la.length≤1099511627776)(hlb:lb.length≤1099511627776)(hlt:nval la < nval lb):
  Calls Tryz.prog 199 #[va,vb] w (Ret w fun r w'=>IntC w' r z):=by
 have Hz:=ξ (show _=z from(J1d n' n (Ne.symm hn) lb la (Nat.le_of_lt hlt)).trans (by rw[Int.add_comm];exact hz))
 have Hle:=ξ (Nat.le_of_lt hlt)
 have Hcz:=ξ (Ok hlt)
 have hnn:(n == n')=false:=by simpa using hn
 clear hz hlt
 obtain⟨pa,ka,ca,rfl,ha⟩:=ha
 obtain⟨pb,kb,cb,rfl,hb⟩:=hb
 have HA:=ξ ha
 have HB:=ξ hb
 have HL:=ξ (Nat.le_trans (Kn (Nat.sub_le (nval lb) (nval la))) (Nat.le_trans (Kg hb.dig) hlb))
 clear ha hb hn
 have B3:=boxed3 w (.bool n) (.slice pa ka ca) (.bool n') (.slice pb kb cb) (.bool false) (.slice none 0 0) 66 66 66
 go_enter Tryz.func199,Tryz.ntmps199
 go_wp2_with fail
 refine(N8 _ _ _ la lb (HA.out.grow B3.1) (HB.out.grow B3.1) (by omega) (by omega)).mono ?_
 rintro _ _ ⟨rfl,rfl⟩
 rw[Hcz.out]
 generalize ((w.alloc _).alloc _).alloc _=W at B3 ⊢
 obtain⟨G0,ta,tb,tr⟩:=B3
 have HW:=ξ G0
 have HR:=ξ tr
 have HTA:=ξ ta
 have HTB:=ξ tb
 have a0:=ta.load.1
 have a1:=ta.load.2
 have b0:=tb.load.1
 have b1:=tb.load.2
 have fa0:=ta.f0 0
 have fa1:=ta.f0 1
 have fb0:=tb.f0 0
 have fb1:=tb.f0 1
 have hsz:=tr.lt
 clear G0 ta tb tr
 go_wp2_with fail
 clear a0 a1 b0 b1 fa0 fa1 fb0 fb1
 have hA':=((HA.out.grow HW.out).keepBox HTA.out (.bool n') (.slice pb kb cb))
 have hB':=((HB.out.grow HW.out).keepBox HTA.out (.bool n') (.slice pb kb cb))
 have tA':=HTA.out.set (.bool n') (.slice pb kb cb)
 have tB':=HTB.out.other (b':=w.heap.size) (by omega) (.bool n') (.slice pb kb cb)
 have tR':=HR.out.other (b':=w.heap.size) (by omega) (.bool n') (.slice pb kb cb)
 have o1:=Np w.heap.size W (b:=w.heap.size) (Nat.le_refl _) (.bool n') (.slice pb kb cb)
 generalize (W.setCell _ _).setCell _ _=W1 at *
 have hA2:=ξ (hA'.keepBox tB' (.bool n) (.slice pa ka ca))
 have hB2:=ξ (hB'.keepBox tB' (.bool n) (.slice pa ka ca))
 have tA2:=tA'.other (b':=w.heap.size+1) (by omega) (.bool n) (.slice pa ka ca)
 have tR2:=ξ (tR'.other (b':=w.heap.size+1) (by omega) (.bool n) (.slice pa ka ca))
 have o2:=Np w.heap.size W1 (b:=w.heap.size+1) (by omega) (.bool n) (.slice pa ka ca)
 generalize (W1.setCell _ _).setCell _ _=W2 at *
 have O2:=ξ (Below.trans HW.out (Below.trans o1 o2))
 have HTA2:=ξ tA2
 have hsz2:=tR2.out.lt
 clear hA' hB' tA' tB' tR' o1 o2 tA2 HTA HTB HR hsz HW
 refine(Y9 _ _ _ lb la hB2.out hA2.out (by omega) (by omega) Hle.out).mono ?_
 rintro _ w2 ⟨_,rfl,g2,r,rfl,hr⟩
 have G2:=ξ g2
 have Hr:=ξ hr
 clear hr
 have a0:=HTA2.out.c0 w2 g2
 clear g2
 go_wp2_with fail
 refine(Mf _ n' r _ _ Hr.out (Nat.le_trans HL.out (by omega)) Hz.out).mono ?_
 rintro _ w3 ⟨r3,rfl,g3,hr3⟩
 obtain⟨p3,k3,c3,rfl,hr3⟩:=hr3
 obtain⟨sg,hsg⟩:∃ sg,sg=decide (z < 0):=⟨_,rfl⟩
 rw[← hsg]
 have Hsg:=ξ hsg
 have G3:=ξ (G2.out.trans g3)
 have Hr3:=ξ hr3
 have HR3:=ξ (tR2.out.grow G3.out)
 have r0:=HR3.out.load.1
 have r1:=HR3.out.load.2
 have f0:=HR3.out.f0 0
 have f1:=HR3.out.f0 1
 clear g3 hr3 a0 hsg
 go_wp2_with fail
 refine bodyPost_ret (v:=.agg #[.bool sg,.slice p3 k3 c3]) (by simp[results,Tryz.results199,go_sem,r0,r1]) rfl ?_
 exact Kp (by omega) (Gr.trans O2.out G3.out) HR3.out Hr3.out Hsg.out
theorem Ya (w:World)(va vb:Value)(n n':Bool)(la lb:List Nat)(z:Int)(hz:zval n la+zval n' lb=z)(ha:IntL w va n la)(hb:IntL w vb n' lb)(hla:la.length≤1099511627776)(hlb:lb.length≤1099511627776):
  Calls Tryz.prog 199 #[va,vb] w (Ret w fun r w'=>IntC w' r z):=by
 by_cases hn:n=n'
 ·subst hn;exact J3o w va vb n la lb z hz ha hb hla hlb
 ·rcases Nat.lt_or_ge (nval la) (nval lb) with h|h
  ·exact J3p w va vb n n' hn la lb z hz ha hb hla hlb h
  ·exact J3n w va vb n n' hn la lb z hz ha hb hla hlb h
theorem J1e (n n':Bool)(la lb:List Nat):(if (n != n') then -((nval la * nval lb:Nat):Int) else ((nval la * nval lb:Nat):Int))=zval n la * zval n' lb:=by
 unfold zval
 rcases n with _|_<;>rcases n' with _|_<;>simp[Int.natCast_mul,Int.neg_mul,Int.mul_neg]
theorem J6Z (n:Bool)(la:List Nat):(if (!n) then -((nval la:Nat):Int) else ((nval la:Nat):Int)) = - zval n la:=by
 unfold zval
 rcases n with _|_<;>simp
theorem S2 (w:World)(va vb:Value)(n n':Bool)(la lb:List Nat)(z:Int)(hz:zval n la * zval n' lb=z)(ha:IntL w va n la)(hb:IntL w vb n' lb)(hla:la.length≤1099511627776)(hlb:lb.length≤1099511627776):
  Calls Tryz.prog 131 #[va,vb] w (Ret w fun r w'=>IntC w' r z):=by
 have Hz:=ξ (show _=z from(J1e n n' la lb).trans hz)
 clear hz
 obtain⟨pa,ka,ca,rfl,ha⟩:=ha
 obtain⟨pb,kb,cb,rfl,hb⟩:=hb
 have HA:=ξ ha
 have HB:=ξ hb
 have HL:=ξ (N2 (Nat.le_trans (Kg ha.dig) hla) (Nat.le_trans (Kg hb.dig) hlb))
 clear ha hb
 have B3:=boxed3 w (.bool n) (.slice pa ka ca) (.bool n') (.slice pb kb cb) (.bool false) (.slice none 0 0) 66 66 66
 go_enter Tryz.func131,Tryz.ntmps131
 go_wp2_with fail
 generalize ((w.alloc _).alloc _).alloc _=W at B3 ⊢
 obtain⟨G0,ta,tb,tr⟩:=B3
 have HW:=ξ G0
 have HR:=ξ tr
 have a0:=ta.c0
 have a1:=ta.c1
 have b0:=tb.c0
 have b1:=tb.c1
 have hsz:=tr.lt
 clear G0 ta tb tr
 have g0:Gr W W.drew:=(Gr.refl W).drew
 refine Ll [(0,true),(1,true),(2,true),(3,true),(4,true),(5,true),(6,true),(7,true),(8,true),(9,false),(10,false),(11,false)] (by kernel_rfl) (by kernel_rfl) rfl (by kernel_rfl) (fun _ _ d _ _ h=>by cases d<;>exact h) ?_
 repeat(refine Jf (v:=?_) g0 rfl rfl (fun w' hg=>?_) (fun K hK=>?_);rotate_left;(go_simp;rfl);go_simp;refine hK _ _ ?_;clear hK K)
 refine Jj rfl rfl (fun K hK=>?_)
 go_simp
 refine(Tg _ _ _ la lb ((HA.out.grow HW.out).grow g0) ((HB.out.grow HW.out).grow g0) (by omega) (by omega)).mono ?_
 rintro _ w2 ⟨r,rfl,g2,hr⟩
 refine⟨fun _=>g2,hK _ _ ?_⟩
 clear hK K
 have G2:=ξ (g0.trans g2)
 have Hr:=ξ hr
 clear g2 hr
 refine Jj rfl rfl (fun K hK=>?_)
 go_simp
 refine(Mf _ (n != n') r _ _ Hr.out (Nat.le_trans HL.out (by omega)) Hz.out).mono ?_
 rintro _ w3 ⟨r3,rfl,g3,hr3⟩
 refine⟨fun _=>g3,hK _ _ ?_⟩
 clear hK K
 obtain⟨p3,k3,c3,rfl,hr3⟩:=hr3
 obtain⟨sg,hsg⟩:∃ sg,sg=decide (z < 0):=⟨_,rfl⟩
 rw[← hsg]
 have Hsg:=ξ hsg
 have G3:=ξ (G2.out.trans g3)
 have Hr3:=ξ hr3
 have HR3:=ξ (HR.out.grow G3.out)
 have r0:=HR3.out.load.1
 have r1:=HR3.out.load.2
 have f0:=HR3.out.f0 0
 have f1:=HR3.out.f0 1
 clear g3 hr3 a0 a1 b0 b1 g0 hsg
 refine Jj rfl rfl (fun K hK=>?_)
 go_simp
 refine⟨fun h=>Bool.noConfusion h,hK _ _ ?_⟩
 clear hK K
 refine Ji ?_
 go_wp2_with fail
 refine bodyPost_ret (v:=.agg #[.bool sg,.slice p3 k3 c3]) (by simp[results,Tryz.results131,go_sem,r0,r1]) rfl ?_
 exact Kp (by omega) (HW.out.trans G3.out) HR3.out Hr3.out Hsg.out
theorem Yc (w:World)(va:Value)(n:Bool)(la:List Nat)(z:Int)(hz : - zval n la=z)(ha:IntL w va n la)(hla:la.length≤1099511627776):
  Calls Tryz.prog 147 #[va] w (Ret w fun r w'=>IntC w' r z):=by
 have Hz:=ξ (show _=z from(J6Z n la).trans hz)
 clear hz
 obtain⟨pa,ka,ca,rfl,ha⟩:=ha
 have HA:=ξ ha
 have HL:=ξ (Nat.le_trans (Kg ha.dig) hla)
 clear ha
 have B3:=boxed2 w (.bool n) (.slice pa ka ca) (.bool false) (.slice none 0 0) 66 66
 go_enter Tryz.func147,Tryz.ntmps147
 go_wp2_with fail
 generalize (w.alloc _).alloc _=W at B3 ⊢
 obtain⟨G0,ta,tr⟩:=B3
 have HW:=ξ G0
 have HR:=ξ tr
 have a0:=ta.c0
 have a1:=ta.c1
 have hsz:=tr.lt
 clear G0 ta tr
 have g0:Gr W W.drew:=(Gr.refl W).drew
 refine Ll [(0,true),(1,true),(2,true),(3,true),(4,true),(5,false),(6,false),(7,false)] (by kernel_rfl) (by kernel_rfl) rfl (by kernel_rfl) (fun _ _ d _ _ h=>by cases d<;>exact h) ?_
 repeat(refine Jf (v:=?_) g0 rfl rfl (fun w' hg=>?_) (fun K hK=>?_);rotate_left;(go_simp;rfl);go_simp;refine hK _ _ ?_;clear hK K)
 refine Jj rfl rfl (fun K hK=>?_)
 go_simp
 refine(Pq _ _ _ la [] ((HA.out.grow HW.out).grow g0) (NatL.nil _) (by omega) (by simp)).mono ?_
 rintro _ w2 ⟨r,rfl,g2,hr⟩
 refine⟨fun _=>g2,hK _ _ ?_⟩
 clear hK K
 rw[show nval la+nval []=nval la from rfl] at hr
 have G2:=ξ (g0.trans g2)
 have Hr:=ξ hr
 clear g2 hr
 refine Jj rfl rfl (fun K hK=>?_)
 go_simp
 refine(Mf _ (!n) r _ _ Hr.out (Nat.le_trans HL.out (by omega)) Hz.out).mono ?_
 rintro _ w3 ⟨r3,rfl,g3,hr3⟩
 refine⟨fun _=>g3,hK _ _ ?_⟩
 clear hK K
 obtain⟨p3,k3,c3,rfl,hr3⟩:=hr3
 obtain⟨sg,hsg⟩:∃ sg,sg=decide (z < 0):=⟨_,rfl⟩
 rw[← hsg]
 have Hsg:=ξ hsg
 have G3:=ξ (G2.out.trans g3)
 have Hr3:=ξ hr3
 have HR3:=ξ (HR.out.grow G3.out)
 have r0:=HR3.out.load.1
 have r1:=HR3.out.load.2
 have f0:=HR3.out.f0 0
 have f1:=HR3.out.f0 1
 clear g3 hr3 a0 a1 g0 hsg
 refine Jj rfl rfl (fun K hK=>?_)
 go_simp
 refine⟨fun h=>Bool.noConfusion h,hK _ _ ?_⟩
 clear hK K
 refine Ji ?_
 go_wp2_with fail
 refine bodyPost_ret (v:=.agg #[.bool sg,.slice p3 k3 c3]) (by simp[results,Tryz.results147,go_sem,r0,r1]) rfl ?_
 exact Kp (by omega) (HW.out.trans G3.out) HR3.out Hr3.out Hsg.out
theorem M5 (z:Int):zval (decide (z < 0)) (digs z.natAbs)=z:=by
 unfold zval
 rw[Je]
 by_cases h:z < 0
 ·simp[h];omega
 ·simp[h];omega
theorem S3 (w:World)(va vb:Value)(n n':Bool)(la lb:List Nat)(z:Int)(hz:zval n la - zval n' lb=z)(ha:IntL w va n la)(hb:IntL w vb n' lb)(hla:la.length≤1099511627776)(hlb:lb.length≤1099511627776):
  Calls Tryz.prog 194 #[va,vb] w (Ret w fun r w'=>IntC w' r z):=by
 have Hz:=ξ (show zval n la+zval (decide (-zval n' lb < 0)) (digs (-zval n' lb).natAbs)=z by rw[M5,← hz];omega)
 have HLB:=ξ (show(digs (-zval n' lb).natAbs).length≤1099511627776 by
  obtain⟨pb,kb,cb,rfl,hb⟩:=hb
  have e:(-zval n' lb).natAbs=nval lb:=by unfold zval;rcases n' with _|_<;>simp
  rw[e];exact Nat.le_trans (Kg hb.dig) hlb)
 clear hz
 have HB0:=ξ hb
 have HA0:=ξ ha
 obtain⟨pa,ka,ca,rfl,ha⟩:=ha
 obtain⟨pb,kb,cb,rfl,hb⟩:=hb
 clear ha hb
 have B3:=boxed3 w (.bool n) (.slice pa ka ca) (.bool n') (.slice pb kb cb) (.bool false) (.slice none 0 0) 66 66 66
 go_enter Tryz.func194,Tryz.ntmps194
 go_wp2_with fail
 generalize ((w.alloc _).alloc _).alloc _=W at B3 ⊢
 obtain⟨G0,ta,tb,tr⟩:=B3
 have HW:=ξ G0
 have HR:=ξ tr
 have a0:=ta.c0
 have a1:=ta.c1
 have b0:=tb.c0
 have b1:=tb.c1
 have hsz:=tr.lt
 clear G0 ta tb tr
 have g0:Gr W W.drew:=(Gr.refl W).drew
 refine Ll [(0,true),(1,true),(2,false),(3,false),(4,false)] (by kernel_rfl) (by kernel_rfl) rfl (by kernel_rfl) (fun _ _ d _ _ h=>by cases d<;>exact h) ?_
 repeat(refine Jf (v:=?_) g0 rfl rfl (fun w' hg=>?_) (fun K hK=>?_);rotate_left;(go_simp;rfl);go_simp;refine hK _ _ ?_;clear hK K)
 refine Jj rfl rfl (fun K hK=>?_)
 go_simp
 refine(Yc _ _ n' lb _ rfl (HB0.out.grow (HW.out.trans g0)) hlb).mono ?_
 rintro _ w2 ⟨r,rfl,g2,hr⟩
 refine⟨fun _=>g2,hK _ _ ?_⟩
 clear hK K
 have G2:=ξ (g0.trans g2)
 have Hr:=ξ hr
 clear g2 hr
 refine Jj rfl rfl (fun K hK=>?_)
 go_simp
 refine(Ya _ _ _ n _ la _ z Hz.out (HA0.out.grow (HW.out.trans G2.out)) Hr.out hla HLB.out).mono ?_
 rintro _ w3 ⟨r3,rfl,g3,hr3⟩
 refine⟨fun _=>g3,hK _ _ ?_⟩
 clear hK K
 obtain⟨p3,k3,c3,rfl,hr3⟩:=hr3
 obtain⟨sg,hsg⟩:∃ sg,sg=decide (z < 0):=⟨_,rfl⟩
 rw[← hsg]
 have Hsg:=ξ hsg
 have G3:=ξ (G2.out.trans g3)
 have Hr3:=ξ hr3
 have HR3:=ξ (HR.out.grow G3.out)
 have r0:=HR3.out.load.1
 have r1:=HR3.out.load.2
 have f0:=HR3.out.f0 0
 have f1:=HR3.out.f0 1
 clear g3 hr3 a0 a1 b0 b1 g0 hsg
 refine Jj rfl rfl (fun K hK=>?_)
 go_simp
 refine⟨fun h=>Bool.noConfusion h,hK _ _ ?_⟩
 clear hK K
 refine Ji ?_
 go_wp2_with fail
 refine bodyPost_ret (v:=.agg #[.bool sg,.slice p3 k3 c3]) (by simp[results,Tryz.results194,go_sem,r0,r1]) rfl ?_
 exact Kp (by omega) (HW.out.trans G3.out) HR3.out Hr3.out Hsg.out
def sgn (z:Int):Int:=if z < 0 then -1 else if z=0 then 0 else 1
theorem J60 (n:Bool)(l:List Nat):sgn (zval n l)=if nval l=0 then 0 else if n then -1 else 1:=by
 unfold sgn zval
 by_cases h:nval l=0
 ·simp[h]
 ·have hp:(0:Int) < nval l:=by omega
  rcases n with _|_<;>simp[h]<;>omega
theorem Pn (w:World)(va:Value)(n:Bool)(la:List Nat)(z:Int)(hz:sgn (zval n la)=z)(ha:IntL w va n la)(hla:la.length≤1099511627776):
  Calls Tryz.prog 193 #[va] w (Ret w fun r w'=>r = .int .i64 z):=by
 rw[J60] at hz
 obtain⟨pa,ka,ca,rfl,ha⟩:=ha
 have HA:=ξ ha
 have hb0:nval la=0→bitsN (nval la)=0:=fun h=>by rw[h];rfl
 have hb1:nval la≠0→bitsN (nval la)≠0:=fun h=>by have:=Ry h;omega
 have Hg:=ξ ((Gr.refl w).alloc (.cells #[.bool n,.slice pa ka ca] 66))
 clear ha
 by_cases h0:nval la=0
 ·rw[if_pos h0] at hz
  have Hb:=ξ (hb0 h0)
  subst hz
  clear hb0 hb1 h0
  go_enter Tryz.func193,Tryz.ntmps193
  go_wp2_with fail
  refine(Pr _ _ la (HA.out.grow Hg.out) (by omega)).mono ?_
  rintro _ _ ⟨rfl,rfl⟩
  rw[Hb.out]
  go_wp2_with fail
  go_ret
  exact⟨_,rfl,Hg.out,rfl⟩
 ·rw[if_neg h0] at hz
  have hb:=hb1 h0
  have t1:((bitsN (nval la):Int) == 0)=false:=by simpa using hb
  clear hb0 hb1 h0
  rcases n with _|_
  ·simp at hz
   subst hz
   go_enter Tryz.func193,Tryz.ntmps193
   go_wp2_with fail
   refine(Pr _ _ la (HA.out.grow Hg.out) (by omega)).mono ?_
   rintro _ _ ⟨rfl,rfl⟩
   go_wp2_with fail
   go_ret
   exact⟨_,rfl,Hg.out,rfl⟩
  ·simp at hz
   subst hz
   go_enter Tryz.func193,Tryz.ntmps193
   go_wp2_with fail
   refine(Pr _ _ la (HA.out.grow Hg.out) (by omega)).mono ?_
   rintro _ _ ⟨rfl,rfl⟩
   go_wp2_with fail
   go_ret
   exact⟨_,rfl,Hg.out,rfl⟩
theorem J5Z (a b:Int):sgn (a - b)=cmpZ a b:=by
 unfold sgn cmpZ
 by_cases h1:a < b
 ·rw[if_pos (by omega),if_pos h1]
 ·rw[if_neg (by omega),if_neg h1]
  by_cases h2:a=b
  ·rw[if_pos (by omega),if_pos h2]
  ·rw[if_neg (by omega),if_neg h2]
theorem J72 {n n':Bool}{la lb:List Nat}{k:Nat}(ha:Dig la)(hb:Dig lb)(hla:la.length≤k)(hlb:lb.length≤k):(digs (zval n la - zval n' lb).natAbs).length≤k+1:=by
 refine Nat.le_trans (Kn (b:=nval la+nval lb) ?_) (Zk ha hb hla hlb)
 unfold zval
 rcases n with _|_<;>rcases n' with _|_<;>simp<;>omega
theorem IntL.dig {w:World}{v:Value}{n:Bool}{l:List Nat}(h:IntL w v n l):Dig l:=by
 obtain⟨p,k,c,rfl,h⟩:=h;exact h.dig
theorem J3q (w:World)(va vb:Value)(n n':Bool)(la lb:List Nat)(z:Int)(hz:cmpZ (zval n la) (zval n' lb)=z)(ha:IntL w va n la)(hb:IntL w vb n' lb)(hla:la.length≤549755813888)(hlb:lb.length≤549755813888):
  Calls Tryz.prog 130 #[va,vb] w (Ret w fun r w'=>r = .int .i64 z):=by
 have HB0:=ξ hb
 have HA0:=ξ ha
 have HL:=ξ (J72 (n:=n) (n':=n') ha.dig hb.dig hla hlb)
 have Hz:=ξ (show sgn (zval (decide (zval n la - zval n' lb < 0)) (digs (zval n la - zval n' lb).natAbs))=z by rw[M5,J5Z];exact hz)
 clear hz
 obtain⟨pa,ka,ca,rfl,ha⟩:=ha
 obtain⟨pb,kb,cb,rfl,hb⟩:=hb
 clear ha hb
 obtain⟨G0,-⟩:=boxed2 w (.bool n) (.slice pa ka ca) (.bool n') (.slice pb kb cb) 66 66
 have HG:=ξ G0
 clear G0
 go_enter Tryz.func130,Tryz.ntmps130
 go_wp2_with fail
 refine(S3 _ _ _ n n' la lb _ rfl (HA0.out.grow HG.out) (HB0.out.grow HG.out) (by omega) (by omega)).mono ?_
 rintro _ w2 ⟨r,rfl,g2,hr⟩
 have Hr:=ξ hr
 have G2:=ξ g2
 clear hr g2
 go_wp2_with fail
 refine(Pn _ _ _ _ z Hz.out Hr.out (Nat.le_trans HL.out (by omega))).mono ?_
 rintro _ w3 ⟨_,rfl,g3,rfl⟩
 have G3:=ξ g3
 clear g3
 go_wp2_with fail
 go_ret
 exact⟨_,rfl,HG.out.trans (G2.out.trans G3.out),rfl⟩
theorem No (w:World)(n:Bool)(m:Value)(l:List Nat)(z:Int)(hz:zval n l=z)(h:NatL w m l)(hlen:l.length≤17592186044416):
  Calls Tryz.prog 104 #[.bool n,m] w (Ret w fun r w'=>IntC w' r z):=by
 have HA:=ξ h
 have B1:=ξ (boxed1 w (.bool false) (.slice none 0 0) 66)
 subst hz
 clear h
 rcases n with _|_
 ·go_enter Tryz.func104,Tryz.ntmps104
  go_wp2_with fail
  refine(Li _ _ l (HA.out.grow B1.out.1) (by omega)).mono ?_
  rintro _ w1 ⟨r,rfl,g1,hr⟩
  have Hr:=ξ hr
  have G1:=ξ g1
  obtain⟨p,c,rfl,-⟩:=hr.parts
  have T1:=ξ (B1.out.2.grow g1)
  have r0:=T1.out.load.1
  have r1:=T1.out.load.2
  have f0:=T1.out.f0 0
  have f1:=T1.out.f0 1
  obtain⟨k,hk⟩:∃ k,(trimL l).length=k:=⟨_,rfl⟩
  simp only[hk]
  rw[hk] at Hr
  clear hr g1
  go_wp2_with fail
  refine bodyPost_ret (v:=.agg #[.bool false,.slice p k c]) (by simp[results,Tryz.results104,go_sem,r0,r1]) rfl ?_
  refine Kp (Nat.le_refl _) (B1.out.1.trans G1.out) T1.out ?_ ?_
  ·show NatL w1 _ (digs (zval false l).natAbs)
   rw[show(zval false l).natAbs=nval l from by unfold zval;simp]
   exact Hr.out
  ·unfold zval;simp
 ·go_enter Tryz.func104,Tryz.ntmps104
  go_wp2_with fail
  refine(Li _ _ l (HA.out.grow B1.out.1) (by omega)).mono ?_
  rintro _ w1 ⟨r,rfl,g1,hr⟩
  have Hr:=ξ hr
  have G1:=ξ g1
  obtain⟨p,c,rfl,-⟩:=hr.parts
  have T1:=ξ (B1.out.2.grow g1)
  have r0:=T1.out.load.1
  have r1:=T1.out.load.2
  have f0:=T1.out.f0 0
  have f1:=T1.out.f0 1
  obtain⟨k,hk⟩:∃ k,(trimL l).length=k:=⟨_,rfl⟩
  have hkz:0 < k↔zval true l < 0:=by
   rw[← hk,trimL,List.length_pos_iff,ne_eq,J7];unfold zval;simp;omega
  simp only[hk]
  rw[hk] at Hr
  clear hr g1
  have HK:=ξ hkz
  clear hkz
  by_cases hk0:0 < k
  ·have hki:(0:Int) < (k:Int):=by omega
   go_wp2_with fail
   refine bodyPost_ret (v:=.agg #[.bool true,.slice p k c]) (by simp[results,Tryz.results104,go_sem,r0,r1]) rfl ?_
   refine Kp (Nat.le_refl _) (B1.out.1.trans G1.out) T1.out ?_ ?_
   ·show NatL w1 _ (digs (zval true l).natAbs)
    rw[show(zval true l).natAbs=nval l from by unfold zval;simp]
    exact Hr.out
   ·have:=HK.out.1 hk0;simp[this]
  ·have hki:¬ (0:Int) < (k:Int):=by omega
   go_wp2_with fail
   refine bodyPost_ret (v:=.agg #[.bool false,.slice p k c]) (by simp[results,Tryz.results104,go_sem,r0,r1]) rfl ?_
   refine Kp (Nat.le_refl _) (B1.out.1.trans G1.out) T1.out ?_ ?_
   ·show NatL w1 _ (digs (zval true l).natAbs)
    rw[show(zval true l).natAbs=nval l from by unfold zval;simp]
    exact Hr.out
   ·exact(decide_eq_false (fun h=>hk0 (HK.out.2 h))).symm
end Go.Proofs.YtcjgimlcefhhmaaGreatDoor

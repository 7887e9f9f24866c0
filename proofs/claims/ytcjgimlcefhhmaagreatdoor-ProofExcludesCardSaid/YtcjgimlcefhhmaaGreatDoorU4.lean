/- Texts: LeafD LeafE LeafF. -/
import Derived.Test.YtcjgimlcefhhmaaGreatDoorU3
set_option linter.unusedVariables false
set_option linter.unusedSimpArgs false
set_option maxRecDepth 100000
set_option maxHeartbeats 12800000
namespace Go.Proofs.YtcjgimlcefhhmaaGreatDoor
open Go.RowKit
theorem Tj (w:World)(p:Option Addr)(n c:Nat)(l:List Nat)(h:NatL w (.slice p n c) l):
  Calls Tryz.prog 234 #[.slice p n c] w fun e w'=>(∃ k,e = .returned (.slice p k k)∧NatL w (.slice p k k) (trimL l))∧w=w':=by
 have HA:=ξ h
 have hn:=h.len
 obtain⟨p',c',hpc,h1,h2,h0⟩:=h.parts
 cases hpc
 have H0:=ξ h0
 obtain⟨n,hn⟩:∃ n,l.length=n:=⟨_,rfl⟩
 have Hn:=ξ hn
 rw[hn] at h1 ⊢
 rw[hn] at HA
 clear hn h0 h
 go_enter Tryz.func234,Tryz.ntmps234
 go_wp2
 go_loopw [3] (fun i w1=>∃ k:Nat,k≤n∧i = .int .i64 k∧trimL (l.take k)=trimL l∧w1=w) (fun i _=>(intOf i).toNat)
 case atStart=>exact⟨n,Nat.le_refl _,rfl,by rw[List.take_of_length_le (by rw[Hn.out];exact Nat.le_refl _)],rfl⟩
 case round=>
  obtain⟨k,hk,rfl,hp,rfl⟩:=hrel
  have Hp:=ξ hp;clear hp
  by_cases hk0:k=0
  ·obtain rfl:=hk0
   have ht:=ξ (Uo Hp.out)
   go_wp2
   go_ret
   exact⟨⟨0,rfl,by rw[← ht.out];exact HA.out.take 0 0 (by omega) (Nat.le_refl _) (by omega)⟩,rfl⟩
  ·obtain⟨j,rfl⟩:∃ j,k=j+1:=⟨k - 1,by omega⟩
   obtain⟨b,o,rfl,hc⟩:=HA.out.at j (by rw[Hn.out];omega)
   by_cases hd:gd l j=0
   ·have e0:((gd l j:Int) == 0)=true:=by rw[hd];rfl
    have Hd:=ξ hd;clear hd
    go_wp2
    go_roundw
    case rel=>
     exact⟨j,by omega,rfl,Up (by rw[Hn.out];omega) Hp.out Hd.out,trivial⟩
    case measure=>simp[intOf]
   ·have e0:((gd l j:Int) == 0)=false:=by simpa using hd
    have Hd:=ξ hd;clear hd
    have ht:=ξ (Un H0.out (by rw[Hn.out];omega) Hp.out Hd.out)
    go_wp2
    go_ret
    exact⟨⟨j+1,rfl,by rw[← ht.out];exact HA.out.take (j+1) (j+1) (by rw[Hn.out];omega) (Nat.le_refl _) (by omega)⟩,rfl⟩
theorem Lg (w:World)(v:Value)(l:List Nat)(h:NatL w v l):
  Calls Tryz.prog 234 #[v] w fun e w'=>(∃ p k,e = .returned (.slice p k k)∧NatL w (.slice p k k) (trimL l))∧w=w':=by
 obtain⟨p,c,rfl,-⟩:=h.parts
 exact(Tj w p _ c l h).mono fun e w' ⟨⟨k,h1,h2⟩,h3⟩=>⟨⟨p,k,h1,h2⟩,h3⟩
theorem Tg (w:World)(va vb:Value)(la lb:List Nat)(ha:NatL w va la)(hb:NatL w vb lb)(hla:la.length≤8796093022208)(hlb:lb.length≤8796093022208):
  Calls Tryz.prog 195 #[va,vb] w (Ret w fun r w'=>NatL w' r (digs (nval la * nval lb))):=by
 have HA:=ξ ha
 have HB:=ξ hb
 obtain⟨p,c,rfl,a1,a2,a3⟩:=ha.parts
 obtain⟨q,d,rfl,b1,b2,b3⟩:=hb.parts
 have A3:=ξ a3
 have B3:=ξ b3
 clear ha hb a3 b3
 obtain⟨na,hna⟩:∃ n,la.length=n:=⟨_,rfl⟩
 obtain⟨nb,hnb⟩:∃ n,lb.length=n:=⟨_,rfl⟩
 rw[hna] at HA a1 hla ⊢
 rw[hnb] at HB b1 hlb ⊢
 have Hna:=ξ hna
 have Hnb:=ξ hnb
 clear hna hnb
 obtain⟨B0,hB0⟩:∃ B0,w.heap.size=B0:=⟨_,rfl⟩
 have HB0:=ξ hB0
 clear hB0
 go_enter Tryz.func195,Tryz.ntmps195
 go_wp2_with (first|(go_at_call 999)|(at_make;go_must (refine P6 rfl _ _ 64 rfl (by kernel_rfl) (na+nb) _ rfl rfl (by omega) (by omega) ?_;rw[HB0.out];intro w1 hrow hgr1 hsz1)))
 go_loopw [20] (fun i w2=>∃ (k:Nat) (l:List Nat),k≤na∧i = .int .i64 k∧RowN w2 B0 l∧l.length=na+nb∧
   nval l=nval (la.take k) * nval lb∧(∀ j,k+nb≤j→gd l j=0)∧Own B0 w w2) (fun i _=>na - (intOf i).toNat)
 case atStart=>
  have e0:∀ j,gd (List.replicate (na+nb) 0) j=0:=fun j=>by
   unfold gd;rw[List.getD_eq_getElem?_getD,List.getElem?_replicate];split<;>rfl
  exact⟨0,_,by omega,rfl,hrow,by simp,by rw[Ps];simp[nval],fun j _=>e0 j,Own.of_gr hgr1 (by rw[HB0.out];exact Nat.le_refl _)⟩
 case round=>
  obtain⟨k,l,hk,rfl,hrow2,hl,hv,hz,ho⟩:=hrel
  have Hrow:=ξ hrow2
  have Hl:=ξ hl
  have Hv:=ξ hv
  have Hz:=ξ hz
  have Ho:=ξ ho
  clear hrow hrow2 hl hv hz ho hgr1 hsz1
  by_cases hka:k < na
  ·obtain⟨bA,oA,rfl,cA⟩:=(HA.out.own HB0.out.symm Ho.out).at k (by rw[Hna.out];exact hka)
   go_wp2_with fail
   obtain⟨wo,hwo⟩:∃ wo:World,wo=wr:=⟨_,rfl⟩
   rw[← hwo]
   rw[← hwo] at Hrow Ho
   clear cA
   clear hwo
   go_loopw [8,27] (fun cr i w3=>∃ (j:Nat) (m:List Nat) (c:Nat),j≤nb∧i = .int .i64 j∧cr = .int .u64 c∧c < BB∧RowN w3 B0 m∧m.length=na+nb∧
     nval m+BB ^ (k+j) * c=nval (la.take k) * nval lb+BB ^ k * (gd la k * nval (lb.take j))∧(∀ t,k+nb≤t→gd m t=0)∧Own B0 w w3) (fun _ i _=>nb - (intOf i).toNat)
   case atStart=>
    exact⟨0,l,0,by omega,rfl,rfl,Jt,Hrow.out,Hl.out,by simp[nval];exact Hv.out,Hz.out,Ho.out⟩
   case round=>
    obtain⟨j,m,c1,hj,rfl,rfl,hc1,hrow3,hm,hv3,hz3,ho3⟩:=hrel
    have Hrow3:=ξ hrow3
    have Hm:=ξ hm
    have Hv3:=ξ hv3
    have Hz3:=ξ hz3
    have Ho3:=ξ ho3
    have Hc1:=ξ hc1
    rw[Jc] at hc1
    clear hrow3 hm hv3 hz3 ho3
    by_cases hjb:j < nb
    ·skip
     obtain⟨bB,oB,rfl,cB⟩:=(HB.out.own HB0.out.symm Ho3.out).at j (by rw[Hnb.out];exact hjb)
     have cR:=Hrow3.out.cell (i:=k+j) (by rw[Hm.out];omega)
     have fR:=Hrow3.out.free (k+j)
     have ga:=A3.out.gd k
     have gb:=B3.out.gd j
     have gm:=Hrow3.out.dig.gd (k+j)
     have hmul:=Qu ga gb
     rw[Jc] at ga gb gm
     have hm1:(0:Int)≤(gd la k:Int) * gd lb j:=by have:=Int.natCast_nonneg (gd la k * gd lb j);rwa [Int.natCast_mul] at this
     have hm2:(gd la k:Int) * gd lb j≤18446744065119617025:=by have:=Int.ofNat_le.2 hmul;rwa [Int.natCast_mul] at this
     clear hmul
     go_wp2_with fail
     obtain⟨P,hP⟩:∃ P,gd la k * gd lb j=P:=⟨_,rfl⟩
     have hPi:(gd la k:Int) * gd lb j=(P:Int):=by rw[← hP];exact(Int.natCast_mul _ _).symm
     obtain⟨s,hs⟩:∃ s,s=P+gd m (k+j)+c1:=⟨_,rfl⟩
     have hP2:P≤18446744065119617025:=by rw[hPi] at hm2;omega
     have hsB:s / BB < BB:=by rw[hs,Jc];omega
     have E2:((gd la k:Int) * gd lb j+gd m (k+j)+c1) / 4294967296=((s / BB:Nat):Int):=by rw[hPi,hs,Jc];omega
     have E1:((gd la k:Int) * gd lb j+gd m (k+j)+c1) % 4294967296=((s % BB:Nat):Int):=by rw[hPi,hs,Jc];omega
     have hst:=Td (l:=m) (i:=k) (k:=j) (c:=c1) (s:=s) (x:=gd la k) (y:=gd lb j) (W:=nval (lb.take j)) (by rw[Hm.out];omega) Hv3.out (by rw[hP];omega)
     refine⟨⟨j+1,m.set (k+j) (s % BB),s / BB,by omega,by go_num,by rw[E2],hsB,Hrow3.out.set (k+j) (s % BB) _ E1 (Nat.mod_lt _ Jt),by rw[List.length_set];exact Hm.out,?_,?_,?_⟩,by simp[intOf];omega⟩
     ·rw[K8];exact hst
     ·intro t ht;rw[Lq (by omega)];exact Hz3.out t ht
     ·exact Ho3.out.trans (Own.setCell _ (Nat.le_refl _) _ _)
    ·obtain rfl:j=nb:=by omega
     have cR:=Hrow3.out.cell (i:=k+j) (by rw[Hm.out];omega)
     have fR:=Hrow3.out.free (k+j)
     go_wp2_with fail
     refine⟨⟨k+1,m.set (k+j) c1,by omega,by go_num,Hrow3.out.set (k+j) c1 _ rfl (by rw[Jc];exact hc1),by rw[List.length_set];exact Hm.out,?_,?_,?_⟩,by simp[intOf];omega⟩
     ·rw[Y5 (by rw[Hm.out];omega) (Hz3.out _ (Nat.le_refl _)) Hv3.out,List.take_of_length_le (l:=lb) (by rw[Hnb.out];exact Nat.le_refl _),K8,Nat.add_mul,Nat.mul_assoc]
     ·intro t ht;rw[Lq (by omega)];exact Hz3.out t (by omega)
     ·exact Ho3.out.trans (Own.setCell _ (Nat.le_refl _) _ _)
  ·obtain rfl:k=na:=by omega
   go_wp2_with fail
   refine(Lg _ _ l (by rw[← Hl.out];exact Hrow.out.read _ (Nat.le_refl _) (by rw[Hl.out];omega))).mono ?_
   rintro _ _ ⟨⟨r,kk,rfl,hr⟩,rfl⟩
   have Hr:=ξ hr
   clear hr
   go_wp2
   go_ret
   refine⟨_,rfl,(by have:=Ho.out;rw[← HB0.out] at this;exact this.gr),?_⟩
   have e:nval l=nval la * nval lb:=by rw[Hv.out,List.take_of_length_le (by rw[Hna.out];exact Nat.le_refl _)]
   rw[← e]
   exact Hr.out
theorem N8 (w:World)(va vb:Value)(la lb:List Nat)(ha:NatL w va la)(hb:NatL w vb lb)(hla:la.length≤35184372088832)(hlb:lb.length≤35184372088832):
  Calls Tryz.prog 174 #[va,vb] w fun e w'=>e = .returned (.int .i64 (cmpZ (nval la) (nval lb)))∧w=w':=by
 have HA:=ξ ha
 have HB:=ξ hb
 obtain⟨p,c,rfl,a1,a2,a3⟩:=ha.parts
 obtain⟨q,d,rfl,b1,b2,b3⟩:=hb.parts
 have A3:=ξ a3
 have B3:=ξ b3
 clear ha hb a3 b3
 obtain⟨na,hna⟩:∃ n,la.length=n:=⟨_,rfl⟩
 obtain⟨nb,hnb⟩:∃ n,lb.length=n:=⟨_,rfl⟩
 rw[hna] at HA a1 hla ⊢
 rw[hnb] at HB b1 hlb ⊢
 have Hna:=ξ hna
 have Hnb:=ξ hnb
 clear hna hnb
 obtain⟨m,hm1,hm2,hmm,hcase⟩:∃ m:Nat,na≤m∧nb≤m∧m≤35184372088832∧(m=nb∧na < nb∨m=na∧nb≤na):=by
  rcases Nat.lt_or_ge na nb with h|h
  ·exact⟨nb,by omega,by omega,by omega,.inl ⟨rfl,by omega⟩⟩
  ·exact⟨na,by omega,by omega,by omega,.inr ⟨rfl,h⟩⟩
 have HD0:=ξ (show nval (la.drop m)=nval (lb.drop m) by rw[List.drop_eq_nil_of_le (by rw[Hna.out];exact hm1),List.drop_eq_nil_of_le (by rw[Hnb.out];exact hm2)])
 rcases hcase with⟨rfl,hc⟩|⟨rfl,hc⟩
 all_goals
  go_enter Tryz.func174,Tryz.ntmps174
  go_wp2_with fail
  go_loopw [5] (fun i w1=>∃ k:Nat,k≤m∧i = .int .i64 ((k:Int) - 1)∧nval (la.drop k)=nval (lb.drop k)∧w=w1) (fun i _=>((intOf i)+1).toNat)
  case atStart=>exact⟨m,Nat.le_refl _,rfl,HD0.out,rfl⟩
  case round=>
   obtain⟨k,hk,rfl,hp,rfl⟩:=hrel
   have Hp:=ξ hp
   clear hp
   by_cases hk0:k=0
   ·obtain rfl:=hk0
    go_wp2_with fail
    go_ret
    have h0:nval la=nval lb:=by simpa using Hp.out
    rw[Vr h0]
    exact⟨rfl,rfl⟩
   ·obtain⟨j,rfl⟩:∃ j,k=j+1:=⟨k - 1,by omega⟩
    have e1:=ξ (show((j+1:Nat):Int) - 1=(j:Int) by omega)
    rw[e1.out]
    go_wp2_with fail
    refine(L4 _ _ la j HA.out (by omega)).mono ?_
    rintro _ _ ⟨rfl,rfl⟩
    go_wp2_with fail
    refine(L4 _ _ lb j HB.out (by omega)).mono ?_
    rintro _ _ ⟨rfl,rfl⟩
    rcases Nat.lt_trichotomy (gd la j) (gd lb j) with hd|hd|hd
    ·have hv:=ξ (Ok (Qx A3.out B3.out Hp.out hd))
     go_wp2_with fail
     go_ret
     rw[hv.out]
     exact⟨rfl,rfl⟩
    ·have hv:=ξ (Zm Hp.out hd)
     have h1:¬ gd la j < gd lb j:=by omega
     have h2:¬ gd lb j < gd la j:=by omega
     clear hd
     go_wp2_with fail
     exact⟨⟨j,by omega,rfl,hv.out,trivial⟩,by simp[intOf]⟩
    ·have hv:=ξ (R4 (Qx B3.out A3.out Hp.out.symm hd))
     have h1:¬ gd la j < gd lb j:=by omega
     go_wp2_with fail
     go_ret
     rw[hv.out]
     exact⟨rfl,rfl⟩
def Rs (fn:Nat)(D C:Nat→Nat→Nat→Nat):Prop:=
 ∀ (w:World) (x y c:Nat),x < BB→y < BB→c≤1→D x y c < BB∧C x y c≤1∧
  Calls Tryz.prog fn #[.int .u64 x,.int .u64 y,.int .u64 c] w fun e w'=>e = .returned (.tuple #[.int .u32 (D x y c),.int .u64 (C x y c)])∧w=w'
theorem Zb (w:World)(va vb:Value)(la lb:List Nat)(ha:NatL w va la)(hb:NatL w vb lb)(hla:la.length≤17592186044416)(hlb:lb.length≤17592186044416)
  (fn:Nat) (hfn:fn=250∨fn=284) (D C:Nat→Nat→Nat→Nat) (hf:Rs fn D C) (I:Nat→List Nat→Nat→Prop) (hI0:I 0 [] 0)
  (hI:∀ k l c,I k l c→l.length=k→c≤1→I (k+1) (l ++ [D (gd la k) (gd lb k) c]) (C (gd la k) (gd lb k) c)):
  Calls Tryz.prog 249 #[va,vb,.func (.func fn) #[] #[]] w (Ret w fun r w'=>∃ l c,I (max la.length lb.length+1) l c∧l.length=max la.length lb.length+1∧Dig l∧c≤1∧NatL w' r (trimL l)):=by
 have HA:=ξ ha
 have HB:=ξ hb
 obtain⟨p,c,rfl,a1,a2,a3⟩:=ha.parts
 obtain⟨q,d,rfl,b1,b2,b3⟩:=hb.parts
 have A3:=ξ a3
 have B3:=ξ b3
 have HF:=ξ hf
 have HI0:=ξ hI0
 have HI:=ξ hI
 clear ha hb a3 b3 hf hI hI0
 obtain⟨na,hna⟩:∃ n,la.length=n:=⟨_,rfl⟩
 obtain⟨nb,hnb⟩:∃ n,lb.length=n:=⟨_,rfl⟩
 rw[hna] at HA a1 hla ⊢
 rw[hnb] at HB b1 hlb ⊢
 have Hna:=ξ hna
 have Hnb:=ξ hnb
 clear hna hnb
 obtain⟨m,hm1,hm2,hmm,hcase⟩:∃ m:Nat,na≤m∧nb≤m∧m≤17592186044416∧(m=nb∧na < nb∨m=na∧nb≤na):=by
  rcases Nat.lt_or_ge na nb with h|h
  ·exact⟨nb,by omega,by omega,by omega,.inl ⟨rfl,by omega⟩⟩
  ·exact⟨na,by omega,by omega,by omega,.inr ⟨rfl,h⟩⟩
 have hmax:max na nb=m:=by omega
 rw[hmax]
 clear hmax
 rcases hcase with⟨rfl,hc⟩|⟨rfl,hc⟩
 all_goals rcases hfn with rfl|rfl
 all_goals
  go_enter Tryz.func249,Tryz.ntmps249
  go_wp2_with fail
  go_loopw [7,8,17] (fun v cr i w1=>∃ (k:Nat) (l:List Nat) (c:Nat),k≤m+1∧i = .int .i64 k∧OwnN w1 w.heap.size v l∧l.length=k∧cr = .int .u64 c∧c≤1∧I k l c∧Own w.heap.size w w1) (fun _ _ i _=>m+1 - (intOf i).toNat)
  case atStart=>exact⟨0,[],0,by omega,rfl,OwnN.nil w _,rfl,rfl,by omega,HI0.out,Own.refl _ _⟩
  case round=>
   obtain⟨k,l,cr,hk,rfl,hown,hl,rfl,hcr,hi,ho⟩:=hrel
   have Hown:=ξ hown
   have Hl:=ξ hl
   have Hi:=ξ hi
   have Ho:=ξ ho
   have Hb:=ξ (show w.heap.size≤wr.heap.size from ho.size)
   clear hown hl hi ho
   by_cases hlt:k < m+1
   ·have ga:=A3.out.gd k
    have gb:=B3.out.gd k
    obtain⟨d1,d2,d3⟩:=HF.out wr _ _ cr ga gb hcr
    have D3:=ξ d3
    have D1:=ξ d1
    clear d3 d1
    rw[Jc] at ga gb
    go_wp2_with fail
    refine(L4 _ _ la k (HA.out.own rfl Ho.out) (by omega)).mono ?_
    rintro _ _ ⟨rfl,rfl⟩
    go_wp2_with fail
    refine(L4 _ _ lb k (HB.out.own rfl Ho.out) (by omega)).mono ?_
    rintro _ _ ⟨rfl,rfl⟩
    go_wp2_with fail
    refine D3.out.mono ?_
    rintro _ _ ⟨rfl,rfl⟩
    go_wp2_with (at_builtin;go_must (refine L9 rfl _ _ 64 rfl (by kernel_rfl) w.heap.size _ (.slice (some ⟨wr.heap.size,0,none⟩) 1 1) l [D (gd la k) (gd lb k) cr] rfl (Hown.out.grow ((Gr.refl wr).alloc _)) rfl (NatL.one wr _ _ rfl D1.out _) (by rw[Hl.out];simp;omega) (Nat.le_trans Hb.out (by simp)) ?_;intro v' w' hown' hgrow hb'))
    refine⟨⟨k+1,l ++ [D (gd la k) (gd lb k) cr],_,by omega,by go_num,hown',by rw[List.length_append,Hl.out];rfl,rfl,d2,HI.out k l cr Hi.out Hl.out hcr,?_⟩,by simp[intOf];omega⟩
    exact(Ho.out.trans (Own.of_gr ((Gr.refl wr).alloc _) Hb.out)).trans hgrow
   ·obtain rfl:k=m+1:=by omega
    go_wp2_with fail
    refine(Lg _ _ l Hown.out.read).mono ?_
    rintro _ _ ⟨⟨r,kk,rfl,hr⟩,rfl⟩
    have Hr:=ξ hr
    clear hr
    go_wp2_with fail
    go_ret
    exact⟨_,rfl,Ho.out.gr,l,cr,Hi.out,Hl.out,Hown.out.2,hcr,Hr.out⟩
theorem J3Y:Rs 250 (fun x y c=>(x+y+c) % BB) (fun x y c=>(x+y+c) / BB):=by
 intro w x y c hx hy hc
 have hx':=hx
 have hy':=hy
 rw[Jc] at hx' hy'
 refine⟨Nat.mod_lt _ Jt,(by show(x+y+c) / BB≤1;rw[Jc];omega),?_⟩
 show Calls _ _ _ _ fun e w'=>e = .returned (.tuple #[.int .u32 ((x+y+c) % BB:Nat),.int .u64 ((x+y+c) / BB:Nat)])∧w=w'
 have E1:=ξ (show((x:Int)+y+c) % 4294967296=(((x+y+c) % BB:Nat):Int) by rw[Jc];omega)
 have E2:=ξ (show((x:Int)+y+c) / 4294967296=(((x+y+c) / BB:Nat):Int) by rw[Jc];omega)
 clear hx hy
 go_enter Tryz.func250,Tryz.ntmps250
 go_wp2
 go_ret2
 exact⟨by rw[← E1.out,← E2.out];rfl,rfl⟩
theorem Ue {x y c:Nat}(hx:x < 4294967296)(hy:y < 4294967296)(hc:c≤1)(h:x < y+c):
  IntKind.u64.wrap (IntKind.u64.wrap ((x:Int) - y) - c) % 4294967296=(((BB+x - y - c) % BB:Nat):Int)∧IntKind.u64.wrap (IntKind.u64.wrap ((x:Int) - y) - c) / 9223372036854775808=((1:Nat):Int):=by
 simp only[IntKind.wrap_u64,Jc]
 omega
theorem Ud {x y c:Nat}(hx:x < 4294967296)(hy:y < 4294967296)(hc:c≤1)(h:¬ x < y+c):
  ((x:Int) - y - c)=(((BB+x - y - c) % BB:Nat):Int)∧((x:Int) - y - c) / 9223372036854775808=((0:Nat):Int):=by
 simp only[Jc]
 omega
theorem J44:Rs 284 (fun x y c=>(BB+x - y - c) % BB) (fun x y c=>if x < y+c then 1 else 0):=by
 intro w x y c hx hy hc
 refine⟨Nat.mod_lt _ Jt,(by show(if x < y+c then 1 else 0)≤1;split<;>omega),?_⟩
 show Calls _ _ _ _ fun e w'=>e = .returned (.tuple #[.int .u32 ((BB+x - y - c) % BB:Nat),.int .u64 ((if x < y+c then 1 else 0:Nat):Int)])∧w=w'
 rw[Jc] at hx hy
 by_cases h:x < y+c
 ·rw[if_pos h]
  go_enter Tryz.func284,Tryz.ntmps284
  go_wp2
  go_ret2
  exact⟨by rw[← (Ue hx hy hc h).1,← (Ue hx hy hc h).2];rfl,rfl⟩
 ·rw[if_neg h]
  go_enter Tryz.func284,Tryz.ntmps284
  go_wp2
  go_ret2
  exact⟨by rw[← (Ud hx hy hc h).1,← (Ud hx hy hc h).2];rfl,rfl⟩
theorem J6i:2≤BB:=by rw[Jc];omega
theorem To (m:Nat):BB ^ m * 2≤BB ^ (m+1):=by rw[Nat.pow_succ];exact Nat.mul_le_mul_left _ J6i
theorem J1q {A B L X Y c:Nat}(hY:X * 2≤Y)(h1:A < X)(h2:B < X)(hc:c≤1)(h:L+Y * c=A+B):L=A+B:=by
 rcases Nat.eq_zero_or_pos c with hc0|hc0
 ·subst hc0;simpa using h
 ·have:c=1:=by omega
  subst this
  omega
theorem J1p {la lb l:List Nat}{m c:Nat}(ha:Dig la)(hb:Dig lb)(hm1:la.length≤m)(hm2:lb.length≤m)(hc:c≤1)
  (h:nval l+BB ^ (m+1) * c=nval (la.take (m+1))+nval (lb.take (m+1))):nval l=nval la+nval lb:=by
 rw[List.take_of_length_le (Nat.le_succ_of_le hm1),List.take_of_length_le (Nat.le_succ_of_le hm2)] at h
 exact J1q (To m) (Nat.lt_of_lt_of_le (Lh la ha) (Nat.pow_le_pow_right Jt hm1)) (Nat.lt_of_lt_of_le (Lh lb hb) (Nat.pow_le_pow_right Jt hm2)) hc h
theorem Pq (w:World)(va vb:Value)(la lb:List Nat)(ha:NatL w va la)(hb:NatL w vb lb)(hla:la.length≤17592186044416)(hlb:lb.length≤17592186044416):
  Calls Tryz.prog 204 #[va,vb] w (Ret w fun r w'=>NatL w' r (digs (nval la+nval lb))):=by
 have H:=ξ (Zb w va vb la lb ha hb hla hlb 250 (.inl rfl) _ _ J3Y (fun k l c=>nval l+BB ^ k * c=nval (la.take k)+nval (lb.take k)) (by simp[nval])
  (fun k l c h hl hc=>Vf hl h (by omega)))
 have HA:=ξ ha
 have HB:=ξ hb
 clear ha hb
 go_enter Tryz.func204,Tryz.ntmps204
 go_wp2_with fail
 refine H.out.mono ?_
 rintro _ w1 ⟨r,rfl,g,l,c,hi,hl,hd,hc,hr⟩
 have Hr:=ξ (show NatL w1 r (digs (nval la+nval lb)) by
  rw[← J1p HA.out.dig HB.out.dig (Nat.le_max_left _ _) (Nat.le_max_right _ _) hc hi];exact hr)
 clear hr hi hl hd hc
 go_wp2_with fail
 go_ret
 exact⟨_,rfl,g,Hr.out⟩
theorem J6c {la lb l:List Nat}{k c:Nat}(hb:Dig lb)(ha:Dig la)(hl:l.length=k)(h:nval l+nval (lb.take k)=nval (la.take k)+BB ^ k * c)(hc:c≤1):
  nval (l ++ [(BB+gd la k - gd lb k - c) % BB])+nval (lb.take (k+1))=nval (la.take (k+1))+BB ^ (k+1) * (if gd la k < gd lb k+c then 1 else 0):=by
 have g1:=hb.gd k
 have g2:=ha.gd k
 have:=Ug (x:=BB+gd la k - gd lb k - c) hl h (by omega) (by rw[Jc] at *;omega)
 rw[this]
 congr 2
 split
 ·rw[Nat.div_eq_of_lt (by omega)]
 ·rw[show(BB+gd la k - gd lb k - c) / BB=1 from by rw[Jc] at *;omega]
theorem J6b {la lb l:List Nat}{m c:Nat}(ha:Dig la)(hb:Dig lb)(hdl:Dig l)(hl:l.length=m+1)(hm1:la.length≤m)(hm2:lb.length≤m)(hc:c≤1)
  (h:nval l+nval (lb.take (m+1))=nval (la.take (m+1))+BB ^ (m+1) * c) (hle:nval lb≤nval la):nval l=nval la - nval lb:=by
 rw[List.take_of_length_le (by omega),List.take_of_length_le (by omega)] at h
 have h2:=Lh l hdl
 rw[hl] at h2
 generalize BB ^ (m+1)=X at *
 rcases Nat.eq_zero_or_pos c with hc0|hc0
 ·subst hc0;rw[Nat.mul_zero] at h;omega
 ·have:c=1:=by omega
  subst this;rw[Nat.mul_one] at h
  omega
theorem Y9 (w:World)(va vb:Value)(la lb:List Nat)(ha:NatL w va la)(hb:NatL w vb lb)(hla:la.length≤17592186044416)(hlb:lb.length≤17592186044416)(hle:nval lb≤nval la):
  Calls Tryz.prog 246 #[va,vb] w (Ret w fun r w'=>∃ x,r = .tuple #[x,.int .i64 0]∧NatL w' x (digs (nval la - nval lb))):=by
 have H:=ξ (Zb w va vb la lb ha hb hla hlb 284 (.inr rfl) _ _ J44 (fun k l c=>nval l+nval (lb.take k)=nval (la.take k)+BB ^ k * c) (by simp[nval])
  (fun k l c h hl hc=>J6c hb.dig ha.dig hl h hc))
 have HA:=ξ ha
 have HB:=ξ hb
 have hc0:¬ cmpZ (nval la) (nval lb) < 0:=by rw[Nb];omega
 have Hle:=ξ hle
 clear ha hb hle
 go_enter Tryz.func246,Tryz.ntmps246
 go_wp2_with fail
 refine(N8 _ va vb la lb HA.out HB.out (by omega) (by omega)).mono ?_
 rintro _ _ ⟨rfl,rfl⟩
 go_wp2_with fail
 refine H.out.mono ?_
 rintro _ w1 ⟨r,rfl,g,l,c,hi,hl,hd,hc,hr⟩
 have Hr:=ξ (show NatL w1 r (digs (nval la - nval lb)) by
  rw[← J6b HA.out.dig HB.out.dig hd hl (Nat.le_max_left _ _) (Nat.le_max_right _ _) hc hi Hle.out];exact hr)
 clear hr hi hl hd hc
 go_wp2_with fail
 go_ret2
 exact⟨_,rfl,g,_,rfl,Hr.out⟩
theorem Y6 (w:World)(v:Value)(l:List Nat)(h:NatL w v l)(hlen:l.length≤17592186044416):
  Calls Tryz.prog 268 #[v] w (Ret w fun r w'=>NatL w' r l):=by
 have HA:=ξ h
 have hE:=fun(w:World) (a:Option Addr) (n c:Nat)=>Lib.run_eql_slice_nil (P:=Tryz.prog) w 64 153 a n c 0 0 (by kernel_rfl)
 obtain⟨h0,p,c,rfl,h1,h2,h3⟩:=h
 rcases p with _|a
 ·have hc0:c=0:=by
   rcases h3 with h3|⟨b,o,h3,-⟩
   ·exact h3
   ·cases h3
  subst hc0
  have hl:l=[]:=List.eq_nil_of_length_eq_zero (by omega)
  subst hl
  go_enter Tryz.func268,Tryz.ntmps268
  go_wp2_with fail
  go_ret
  exact⟨_,rfl,Gr.refl _,NatL.nil _⟩
 ·obtain⟨n,hn⟩:∃ n,l.length=n:=⟨_,rfl⟩
  rw[hn] at HA h1 hlen ⊢
  have Hn:=ξ hn
  clear hn h0 h3
  go_enter Tryz.func268,Tryz.ntmps268
  go_wp2_with (at_builtin;go_must (refine L9 rfl _ _ 64 rfl (by kernel_rfl) w.heap.size _ (.slice (some a) n c) [] l rfl (OwnN.made0 w _ (Nat.le_refl _)) rfl (HA.out.grow ((Gr.refl w).alloc _)) (by rw[Hn.out];simp;omega) (by simp) ?_;intro v' w' hown' hgrow hb'))
  go_ret
  exact⟨_,rfl,((Gr.refl _).alloc _).own hgrow,hown'.read⟩
theorem Qv (w:World)(v:Value)(l:List Nat)(h:NatL w v l)(hlen:l.length≤17592186044416):
  Calls Tryz.prog 226 #[v] w (Ret w fun r w'=>NatL w' r (digs (nval l))):=by
 have HA:=ξ h
 have HL:=ξ (Lk l h.dig)
 clear h
 go_enter Tryz.func226,Tryz.ntmps226
 go_wp2_with fail
 refine(Lg _ _ l HA.out).mono ?_
 rintro _ _ ⟨⟨r,kk,rfl,hr⟩,rfl⟩
 have Hr:=ξ hr
 clear hr
 go_wp2_with fail
 refine(Y6 _ _ _ Hr.out (Nat.le_trans HL.out hlen)).mono ?_
 rintro _ w1 ⟨r',rfl,g,hr'⟩
 have Hr':=ξ hr'
 clear hr'
 go_wp2_with fail
 go_ret
 exact⟨_,rfl,g,Hr'.out⟩
end Go.Proofs.YtcjgimlcefhhmaaGreatDoor

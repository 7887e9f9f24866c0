/- Texts: PwA. -/
import Derived.Test.YtcjgimlcefhhmaaGreatDoorU21
import Derived.Test.YtcjgimlcefhhmaaGreatDoorU39
set_option linter.unusedVariables false
set_option linter.unusedSimpArgs false
set_option maxRecDepth 100000
set_option maxHeartbeats 12800000
namespace Go.Proofs.YtcjgimlcefhhmaaGreatDoor
namespace Prf
open Go.RowKit Go.Lib
def Says (P:Prop)(r:Value):Prop:=∃ t,r = .bool t∧(t=true→P)
theorem Says.yes {P:Prop}(h:P):Says P (.bool true):=⟨true,rfl,fun _=>h⟩
theorem Says.no {P:Prop}:Says P (.bool false):=⟨false,rfl,fun h=>by cases h⟩
theorem Says.cases {P:Prop}{r:Value}(h:Says P r):(r = .bool true∧P)∨r = .bool false:=by
 obtain⟨t,rfl,ht⟩:=h
 cases t
 ·exact .inr rfl
 ·exact .inl ⟨rfl,ht rfl⟩
def Few4 (y:RatM):Prop:=y.k≤4∧y.m≤4
theorem J34 (w:World)(p:Option Addr)(n c:Nat)(T:List RatM)(h:SlL w 3 encRat (.slice p n c) T)(hn:T.length=n)(hb:n≤35184372088832)(hb2:∀ y ∈ T,y.k≤35184372088832∧y.m≤35184372088832):
  Calls Tryz.prog 83 #[.int .i64 4,.slice p n c] w (Ret w fun r _=>Says (∀ y ∈ T,Few4 y) r):=by
 have H:=ξ h
 have HN:=ξ hn
 have HB:=ξ hb2
 clear h hn hb2
 go_enter Tryz.func83,Tryz.ntmps83
 go_wp2_with fail
 go_loopw [5] (fun i w1=>∃ k:Nat,k≤n∧i = .int .i64 k∧(∀ j y,j < k→T[j]?=some y→Few4 y)∧w1=w) (fun i _=>n - (RowKit.intOf i).toNat)
 case atStart=>exact⟨0,Nat.zero_le _,rfl,fun j y hj=>by omega,rfl⟩
 case round=>
  obtain⟨k,hk,rfl,hp,rfl⟩:=hrel
  have Hp:=ξ hp;clear hp
  by_cases hlt:k < n
  ·obtain⟨b,o,x,rfl,hx,hc⟩:=SlL.at Ku H.out HN.out hlt
   have HX:=ξ hx
   have c1:=hc 1 _ rfl _ (Gr.refl _)
   have c2:=hc 2 _ rfl _ (Gr.refl _)
   have hbx:=HB.out x (List.mem_of_getElem? hx)
   obtain⟨xn,xp,xk,xc,xq,xm,xe⟩:=x
   dsimp only at c1 c2 hbx
   clear hx hc
   by_cases h10:(xk:Int)≤4
   ·by_cases h11:(xm:Int)≤4
    ·go_wp2_with fail
     refine⟨⟨k+1,by omega,by go_num,fun j y hj hy=>?_,by trivial⟩,by simp[RowKit.intOf];omega⟩
     by_cases hj2:j < k
     ·exact Hp.out j y hj2 hy
     ·obtain rfl:j=k:=by omega
      rw[HX.out] at hy
      cases hy
      exact⟨by show xk≤4;omega,by show xm≤4;omega⟩
    ·go_wp2_with fail
     go_ret
     exact⟨_,rfl,Gr.refl _,Says.no⟩
   ·go_wp2_with fail
    go_ret
    exact⟨_,rfl,Gr.refl _,Says.no⟩
  ·have HD:=ξ (show ∀ y ∈ T,Few4 y from fun y hy=>by
    obtain⟨j,hj,rfl⟩:=List.getElem_of_mem hy
    exact Hp.out j _ (by have:=HN.out;omega) (List.getElem?_eq_getElem hj))
   go_wp2_with fail
   go_ret
   exact⟨_,rfl,Gr.refl _,Says.yes HD.out⟩
def M8 (w:World)(p:Option Addr)(n c:Nat):Prop:=n≤16∧∃ T:List RatM,T.length=n∧SlL w 3 encRat (.slice p n c) T∧(∀ y ∈ T,RatR w y)∧∀ y ∈ T,Few4 y
theorem Xu (w:World)(p:Option Addr)(n c:Nat)(h:Ny w p n c):Calls Tryz.prog 39 #[.slice p n c,.int .i64 16] w (Ret w fun r _=>Says (M8 w p n c) r):=by
 obtain⟨T,hn,h,hb,hr⟩:=h
 have H:=ξ h
 have HN:=ξ (And.intro hn hb)
 have HR:=ξ hr
 clear h hn hb hr
 by_cases h0:(n:Int)≤16
 ·have h0':n≤16:=by omega
  have H0:=ξ h0'
  go_enter Tryz.func39,Tryz.ntmps39
  go_wp2_with fail
  refine(J34 w p n c T H.out HN.out.1 HN.out.2 (fun y hy=>by obtain⟨l,d,-,-,e1,e2,e3,e4⟩:=HR.out y hy;omega)).mono ?_
  rintro _ w1 ⟨r1,rfl,g1,h1⟩
  have G:=ξ g1
  have H1:=ξ (show Says (M8 w p n c) r1 from by
   obtain⟨t,rfl,ht⟩:=h1
   exact⟨t,rfl,fun h=>⟨H0.out,T,HN.out.1,H.out,HR.out,ht h⟩⟩)
  clear g1 h1
  obtain⟨t,rfl,-⟩:=H1.out
  go_wp2_with fail
  go_ret
  exact⟨_,rfl,G.out,H1.out⟩
 ·go_enter Tryz.func39,Tryz.ntmps39
  go_wp2_with fail
  go_ret
  exact⟨_,rfl,Gr.refl _,Says.no⟩
def Mu (w:World)(x:Jm):Prop:=M8 w x.mp x.mn x.mc∧M8 w x.cp x.cn x.cc∧x.vn≤10
theorem Ny.grow {w w':World}{p:Option Addr}{n c:Nat}(h:Ny w p n c)(g:Gr w w'):Ny w' p n c:=by
 obtain⟨T,h1,h2,h3,h4⟩:=h
 refine⟨T,h1,SlL.grow h2 g,h3,fun y hy=>?_⟩
 obtain⟨l,d,k1,k2,k3⟩:=h4 y hy
 exact⟨l,d,k1.grow g,k2.grow g,k3⟩
theorem M8.grow {w w':World}{p:Option Addr}{n c:Nat}(h:M8 w p n c)(g:Gr w w'):M8 w' p n c:=by
 obtain⟨a,T,b1,b2,b3,b4⟩:=h
 exact⟨a,T,b1,SlL.grow b2 g,fun y hy=>by
  obtain⟨l,d,q1,q2,q3⟩:=b3 y hy
  exact⟨l,d,q1.grow g,q2.grow g,q3⟩,b4⟩
theorem Mu.grow {w w':World}{x:Jm}(h:Mu w x)(g:Gr w w'):Mu w' x:=⟨h.1.grow g,h.2.1.grow g,h.2.2⟩
theorem J36 (w:World)(p:Option Addr)(n c:Nat)(l:List Jm)(h:SlL w 8 encNode (.slice p n c) l)(hn:l.length=n)(hb:n≤35184372088832)(hr:∀ x ∈ l,Mt w x):
  Calls Tryz.prog 22 #[.slice p n c,.int .i64 24] w (Ret w fun r w'=>Says (n≤24∧∀ x ∈ l,Mu w' x) r):=by
 have H:=ξ h
 have HN:=ξ (And.intro hn hb)
 have HR:=ξ hr
 clear h hn hr
 go_enter Tryz.func22,Tryz.ntmps22
 go_wp2_with fail
 go_loopw [5] (fun i w1=>∃ (k:Nat) (W1:World),W1=w1∧k≤n∧i = .int .i64 k∧(∀ j y,j < k→l[j]?=some y→Mu W1 y)∧Gr w W1) (fun i _=>n - (RowKit.intOf i).toNat)
 case atStart=>exact⟨0,_,rfl,Nat.zero_le _,rfl,fun j y hj=>by omega,Gr.refl _⟩
 case round=>
  obtain⟨k,W1,rfl,hk,rfl,hp,hg⟩:=hrel
  have Hp:=ξ hp
  have G:=ξ hg
  clear hp hg
  by_cases hlt:k < n
  ·obtain⟨b,o,x,rfl,hx,hc⟩:=SlL.at Nd H.out HN.out.1 hlt
   have HX:=ξ hx
   have HXR:=ξ (HR.out x (List.mem_of_getElem? hx))
   have HC:=ξ hc
   have c1:=hc 1 _ rfl _ G.out
   clear hx hc
   go_wp2_with fail
   clear c1
   refine(Xu _ x.mp x.mn x.mc (HXR.out.mult.grow G.out)).mono ?_
   rintro _ w2 ⟨r2,rfl,g2,h2⟩
   have GS:=ξ G.out
   have G:=ξ (G.out.trans g2)
   rcases h2.cases with⟨rfl,k2⟩|rfl
   rotate_left
   ·clear h2 g2
    go_wp2_with fail
    go_ret
    exact⟨_,rfl,G.out,Says.no⟩
   have S1:=ξ (And.intro k2 g2)
   have c7:=HC.out 7 _ rfl _ G.out
   have c5:=HC.out 5 _ rfl _ G.out
   have hvb:x.vn≤35184372088832:=by obtain⟨T,_,_,h,_⟩:=HXR.out.vars;exact h
   clear h2 g2 k2
   obtain⟨kd,mp,mn,mc,var,pos,ck,cp,cn,cc,row,vp,vn,vc2⟩:=x
   dsimp only at c5 c7 hvb
   by_cases h10:(vn:Int)≤10
   rotate_left
   ·go_wp2_with fail
    go_ret
    exact⟨_,rfl,G.out,Says.no⟩
   go_wp2_with fail
   clear c5 c7
   refine(Xu _ cp cn cc (HXR.out.cmul.grow G.out)).mono ?_
   rintro _ w3 ⟨r3,rfl,g3,h3⟩
   have G2:=ξ G.out
   have G:=ξ (G.out.trans g3)
   rcases h3.cases with⟨rfl,k3⟩|rfl
   rotate_left
   ·clear h3 g3
    go_wp2_with fail
    go_ret
    exact⟨_,rfl,G.out,Says.no⟩
   have HNS:=ξ (show Mu w3 ⟨kd,mp,mn,mc,var,pos,ck,cp,cn,cc,row,vp,vn,vc2⟩ from⟨(S1.out.1.grow S1.out.2).grow g3,k3.grow g3,by show vn≤10;omega⟩)
   have HGG:=ξ (S1.out.2.trans g3)
   clear h3 g3 k3
   go_wp2_with fail
   refine⟨⟨k+1,_,rfl,by omega,by go_num,fun j y hj hy=>?_,G.out⟩,by simp[RowKit.intOf];omega⟩
   by_cases hj2:j < k
   ·exact(Hp.out j y hj2 hy).grow HGG.out
   ·obtain rfl:j=k:=by omega
    rw[HX.out] at hy
    cases hy
    exact HNS.out
  ·have HD:=ξ (show ∀ y ∈ l,Mu W1 y from fun y hy=>by
    obtain⟨j,hj,rfl⟩:=List.getElem_of_mem hy
    exact Hp.out j _ (by have:=HN.out.1;omega) (List.getElem?_eq_getElem hj))
   by_cases h0:(n:Int)≤24
   ·have H0:=ξ (show n≤24 by omega)
    go_wp2_with fail
    go_ret
    exact⟨_,rfl,G.out,Says.yes ⟨H0.out,HD.out⟩⟩
   ·go_wp2_with fail
    go_ret
    exact⟨_,rfl,G.out,Says.no⟩
theorem J35 (w:World)(a b:Option Addr)(c d nv nr:Nat)(V:List VarM)(T:List RowM)(hv:K3 w (.slice a nv c) V)(hr:SlL w 5 encRow (.slice b nr d) T)(hnv:V.length=nv)(hnr:T.length=nr)(hx:∀ y ∈ T,RowR w y)(hb:nv≤35184372088832)(hb2:nr≤35184372088832)(hnm:∀ y ∈ T,y.name.length≤9223372036854775807):
  Calls Tryz.prog 21 #[.agg #[.slice a nv c,.slice b nr d],.int .i64 6,.int .i64 8] w (Ret w fun r _=>Says (nv≤6∧nr≤8∧∀ y ∈ T,y.terms.length≤12∧y.name.length≤100) r):=by
 have B:=Ja.new w #[.slice a nv c,.slice b nr d] 25
 have HB:=ξ B
 have H:=ξ (SlL.grow hr B.1)
 have HN:=ξ hnr
 have HR:=ξ hx
 have HNM:=ξ hnm
 clear hv hr hnv hnr hx hnm B
 go_enter Tryz.func21,Tryz.ntmps21
 go_wp2_with fail
 generalize w.heap.size=bp at HB ⊢
 generalize w.alloc _=W at HB H ⊢
 go_loopw [7] (fun i w1=>∃ k:Nat,k≤nr∧i = .int .i64 k∧(∀ j y,j < k→T[j]?=some y→y.terms.length≤12∧y.name.length≤100)∧w1=W) (fun i _=>nr - (RowKit.intOf i).toNat)
 case atStart=>exact⟨0,Nat.zero_le _,rfl,fun j y hj=>by omega,rfl⟩
 case round=>
  obtain⟨k,hk,rfl,hp,rfl⟩:=hrel
  have Hp:=ξ hp;clear hp
  have p0:=HB.out.2.at 0 rfl
  have p1:=HB.out.2.at 1 rfl
  by_cases hlt:k < nr
  ·obtain⟨g,o,x,rfl,hx,hc⟩:=SlL.at L1 H.out HN.out hlt
   have HX:=ξ hx
   have c0:=hc 0 _ rfl _ (Gr.refl _)
   have c3:=hc 3 _ rfl _ (Gr.refl _)
   rw[Nat.add_zero] at c0
   have hbx:=(HR.out x (List.mem_of_getElem? hx)).2.2
   have hbn:=HNM.out x (List.mem_of_getElem? hx)
   obtain⟨xname,xg,xk,tp,tc,xt,xb⟩:=x
   dsimp only at c0 c3 hbx hbn
   obtain⟨nt,hnt⟩:∃ z,xt.length=z:=⟨_,rfl⟩
   obtain⟨nn,hnn⟩:∃ z,xname.length=z:=⟨_,rfl⟩
   rw[hnt] at c3 hbx
   have HNT:=ξ hnt
   clear hx hc hnt
   have hsn:xname.toArray.size=nn:=by simpa using hnn
   rw[hnn] at hbn
   have HNN:=ξ hnn
   clear hnn
   by_cases h10:(nt:Int)≤12
   ·by_cases h11:(nn:Int)≤100
    ·go_wp2_with fail
     refine⟨⟨k+1,by omega,by go_num,fun j y hj hy=>?_,by trivial⟩,by simp[RowKit.intOf];omega⟩
     by_cases hj2:j < k
     ·exact Hp.out j y hj2 hy
     ·obtain rfl:j=k:=by omega
      rw[HX.out] at hy
      cases hy
      exact⟨by show xt.length≤12;rw[HNT.out];omega,by show xname.length≤100;rw[HNN.out];omega⟩
    ·go_wp2_with fail
     go_ret
     exact⟨_,rfl,HB.out.1,Says.no⟩
   ·go_wp2_with fail
    go_ret
    exact⟨_,rfl,HB.out.1,Says.no⟩
  ·have HD:=ξ (show ∀ y ∈ T,y.terms.length≤12∧y.name.length≤100 from fun y hy=>by
    obtain⟨j,hj,rfl⟩:=List.getElem_of_mem hy
    exact Hp.out j _ (by have:=HN.out;omega) (List.getElem?_eq_getElem hj))
   by_cases h0:(nv:Int)≤6
   ·by_cases h1:(nr:Int)≤8
    ·have H0:=ξ (show nv≤6∧nr≤8 by omega)
     go_wp2_with fail
     go_ret
     exact⟨_,rfl,HB.out.1,Says.yes ⟨H0.out.1,H0.out.2,HD.out⟩⟩
    ·go_wp2_with fail
     go_ret
     exact⟨_,rfl,HB.out.1,Says.no⟩
   ·go_wp2_with fail
    go_ret
    exact⟨_,rfl,HB.out.1,Says.no⟩
theorem J0y {w:World}{p:Option Addr}{n c:Nat}(h:M8 w p n c):∃ xs:List Rat,xs.length=n∧n≤16∧Kx w (.slice p n c) xs 4∧∀ x ∈ xs,Sz 4 x:=by
 obtain⟨h0,T,h1,h2,h3,h4⟩:=h
 have each:∀ y ∈ T,∃ q,RatV w y.v q 4:=fun y hy=>by
  obtain⟨l,d,k1,k2,e1,e2,-,-⟩:=h3 y hy
  have f:=h4 y hy
  exact⟨ratv y.n l d,y.n,l,d,RatL.mk k1 k2,rfl,by rw[← e1];exact f.1,by rw[← e2];exact f.2⟩
 have hl:∃ xs:List Rat,xs.length=T.length∧∀ (i:Nat) (t:RatM) (x:Rat),T[i]?=some t→xs[i]?=some x→RatV w t.v x 4:=by
  clear h1 h2 h3 h4
  induction T with
  | nil=>exact⟨[],rfl,fun i t x ht=>by simp at ht⟩
  | cons y T ih=>
   obtain⟨xs,e,hx⟩:=ih (fun z hz=>each z (List.mem_cons_of_mem _ hz))
   obtain⟨q,hq⟩:=each y (List.mem_cons_self ..)
   refine⟨q :: xs,by simp[e],fun i t x ht hx'=>?_⟩
   cases i with
   | zero=>simp at ht hx';subst ht hx';exact hq
   | succ i=>exact hx i t x (by simpa using ht) (by simpa using hx')
 obtain⟨xs,e,hx⟩:=hl
 refine⟨xs,by omega,h0,⟨T,h2,e.symm,fun i t ht=>?_⟩,fun x hx2=>?_⟩
 ·have hi:=(List.getElem?_eq_some_iff.1 ht).1
  have hxi:xs[i]?=some xs[i]:=List.getElem?_eq_getElem (by omega)
  have:=hx i t _ ht hxi
  unfold atQ
  rw[hxi]
  exact this
 ·obtain⟨i,hi,rfl⟩:=List.getElem_of_mem hx2
  have hti:T[i]?=some T[i]:=List.getElem?_eq_getElem (by omega)
  exact(hx i _ _ hti (List.getElem?_eq_getElem hi)).sz (by decide)
theorem J61 {w w0:World}{x:Jm}(h:Mt w x)(g:Gr w w0)(hs:Mu w0 x):∃ s:Jh,Kj w0 x s 4∧K1 s∧s.kind=x.kind:=by
 obtain⟨m,e1,b1,r1,z1⟩:=J0y hs.1
 obtain⟨cm,e2,b2,r2,z2⟩:=J0y hs.2.1
 obtain⟨V,e3,r3,b3,z3⟩:=h.vars
 refine⟨⟨x.kind,m,x.var,x.pos,⟨x.ck,cm,x.row,V⟩⟩,⟨rfl,rfl,rfl,r1,e1.symm,⟨x.cp,x.cn,x.cc,x.vp,x.vn,x.vc,rfl,r2,SlL.grow r3 g,e2.symm,e3.symm⟩⟩,⟨by show m.length≤16;omega,z1,by show cm.length≤16;omega,z2,by show V.length≤1000;have:=hs.2.2;omega⟩,rfl⟩
theorem J62 {w W:World}{p:Option Addr}{n c:Nat}{l:List Jm}(h:SlL w 8 encNode (.slice p n c) l)(hn:l.length=n)(hr:∀ x ∈ l,Mt w x)(g:Gr w W)(hs:∀ x ∈ l,Mu W x):
  ∃ N:List Jh,N.length=n∧J1 W (.slice p n c) N 4∧∀ s ∈ N,K1 s:=by
 have hl:∃ N:List Jh,N.length=l.length∧(∀ (i:Nat) (t:Jm) (s:Jh),l[i]?=some t→N[i]?=some s→Kj W t s 4)∧∀ s ∈ N,K1 s:=by
  clear h hn
  induction l with
  | nil=>exact⟨[],rfl,fun i t x ht=>by simp at ht,by simp⟩
  | cons y l ih=>
   obtain⟨N,e,hx,hf⟩:=ih (fun z hz=>hr z (List.mem_cons_of_mem _ hz)) (fun z hz=>hs z (List.mem_cons_of_mem _ hz))
   obtain⟨s,hs1,hs2,-⟩:=J61 (hr y (List.mem_cons_self ..)) g (hs y (List.mem_cons_self ..))
   refine⟨s :: N,by simp[e],fun i t x ht hx'=>?_,fun z hz=>?_⟩
   ·cases i with
    | zero=>simp at ht hx';subst ht hx';exact hs1
    | succ i=>exact hx i t x (by simpa using ht) (by simpa using hx')
   ·rcases List.mem_cons.1 hz with rfl|hz
    ·exact hs2
    ·exact hf z hz
 obtain⟨N,e,hx,hf⟩:=hl
 exact⟨N,by omega,⟨l,SlL.grow h g,e.symm,hx⟩,hf⟩
structure J1l (w:World)(v:Value)(p:Prg)(nv:Value)(N:List Jh):Prop where
 prg:Jv w v p
 nodes:J1 w nv N 4
 few:∀ s ∈ N,K1 s
 i:PrgI p
 nl:∀ r ∈ p.rows,r.name.length≤1000000
 n:p.vars.length≤6
 m:p.rows.length≤8
 k:N.length≤24
theorem Xv (w:World)(a b q:Option Addr)(c d nv nr nn nc:Nat)(V:List VarM)(T:List RowM)(l:List Jm)(hv:K3 w (.slice a nv c) V)(hr:SlL w 5 encRow (.slice b nr d) T)(hl:SlL w 8 encNode (.slice q nn nc) l)(hnv:V.length=nv)(hnr:T.length=nr)(hnl:l.length=nn)
  (hvi:∀ y ∈ V,VarI y) (hx:∀ y ∈ T,RowR w y) (hlr:∀ x ∈ l,Mt w x) (hb:nv≤35184372088832) (hb2:nr≤35184372088832) (hb3:nn≤35184372088832) (hnm:∀ y ∈ T,y.name.length≤9223372036854775807):
  Calls Tryz.prog 8 #[.agg #[.slice a nv c,.slice b nr d],.slice q nn nc] w (Ret w fun r w'=>Says (∃ N,N.length=nn∧J1l w' (.agg #[.slice a nv c,.slice b nr d]) ⟨V,T.map RowM.s⟩ (.slice q nn nc) N) r):=by
 have HV:=ξ hv
 have HR:=ξ hr
 have HL:=ξ hl
 have HN:=ξ (And.intro hnv (And.intro hnr hnl))
 have HVI:=ξ hvi
 have HX:=ξ hx
 have HLR:=ξ hlr
 have HNM:=ξ hnm
 have B:=Ja.new w #[.slice a nv c,.slice b nr d] 25
 have HB:=ξ B
 clear hv hr hl hnv hnr hnl hvi hx hlr hnm B
 go_enter Tryz.func8,Tryz.ntmps8
 go_wp2_with fail
 generalize w.heap.size=bp at HB ⊢
 generalize w.alloc _=W at HB ⊢
 refine(J35 W a b c d nv nr V T (SlL.grow HV.out HB.out.1) (SlL.grow HR.out HB.out.1) HN.out.1 HN.out.2.1 (fun y hy=>by obtain⟨k1,k2,k3⟩:=HX.out y hy;exact⟨SlL.grow k1 HB.out.1,k2,k3⟩) hb hb2 HNM.out).mono ?_
 rintro _ w1 ⟨r1,rfl,g1,h1⟩
 have G:=ξ (HB.out.1.trans g1)
 rcases h1.cases with⟨rfl,k1⟩|rfl
 rotate_left
 ·clear h1 g1
  go_wp2_with fail
  go_ret
  exact⟨_,rfl,G.out,Says.no⟩
 have H1:=ξ k1
 clear h1 g1 k1
 go_wp2_with fail
 refine(J36 w1 q nn nc l (SlL.grow HL.out G.out) HN.out.2.2 hb3 (fun x hx=>by
  have h:=HLR.out x hx
  refine⟨h.mult.grow G.out,h.cmul.grow G.out,?_,h.kind,h.var,h.pos,h.ck,h.row⟩
  obtain⟨V,e3,r3,b3,z3⟩:=h.vars
  exact⟨V,e3,SlL.grow r3 G.out,b3,z3⟩)).mono ?_
 rintro _ w2 ⟨r2,rfl,g2,h2⟩
 have G:=ξ (G.out.trans g2)
 rcases h2.cases with⟨rfl,k2⟩|rfl
 rotate_left
 ·clear h2 g2
  go_wp2_with fail
  go_ret
  exact⟨_,rfl,G.out,Says.no⟩
 have H2:=ξ k2
 clear h2 g2 k2
 go_wp2_with fail
 go_ret
 refine⟨_,rfl,G.out,Says.yes ?_⟩
 obtain⟨N,hN,hna,hnf⟩:=J62 HL.out HN.out.2.2 HLR.out G.out H2.out.2
 have e1:=HN.out.1
 have e2:=HN.out.2.1
 have e3:(T.map RowM.s).length=nr:=by rw[List.length_map];exact e2
 refine⟨N,hN,⟨⟨a,c,b,d,?_,?_,?_⟩,hna,hnf,⟨HVI.out,fun r hr=>?_⟩,fun r hr=>?_,?_,?_,?_⟩⟩
 ·unfold prgV
  simp only[e1,e3]
 ·show K3 _ (.slice a V.length c) V
  rw[e1];exact SlL.grow HV.out G.out
 ·show Mc _ (.slice b (T.map RowM.s).length d) (T.map RowM.s)
  rw[e3]
  exact⟨T,SlL.grow HR.out G.out,rfl,fun x hx=>SlL.grow (HX.out x hx).1 G.out⟩
 ·obtain⟨x,hx,rfl⟩:=List.mem_map.1 hr
  exact(HX.out x hx).2.1
 ·obtain⟨x,hx,rfl⟩:=List.mem_map.1 hr
  have:=(H1.out.2.2 x hx).2
  show x.name.length≤1000000
  omega
 ·show V.length≤6
  have:=H1.out.1;omega
 ·show(T.map RowM.s).length≤8
  rw[e3];exact H1.out.2.1
 ·have:=H2.out.1;omega
end Prf
end Go.Proofs.YtcjgimlcefhhmaaGreatDoor

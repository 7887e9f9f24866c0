/- Texts: PwA. -/
import Derived.Test.YtcjgimlcefhhmaaGreatDoorC15
import Derived.Test.YtcjgimlcefhhmaaGreatDoorC29
set_option linter.unusedVariables false
set_option linter.unusedSimpArgs false
set_option maxRecDepth 100000
set_option maxHeartbeats 12800000
namespace Go.Proofs.YtcjgimlcefhhmaaGreatDoor
namespace Prf
open Go.RowKit Go.Lib
def Says (P:Prop)(r:Value):Prop:=∃ t,r = .bool t∧(t=true→P)
theorem Says.yes {P:Prop}(h:P):Says P (.bool true):=⟨true,rfl,fun _=>h⟩
theorem Says.no {P:Prop}:Says P (.bool false):=⟨false,rfl,fun h=>by cases h⟩
theorem Says.cases {P:Prop}{r:Value}(h:Says P r):(r = .bool true∧P)∨r = .bool false:=by
 obtain⟨t,rfl,a⟩:=h
 cases t
 ·exact .inr rfl
 ·exact .inl ⟨rfl,a rfl⟩
def Few4 (y:RatM):Prop:=y.k≤4∧y.m≤4
theorem J3q (w:World)(p:Option Addr)(n c:Nat)(T:List RatM)(h:SlL w 3 encRat (.slice p n c) T)(s:T.length=n)(K:n≤35184372088832)(q:∀ y ∈ T,y.k≤35184372088832∧y.m≤35184372088832):
  Calls Tryz.prog 83 #[.int .i64 4,.slice p n c] w (Ret w fun r _=>Says (∀ y ∈ T,Few4 y) r):=by
 obtain⟨H,l,z⟩:=Z3 h s q;clear h s q;go_enter Tryz.func83,Tryz.ntmps83;go_wp2_with fail;go_loopw [5] (fun i G=>∃ k:Nat,k≤n∧i = .int .i64 k∧(∀ j y,j < k→T[j]?=some y→Few4 y)∧G=w) (fun i _=>n - (RowKit.intOf i).toNat)
 case atStart=>exact⟨0,Nat.zero_le _,rfl,fun j y f=>by omega,rfl⟩
 case round=>
  obtain⟨k,L,rfl,t,rfl⟩:=hrel;have m:=Z t;clear t;by_cases F:k < n
  ·obtain⟨b,o,x,rfl,g,d⟩:=SlL.at L9 H.o l.o F;have B:=Z g;have C:=d 1 _ rfl _ (Gr.refl _);have c2:=d 2 _ rfl _ (Gr.refl _);have D:=z.o x (List.mem_of_getElem? g);obtain⟨O,P,u,M,Q,v,N⟩:=x;dsimp only at C c2 D;clear g d;by_cases I:(u:Int)≤4
   ·by_cases J:(v:Int)≤4
    ·go_wp2_with fail;refine⟨⟨k+1,by omega,by go_num,fun j y f a=>?_,by trivial⟩,by simp[RowKit.intOf];omega⟩;by_cases E:j < k
     ·exact m.o j y E a
     ·obtain rfl:j=k:=by omega
      rw[B.o] at a
      cases a
      exact⟨by show u≤4;omega,by show v≤4;omega⟩
    ·go_wp2_with fail;go_ret;exact⟨_,rfl,Gr.refl _,Says.no⟩
   ·go_wp2_with fail;go_ret;exact⟨_,rfl,Gr.refl _,Says.no⟩
  ·have A:=Z (show ∀ y ∈ T,Few4 y from fun y a=>by
    obtain⟨j,f,rfl⟩:=List.getElem_of_mem a;exact m.o j _ (by have:=l.o;omega) (List.getElem?_eq_getElem f))
   go_wp2_with fail;go_ret;exact⟨_,rfl,Gr.refl _,Says.yes A.o⟩
def Nu (w:World)(p:Option Addr)(n c:Nat):Prop:=n≤16∧∃ T:List RatM,T.length=n∧SlL w 3 encRat (.slice p n c) T∧(∀ y ∈ T,RatR w y)∧∀ y ∈ T,Few4 y
theorem Yb (w:World)(p:Option Addr)(n c:Nat)(h:Og w p n c):Calls Tryz.prog 39 #[.slice p n c,.int .i64 16] w (Ret w fun r _=>Says (Nu w p n c) r):=by
 obtain⟨T,j,h,i,k⟩:=h;obtain⟨H,a,f⟩:=Z3 h (And.intro j i) k;clear h j i k;by_cases B:(n:Int)≤16
 ·have o:n≤16:=by omega
  have m:=Z o;go_enter Tryz.func39,Tryz.ntmps39;go_wp2_with fail;refine(J3q w p n c T H.o a.o.1 a.o.2 (fun y s=>by obtain⟨l,d,-,-,v,x,z,A⟩:=f.o y s;omega)).mono ?_;rintro _ C ⟨u,rfl,g1,g⟩;have G:=Z g1;have b:=Z (show Says (Nu w p n c) u from by
   obtain⟨t,rfl,q⟩:=g;exact⟨t,rfl,fun h=>⟨m.o,T,a.o.1,H.o,f.o,q h⟩⟩)
  clear g1 g;obtain⟨t,rfl,-⟩:=b.o;go_wp2_with fail;go_ret;exact⟨_,rfl,G.o,b.o⟩
 ·go_enter Tryz.func39,Tryz.ntmps39;go_wp2_with fail;go_ret;exact⟨_,rfl,Gr.refl _,Says.no⟩
def Nd (w:World)(x:Jr):Prop:=Nu w x.mp x.mn x.mc∧Nu w x.cp x.cn x.cc∧x.vn≤10
theorem Og.grow {w w':World}{p:Option Addr}{n c:Nat}(h:Og w p n c)(g:Gr w w'):Og w' p n c:=by
 obtain⟨T,a,b,f,i⟩:=h;refine⟨T,a,SlL.grow b g,f,fun y j=>?_⟩;obtain⟨l,d,k,m,o⟩:=i y j;exact⟨l,d,k.grow g,m.grow g,o⟩
theorem Nu.grow {w w':World}{p:Option Addr}{n c:Nat}(h:Nu w p n c)(g:Gr w w'):Nu w' p n c:=by
 obtain⟨a,T,b,f,i,j⟩:=h;exact⟨a,T,b,SlL.grow f g,fun y k=>by
  obtain⟨l,d,m,o,q⟩:=i y k;exact⟨l,d,m.grow g,o.grow g,q⟩,j⟩
theorem Nd.grow {w w':World}{x:Jr}(h:Nd w x)(g:Gr w w'):Nd w' x:=⟨h.1.grow g,h.2.1.grow g,h.2.2⟩
theorem J3s (w:World)(p:Option Addr)(n c:Nat)(l:List Jr)(h:SlL w 8 encNode (.slice p n c) l)(K:l.length=n)(Y:n≤35184372088832)(M:∀ x ∈ l,Ns w x):
  Calls Tryz.prog 22 #[.slice p n c,.int .i64 24] w (Ret w fun r w'=>Says (n≤24∧∀ x ∈ l,Nd w' x) r):=by
 obtain⟨H,B,U⟩:=Z3 h (And.intro K Y) M;clear h K M;go_enter Tryz.func22,Tryz.ntmps22;go_wp2_with fail;go_loopw [5] (fun i w1=>∃ (k:Nat) (a:World),a=w1∧k≤n∧i = .int .i64 k∧(∀ j y,j < k→l[j]?=some y→Nd a y)∧Gr w a) (fun i _=>n - (RowKit.intOf i).toNat)
 case atStart=>exact⟨0,_,rfl,Nat.zero_le _,rfl,fun j y u=>by omega,Gr.refl _⟩
 case round=>
  obtain⟨k,a,rfl,hk,rfl,L,J⟩:=hrel;obtain⟨C,G⟩:=Z2 L J;clear L J;by_cases a1:k < n
  ·obtain⟨b,o,x,rfl,v,t⟩:=SlL.at N0 H.o B.o.1 a1;obtain⟨V,g,A⟩:=Z3 v (U.o x (List.mem_of_getElem? v)) t;have W:=t 1 _ rfl _ G.o;clear v t;go_wp2_with fail;clear W;refine(Yb _ x.mp x.mn x.mc (g.o.mult.grow G.o)).mono ?_;rintro _ w2 ⟨r2,rfl,f,q⟩;obtain⟨GS,G⟩:=Z2 G.o (G.o.trans f);rcases q.cases with⟨rfl,N⟩|rfl;rotate_left
   ·clear q f;go_wp2_with fail;go_ret;exact⟨_,rfl,G.o,Says.no⟩
   have m:=Z (And.intro N f);have D:=A.o 7 _ rfl _ G.o;have c5:=A.o 5 _ rfl _ G.o;have a2:x.vn≤35184372088832:=by obtain⟨T,_,_,h,_⟩:=g.o.vars;exact h
   clear q f N;obtain⟨kd,mp,mn,mc,a4,a3,X,I,F,E,row,vp,z,a5⟩:=x;dsimp only at c5 D a2;by_cases a6:(z:Int)≤10;rotate_left
   ·go_wp2_with fail;go_ret;exact⟨_,rfl,G.o,Says.no⟩
   go_wp2_with fail;clear c5 D;refine(Yb _ I F E (g.o.cmul.grow G.o)).mono ?_;rintro _ w3 ⟨r3,rfl,g3,s⟩;obtain⟨G2,G⟩:=Z2 G.o (G.o.trans g3);rcases s.cases with⟨rfl,O⟩|rfl;rotate_left
   ·clear s g3;go_wp2_with fail;go_ret;exact⟨_,rfl,G.o,Says.no⟩
   obtain⟨S,R⟩:=Z2 (show Nd w3 ⟨kd,mp,mn,mc,a4,a3,X,I,F,E,row,vp,z,a5⟩ from⟨(m.o.1.grow m.o.2).grow g3,O.grow g3,by show z≤10;omega⟩) (m.o.2.trans g3);clear s g3 O;go_wp2_with fail;refine⟨⟨k+1,_,rfl,by omega,by go_num,fun j y u d=>?_,G.o⟩,by simp[RowKit.intOf];omega⟩;by_cases a0:j < k
   ·exact(C.o j y a0 d).grow R.o
   ·obtain rfl:j=k:=by omega
    rw[V.o] at d
    cases d
    exact S.o
  ·have Q:=Z (show ∀ y ∈ l,Nd a y from fun y d=>by
    obtain⟨j,u,rfl⟩:=List.getElem_of_mem d;exact C.o j _ (by have:=B.o.1;omega) (List.getElem?_eq_getElem u))
   by_cases h0:(n:Int)≤24
   ·have P:=Z (show n≤24 by omega);go_wp2_with fail;go_ret;exact⟨_,rfl,G.o,Says.yes ⟨P.o,Q.o⟩⟩
   ·go_wp2_with fail;go_ret;exact⟨_,rfl,G.o,Says.no⟩
theorem J3r (w:World)(a b:Option Addr)(c d l f:Nat)(V:List VarM)(T:List RowM)(Y:K8 w (.slice a l c) V)(J:SlL w 5 encRow (.slice b f d) T)(X:V.length=l)(G:T.length=f)(m:∀ y ∈ T,RowR w y)(hb:l≤35184372088832)(a2:f≤35184372088832)(F:∀ y ∈ T,y.name.length≤9223372036854775807):
  Calls Tryz.prog 21 #[.agg #[.slice a l c,.slice b f d],.int .i64 6,.int .i64 8] w (Ret w fun r _=>Says (l≤6∧f≤8∧∀ y ∈ T,y.terms.length≤12∧y.name.length≤100) r):=by
 have B:=Ja.new w #[.slice a l c,.slice b f d] 25;obtain⟨h,H,A,Q,N⟩:=Z5 B (SlL.grow J B.1) G m F;clear Y J X G m F B;go_enter Tryz.func21,Tryz.ntmps21;go_wp2_with fail;generalize w.heap.size=bp at h ⊢;generalize w.alloc _=W at h H ⊢;go_loopw [7] (fun i w1=>∃ k:Nat,k≤f∧i = .int .i64 k∧(∀ j y,j < k→T[j]?=some y→y.terms.length≤12∧y.name.length≤100)∧w1=W) (fun i _=>f - (RowKit.intOf i).toNat)
 case atStart=>exact⟨0,Nat.zero_le _,rfl,fun j y s=>by omega,rfl⟩
 case round=>
  obtain⟨k,hk,rfl,I,rfl⟩:=hrel;have C:=Z I;clear I;have p0:=h.o.2.at 0 rfl;have p1:=h.o.2.at 1 rfl;by_cases U:k < f
  ·obtain⟨g,o,x,rfl,m,q⟩:=SlL.at Lk H.o A.o U;have R:=Z m;have c0:=q 0 _ rfl _ (Gr.refl _);have c3:=q 3 _ rfl _ (Gr.refl _);rw[Nat.add_zero] at c0;have E:=(Q.o x (List.mem_of_getElem? m)).2.2;have D:=N.o x (List.mem_of_getElem? m);obtain⟨u,xg,xk,tp,tc,L,xb⟩:=x;dsimp only at c0 c3 E D;obtain⟨nt,t⟩:∃ z,L.length=z:=⟨_,rfl⟩
   obtain⟨K,p⟩:∃ z,u.length=z:=⟨_,rfl⟩
   rw[t] at c3 E;have P:=Z t;clear m q t;have a3:u.toArray.size=K:=by simpa using p
   rw[p] at D;have O:=Z p;clear p;by_cases a0:(nt:Int)≤12
   ·by_cases a1:(K:Int)≤100
    ·go_wp2_with fail;refine⟨⟨k+1,by omega,by go_num,fun j y s n=>?_,by trivial⟩,by simp[RowKit.intOf];omega⟩;by_cases S:j < k
     ·exact C.o j y S n
     ·obtain rfl:j=k:=by omega
      rw[R.o] at n
      cases n
      exact⟨by show L.length≤12;rw[P.o];omega,by show u.length≤100;rw[O.o];omega⟩
    ·go_wp2_with fail;go_ret;exact⟨_,rfl,h.o.1,Says.no⟩
   ·go_wp2_with fail;go_ret;exact⟨_,rfl,h.o.1,Says.no⟩
  ·have M:=Z (show ∀ y ∈ T,y.terms.length≤12∧y.name.length≤100 from fun y n=>by
    obtain⟨j,s,rfl⟩:=List.getElem_of_mem n;exact C.o j _ (by have:=A.o;omega) (List.getElem?_eq_getElem s))
   by_cases h0:(l:Int)≤6
   ·by_cases h1:(f:Int)≤8
    ·have v:=Z (show l≤6∧f≤8 by omega);go_wp2_with fail;go_ret;exact⟨_,rfl,h.o.1,Says.yes ⟨v.o.1,v.o.2,M.o⟩⟩
    ·go_wp2_with fail;go_ret;exact⟨_,rfl,h.o.1,Says.no⟩
   ·go_wp2_with fail;go_ret;exact⟨_,rfl,h.o.1,Says.no⟩
theorem J1b {w:World}{p:Option Addr}{n c:Nat}(h:Nu w p n c):∃ xs:List Rat,xs.length=n∧n≤16∧L1 w (.slice p n c) xs 4∧∀ x ∈ xs,Sz 4 x:=by
 obtain⟨B,T,C,k,m,o⟩:=h;have j:∀ y ∈ T,∃ q,RatV w y.v q 4:=fun y u=>by
  obtain⟨l,d,I,J,v,A,-,-⟩:=m y u;have f:=o y u;exact⟨ratv y.n l d,y.n,l,d,RatL.mk I J,rfl,by rw[← v];exact f.1,by rw[← A];exact f.2⟩
 have D:∃ xs:List Rat,xs.length=T.length∧∀ (i:Nat) (t:RatM) (x:Rat),T[i]?=some t→xs[i]?=some x→RatV w t.v x 4:=by
  clear C k m o
  induction T with
  | nil=>exact⟨[],rfl,fun i t x a=>by simp at a⟩
  | cons y T ih=>
   obtain⟨xs,e,b⟩:=ih (fun z H=>j z (List.mem_cons_of_mem _ H));obtain⟨q,E⟩:=j y (List.mem_cons_self ..);refine⟨q :: xs,by simp[e],fun i t x a g=>?_⟩
   cases i with
   | zero=>simp at a g;subst a g;exact E
   | succ i=>exact b i t x (by simpa using a) (by simpa using g)
 obtain⟨xs,e,b⟩:=D;refine⟨xs,by omega,B,⟨T,k,e.symm,fun i t a=>?_⟩,fun x G=>?_⟩
 ·have r:=(List.getElem?_eq_some_iff.1 a).1;have s:xs[i]?=some xs[i]:=List.getElem?_eq_getElem (by omega);have:=b i t _ a s;unfold atQ;rw[s];exact this
 ·obtain⟨i,r,rfl⟩:=List.getElem_of_mem G;have F:T[i]?=some T[i]:=List.getElem?_eq_getElem (by omega);exact(b i _ _ F (List.getElem?_eq_getElem r)).sz (by decide)
theorem J68 {w b:World}{x:Jr}(h:Ns w x)(g:Gr w b)(a:Nd b x):∃ s:Jk,Kl b x s 4∧Kx s∧s.kind=x.kind:=by
 obtain⟨m,d,o,j,n⟩:=J1b a.1;obtain⟨c,f,p,k,z2⟩:=J1b a.2.1;obtain⟨V,i,l,q,z3⟩:=h.vars;refine⟨⟨x.kind,m,x.var,x.pos,⟨x.ck,c,x.row,V⟩⟩,⟨rfl,rfl,rfl,j,d.symm,⟨x.cp,x.cn,x.cc,x.vp,x.vn,x.vc,rfl,k,SlL.grow l g,f.symm,i.symm⟩⟩,⟨by show m.length≤16;omega,n,by show c.length≤16;omega,z2,by show V.length≤1000;have:=a.2.2;omega⟩,rfl⟩
theorem J69 {w W:World}{p:Option Addr}{n c:Nat}{l:List Jr}(h:SlL w 8 encNode (.slice p n c) l)(q:l.length=n)(k:∀ x ∈ l,Ns w x)(g:Gr w W)(m:∀ x ∈ l,Nd W x):
  ∃ N:List Jk,N.length=n∧J1 W (.slice p n c) N 4∧∀ s ∈ N,Kx s:=by
 have o:∃ N:List Jk,N.length=l.length∧(∀ (i:Nat) (t:Jr) (s:Jk),l[i]?=some t→N[i]?=some s→Kl W t s 4)∧∀ s ∈ N,Kx s:=by
  clear h q
  induction l with
  | nil=>exact⟨[],rfl,fun i t x b=>by simp at b,by simp⟩
  | cons y l ih=>
   obtain⟨N,e,f,d⟩:=ih (fun z a=>k z (List.mem_cons_of_mem _ a)) (fun z a=>m z (List.mem_cons_of_mem _ a));obtain⟨s,r,u,-⟩:=J68 (k y (List.mem_cons_self ..)) g (m y (List.mem_cons_self ..));refine⟨s :: N,by simp[e],fun i t x b j=>?_,fun z a=>?_⟩
   ·cases i with
    | zero=>simp at b j;subst b j;exact r
    | succ i=>exact f i t x (by simpa using b) (by simpa using j)
   ·rcases List.mem_cons.1 a with rfl|a
    ·exact u
    ·exact d z a
 obtain⟨N,e,f,d⟩:=o;exact⟨N,by omega,⟨l,SlL.grow h g,e.symm,f⟩,d⟩
structure J1V (w:World)(v:Value)(p:Prg)(nv:Value)(N:List Jk):Prop where
 prg:Js w v p
 nodes:J1 w nv N 4
 few:∀ s ∈ N,Kx s
 i:PrgI p
 nl:∀ r ∈ p.rows,r.name.length≤1000000
 n:p.vars.length≤6
 m:p.rows.length≤8
 k:N.length≤24
theorem J3t (w:World)(a b q:Option Addr)(c d j g i t:Nat)(V:List VarM)(T:List RowM)(l:List Jr)(R:K8 w (.slice a j c) V)(n:SlL w 5 encRow (.slice b g d) T)(K:SlL w 8 encNode (.slice q i t) l)(Q:V.length=j)(P:T.length=g)(M:l.length=i)
  (S:∀ y ∈ V,VarI y) (f:∀ y ∈ T,RowR w y) (L:∀ x ∈ l,Ns w x) (hb:j≤35184372088832) (a0:g≤35184372088832) (a1:i≤35184372088832) (O:∀ y ∈ T,y.name.length≤9223372036854775807):
  Calls Tryz.prog 8 #[.agg #[.slice a j c,.slice b g d],.slice q i t] w (Ret w fun r w'=>Says (∃ N,N.length=i∧J1V w' (.agg #[.slice a j c,.slice b g d]) ⟨V,T.map RowM.s⟩ (.slice q i t) N) r):=by
 obtain⟨I,H,E,m,X,v,F,U⟩:=Z8 R n K (And.intro Q (And.intro P M)) S f L O;have B:=Ja.new w #[.slice a j c,.slice b g d] 25;have k:=Z B;clear R n K Q P M S f L O B;go_enter Tryz.func8,Tryz.ntmps8;go_wp2_with fail;generalize w.heap.size=bp at k ⊢;generalize w.alloc _=W at k ⊢;refine(J3r W a b c d j g V T (SlL.grow I.o k.o.1) (SlL.grow H.o k.o.1) m.o.1 m.o.2.1 (fun y hy=>by obtain⟨p,s,k3⟩:=v.o y hy;exact⟨SlL.grow p k.o.1,s,k3⟩) hb a0 U.o).mono ?_;rintro _ w1 ⟨r1,rfl,g1,A⟩;have G:=Z (k.o.1.trans g1);rcases A.cases with⟨rfl,p⟩|rfl;rotate_left
 ·clear A g1;go_wp2_with fail;go_ret;exact⟨_,rfl,G.o,Says.no⟩
 have u:=Z p;clear A g1 p;go_wp2_with fail;refine(J3s w1 q i t l (SlL.grow E.o G.o) m.o.2.2 a1 (fun x f=>by
  have h:=F.o x f;refine⟨h.mult.grow G.o,h.cmul.grow G.o,?_,h.kind,h.var,h.pos,h.ck,h.row⟩;obtain⟨V,o,r3,Y,z3⟩:=h.vars;exact⟨V,o,SlL.grow r3 G.o,Y,z3⟩)).mono ?_
 rintro _ w2 ⟨r2,rfl,z,C⟩;have G:=Z (G.o.trans z);rcases C.cases with⟨rfl,s⟩|rfl;rotate_left
 ·clear C z;go_wp2_with fail;go_ret;exact⟨_,rfl,G.o,Says.no⟩
 have D:=Z s;clear C z s;go_wp2_with fail;go_ret;refine⟨_,rfl,G.o,Says.yes ?_⟩;obtain⟨N,hN,a2,a3⟩:=J69 E.o m.o.2.2 F.o G.o D.o.2;have J:=m.o.1;have e2:=m.o.2.1;have o:(T.map RowM.s).length=g:=by rw[List.length_map];exact e2
 refine⟨N,hN,⟨⟨a,c,b,d,?_,?_,?_⟩,a2,a3,⟨X.o,fun r n=>?_⟩,fun r n=>?_,?_,?_,?_⟩⟩
 ·unfold prgV;simp only[J,o]
 ·show K8 _ (.slice a V.length c) V;rw[J];exact SlL.grow I.o G.o
 ·show M0 _ (.slice b (T.map RowM.s).length d) (T.map RowM.s);rw[o];exact⟨T,SlL.grow H.o G.o,rfl,fun x f=>SlL.grow (v.o x f).1 G.o⟩
 ·obtain⟨x,f,rfl⟩:=List.mem_map.1 n;exact(v.o x f).2.1
 ·obtain⟨x,f,rfl⟩:=List.mem_map.1 n;have:=(u.o.2.2 x f).2;show x.name.length≤1000000;omega
 ·show V.length≤6;have:=u.o.1;omega
 ·show(T.map RowM.s).length≤8;rw[o];exact u.o.2.1
 ·have:=D.o.1;omega
end Prf
end Go.Proofs.YtcjgimlcefhhmaaGreatDoor

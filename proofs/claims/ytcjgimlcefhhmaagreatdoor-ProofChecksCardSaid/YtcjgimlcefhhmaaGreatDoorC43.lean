/- Texts: RsB. -/
import Derived.Test.YtcjgimlcefhhmaaGreatDoorC30
import Derived.Test.YtcjgimlcefhhmaaGreatDoorC31
import Derived.Test.YtcjgimlcefhhmaaGreatDoorC42
set_option linter.unusedVariables false
set_option linter.unusedSimpArgs false
set_option maxRecDepth 100000
set_option maxHeartbeats 12800000
namespace Go.Proofs.YtcjgimlcefhhmaaGreatDoor
namespace Prf
open Go.RowKit Go.Lib
theorem J5N (w:World)(v:Value)(p:Prg)(N:List Jk)(j:Option Addr)(d f:Nat)(u:d=N.length)(x:Js w v p)(t:J1 w (.slice j d f) N 4)(a:PvP p N.length)(o:∀ n ∈ N,Kx n):
  Calls Tryz.prog 26 #[v,.slice j d f] w (Ret w fun r _=>Jb (Jm p N []) r):=by
 obtain⟨l,k,y,z⟩:=Z4 x (And.intro t u) o a;obtain⟨E,I,F,J,rfl,D,C⟩:=x;unfold prgV at l ⊢;have B:=Ja.new w #[.slice E p.vars.length I,.slice F p.rows.length J] 25;have b:=Z B;clear D C t o u a B;go_enter Tryz.func26,Tryz.ntmps26;go_wp2_with fail;generalize w.heap.size=K at b ⊢;generalize w.alloc _=W at b ⊢;refine(J5O (N.length+1) W _ p N j f d (Nat.lt_succ_self _) k.o.2 (l.o.grow b.o.1) (k.o.1.grow b.o.1) z.o y.o).mono ?_;rintro _ P ⟨O,rfl,g1,A⟩;have G:=Z (b.o.1.trans g1);rcases A with⟨S,q,m,c,a,rfl,g,-⟩|⟨s,q,m,c,rfl⟩
 ·by_cases i:m=0
  ·have H:=Z (show Jm p N [] from by
    have e:S=[]:=List.length_eq_zero_iff.1 (by omega);rw[← e];exact a)
   subst i;clear a g g1;go_wp2_with fail;go_ret;exact⟨_,rfl,G.o,Jb.yes H.o⟩
  ·have H:=Z (show ¬ Jm p N [] from fun h=>by
    have e:=Pm a h;subst e;exact i g)
   have L:((m:Int) == 0)=false:=by simpa using i
   have M:¬ (m:Int)=0:=by omega
   clear a g g1;go_wp2_with fail;go_ret;exact⟨_,rfl,G.o,Jb.no (by first|exact H.o|simp)⟩
 ·have H:=Z (show ¬ Jm p N [] from s []);clear s g1;go_wp2_with fail;go_ret;exact⟨_,rfl,G.o,Jb.no H.o⟩
theorem J5Q (w:World)(v:Value)(p:Prg)(N:List Jk)(o:Option Addr)(g j:Nat)(C:g=N.length)(D:Js w v p)(A:J1 w (.slice o g j) N 4)(u:PrgI p)(x:∀ r ∈ p.rows,r.name.length≤1000000)(z:p.vars.length≤10)(y:p.rows.length+N.length≤40)(t:∀ n ∈ N,Kx n):
  Calls Tryz.prog 10 #[v,.slice o g j] w (Ret w fun r _=>ChkP p N r):=by
 obtain⟨i,q,F,I,f,E⟩:=Z6 D (And.intro A C) u x (And.intro z y) t;obtain⟨O,Q,P,R,rfl,K,J⟩:=D;unfold prgV at i ⊢;have B:=Ja.new w #[.slice O p.vars.length Q,.slice P p.rows.length R] 25;have b:=Z B;clear K J A u x z y t C B;go_enter Tryz.func10,Tryz.ntmps10;go_wp2_with fail;generalize w.heap.size=T at b ⊢;generalize w.alloc _=W at b ⊢;refine(J5M W _ p (i.o.grow b.o.1) F.o I.o (by have:=f.o;omega) (by have:=f.o;omega)).mono ?_;rintro _ S ⟨U,rfl,g1,l⟩;obtain⟨G,s⟩:=Z2 (b.o.1.trans g1) (b.o.2.grow g1);rcases l.cases with⟨rfl,a⟩|⟨rfl,a⟩;rotate_left
 ·have H:=Z (show ¬ (Jo p∧Whole p) from fun h=>a ⟨h.2,h.1⟩);clear l a g1;go_wp2_with fail;go_ret;exact⟨_,rfl,G.o,.inl ⟨H.o,rfl⟩⟩
 have d:=Z (And.intro a.2 a.1);have L:=s.o.at 0 rfl;have M:=s.o.at 1 rfl;clear l a g1;go_wp2_with fail;clear L M;refine(J5N S _ p N o g j q.o.2 (i.o.grow G.o) (q.o.1.grow G.o) ⟨d.o.1,d.o.2,f.o.1,f.o.2⟩ E.o).mono ?_;rintro _ X ⟨V,rfl,k,m⟩;have G:=Z (G.o.trans k);rcases m.cases with⟨rfl,c⟩|⟨rfl,c⟩
 ·have H:=Z c;clear m c k;go_wp2_with fail;go_ret;exact⟨_,rfl,G.o,.inr (.inl ⟨d.o,H.o,rfl⟩)⟩
 ·have H:=Z c;clear m c k;go_wp2_with fail;go_ret;exact⟨_,rfl,G.o,.inr (.inr ⟨d.o,H.o,rfl⟩)⟩
theorem J41 (w:World)(a b q:Option Addr)(c d p o k v:Nat)(V:List VarM)(T:List RowM)(l:List Jr)(hv:K8 w (.slice a p c) V)(hr:SlL w 5 encRow (.slice b o d) T)(P:SlL w 8 encNode (.slice q k v) l)(Y:V.length=p)(X:T.length=o)(S:l.length=k)
  (a1:∀ y ∈ V,VarI y) (B:∀ y ∈ T,RowR w y) (Q:∀ x ∈ l,Ns w x) (hb:p≤35184372088832) (a3:o≤35184372088832) (a4:k≤35184372088832) (U:∀ y ∈ T,y.name.length≤9223372036854775807)
  (mz:Int) (R:w.cell? ⟨2,0,none⟩=some (.int .i64 mz)) (a0:Tab w):
  Calls Tryz.prog 3 #[.agg #[.slice a p c,.slice b o d],.slice q k v] w (Ret w fun r w'=>r = .bool true):=by
 have I:=Z (fun(W:World) (g:Gr w W)=>J3W W mz (g.cell R) (a0.grow g));clear R a0;have s:=Z (Ja.new w #[.slice a p c,.slice b o d] 25);have a2:=Z (fun(W:World) (g:Gr w W)=>J3t W a b q c d p o k v V T l (SlL.grow hv g) (SlL.grow hr g) (SlL.grow P g) Y X S a1 (fun y hy=>by obtain⟨n,u,k3⟩:=B y hy;exact⟨SlL.grow n g,u,k3⟩) (fun x B=>by
  have h:=Q x B;refine⟨h.mult.grow g,h.cmul.grow g,?_,h.kind,h.var,h.pos,h.ck,h.row⟩;obtain⟨V,e3,r3,b3,z3⟩:=h.vars;exact⟨V,e3,SlL.grow r3 g,b3,z3⟩) hb a3 a4 U)
 clear hv hr P Y X S a1 B Q U;go_enter Tryz.func3,Tryz.ntmps3;go_wp2_with fail;generalize w.heap.size=bp at s ⊢;generalize w.alloc _=W at s ⊢;have G:=Z s.o.1;refine(I.o W G.o).mono ?_;rintro _ w1 ⟨_,rfl,g1,rfl⟩;obtain⟨m,G⟩:=Z2 (s.o.2.grow g1) (G.o.trans g1);have F:=m.o.at 0 rfl;have H:=m.o.at 1 rfl;clear g1 s;go_wp2_with fail;clear F H;refine(a2.o w1 G.o).mono ?_;rintro _ z ⟨r2,rfl,A,D⟩;obtain⟨G,m⟩:=Z2 (G.o.trans A) (m.o.grow A);rcases D.cases with⟨rfl,N,O,hs⟩|rfl;rotate_left
 ·clear D A;go_wp2_with fail;refine(I.o _ G.o).mono ?_;rintro _ wz ⟨_,rfl,L,rfl⟩;have G:=Z (G.o.trans L);clear L;go_wp2_with fail;go_ret;exact⟨_,rfl,G.o,rfl⟩
 obtain⟨J,f⟩:=Z2 O hs;clear D A O hs;have F:=fun w' (g:Gr z w')=>(m.o.grow g).at 0 rfl;have H:=fun w' (g:Gr z w')=>(m.o.grow g).at 1 rfl;go_wp2_with fail;have i:Gr z z.drew:=(Gr.refl _).drew;refine Jl [(0,true),(1,true),(3,true),(4,true),(2,false),(5,false),(6,true),(7,true)] ?_;generalize z.drew=Wd at i ⊢;repeat(refine Jc i (h:=?_))
 refine L7 (args:=?_) rfl rfl rfl rfl rfl rfl (by kernel_rfl) (by kernel_rfl) ?_ (fun K t=>?_);rotate_left
 ·go_simp;rfl
 refine(Vh Wd _ ⟨V,T.map RowM.s⟩ N q k v J.o.symm (f.o.prg.grow i) (f.o.nodes.grow i) f.o.i f.o.nl (Nat.le_trans f.o.n (by decide)) (by have:=f.o.m;have:=f.o.k;omega) f.o.few).mono ?_;rintro _ w4 ⟨r4,rfl,g4,E⟩;have H4:=Z E;obtain⟨e4,rfl⟩:∃ e:Int,r4 = .int .i64 e:=by rcases E with⟨-,rfl⟩|⟨-,-,rfl⟩|⟨-,-,rfl⟩<;>exact⟨_,rfl⟩
 refine⟨_,rfl,g4,?_⟩;go_simp;refine t _ _ ?_;clear t K;replace i:=i.trans g4;clear g4 E;refine L7 (args:=?_) rfl rfl rfl rfl rfl rfl (by kernel_rfl) (by kernel_rfl) ?_ (fun K t=>?_);rotate_left
 ·go_simp;rfl
 refine(J5Q w4 _ ⟨V,T.map RowM.s⟩ N q k v J.o.symm (f.o.prg.grow i) (f.o.nodes.grow i) f.o.i f.o.nl (Nat.le_trans f.o.n (by decide)) (by have:=f.o.m;have:=f.o.k;omega) f.o.few).mono ?_;rintro _ w5 ⟨r5,rfl,C,M⟩;obtain rfl:r5 = .int .i64 e4:=by
  rcases M with⟨n,rfl⟩|⟨n,u,rfl⟩|⟨n,u,rfl⟩<;>rcases H4.o with⟨j1,j⟩|⟨j1,j2,j⟩|⟨j1,j2,j⟩<;>first|exact j.symm|exact absurd j1 n|exact absurd n j1|exact absurd j2 u|exact absurd u j2
 refine⟨_,rfl,C,?_⟩;go_simp;refine t _ _ ?_;clear t K;replace i:=i.trans C;clear C M;repeat(first|(refine Jw (h:=?_))|(refine Jc i (h:=?_)))
 refine Jg ?_;have G:=Z (G.o.trans i);clear F H i;go_wp2_with fail;go_ret;exact⟨_,rfl,G.o,by first|rfl|simp⟩
end Prf
end Go.Proofs.YtcjgimlcefhhmaaGreatDoor

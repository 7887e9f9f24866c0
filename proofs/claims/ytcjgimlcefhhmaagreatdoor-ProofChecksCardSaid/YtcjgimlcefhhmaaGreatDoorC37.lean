/- Texts: PxC PxD PxE PxF PxG. -/
import Derived.Test.YtcjgimlcefhhmaaGreatDoorC35
import Derived.Test.YtcjgimlcefhhmaaGreatDoorC36
set_option linter.unusedVariables false
set_option linter.unusedSimpArgs false
set_option maxRecDepth 100000
set_option maxHeartbeats 12800000
namespace Go.Proofs.YtcjgimlcefhhmaaGreatDoor
namespace Prf
open Go.RowKit Go.Lib
def OneW (s:List UInt8)(z:Int):Prop:=s=[49]∧z=1∨s=[45,49]∧z = -1
theorem J53 (w:World)(s:List UInt8)(z:Int)(h:OneW s z)(m:Int)(i:w.cell? ⟨2,0,none⟩=some (.int .i64 m)):
  Calls Tryz.prog 116 #[.string ⟨s.toArray⟩] w (Ret w fun r w'=>∃ u:RatM,r = .tuple #[u.v,.int .i64 0]∧RatC w' u.v (z:Rat)):=by
 rcases h with⟨rfl,rfl⟩|⟨rfl,rfl⟩
 ·refine(J0w w [49] [49] [] false false [49] (.inr ⟨rfl,rfl,rfl,by decide⟩) (.inr ⟨rfl,rfl,by decide⟩) (by decide) m i).mono ?_;rintro _ j ⟨r,rfl,g,a⟩;have c:okQ (valI false [49]) (okI false [49]) [] false=true:=by decide +kernel
  unfold Lz at a;rw[if_pos c] at a;obtain⟨v,rfl,b⟩:=a;have d:valQ (valI false [49]) [] false=((1:Int):Rat):=by decide +kernel
  rw[d] at b;obtain⟨u,rfl,f⟩:=N5 b;exact⟨_,rfl,g,u,rfl,f⟩
 ·refine(J0w w [45,49] [45,49] [] false true [49] (.inr ⟨rfl,rfl,rfl,by decide⟩) (.inl ⟨rfl,rfl⟩) (by decide) m i).mono ?_;rintro _ j ⟨r,rfl,g,a⟩;have c:okQ (valI true [49]) (okI true [49]) [] false=true:=by decide +kernel
  unfold Lz at a;rw[if_pos c] at a;obtain⟨v,rfl,b⟩:=a;have d:valQ (valI true [49]) [] false=((-1:Int):Rat):=by decide +kernel
  rw[d] at b;obtain⟨u,rfl,f⟩:=N5 b;exact⟨_,rfl,g,u,rfl,f⟩
def OffA (p:Option Addr)(r:Nat):Prop:=∀ a,p=some a→a.block≠r
theorem SlL.updA {α:Type}{enc:α→List Value}{sz:Nat}{w w':World}{p:Option Addr}{n c r:Nat}{l:List α}(h:SlL w sz enc (.slice p n c) l)(s:Upd r w w')(q:OffA p r):SlL w' sz enc (.slice p n c) l:=by
 obtain⟨f,p',c',t,g,i,a⟩:=h
 cases t
 refine⟨f,p,c,rfl,g,i,?_⟩;rcases a with a|⟨b,o,d,k⟩
 ·exact .inl a
 ·refine .inr ⟨b,o,d,fun j u m=>?_⟩;have:=k j u m;unfold World.cell? at this ⊢;rw[show(⟨b,o+j,none⟩:Addr).block=b from rfl] at this ⊢;rw[s b (q _ d)];exact this
theorem J31:∀ x,∀ u ∈ encRat x,u.oneCell'=true:=fun x u a=>by
 simp[encRat] at a;rcases a with rfl|rfl|rfl<;>rfl
theorem J00 {w:World}{b:Nat}{a:Option Addr}{n c:Nat}{t:Bool}(h:Ja w b #[.slice a n c,.bool t]):Kp w b:=by
 obtain⟨ty,h⟩:=h;refine⟨_,ty,h,fun i k z d=>?_⟩
 match i with
 | 0=>simp at d
 | 1=>simp at d
 | i+2=>simp at d
def Vs (w W:World)(br:Nat)(wv:Value)(z:Int)(k:Nat)(v:Value):Prop:=
 w.grownBy W (some br)∧Ja W br #[wv,.bool false]∧((k=0∧v = .slice none 0 0∧Gr w W)∨(k=1∧∃ p c u,v = .slice p 1 c∧(∀ a,p=some a→w.heap.size≤a.block)∧SlL W 3 encRat (.slice p 1 c) [u]∧RatC W u.v (z:Rat)))
theorem J5x (w:World)(b f o c:Nat)(s:List UInt8)(z:Int)(hz:OneW s z)(m:Int)(hm:w.cell? ⟨2,0,none⟩=some (.int .i64 m))(S:Ja w b #[.slice (some ⟨f,o,none⟩) 1 c,.bool false])(H:w.cell? ⟨f,o,none⟩=some (.string ⟨s.toArray⟩)):
  Calls Tryz.prog 63 #[.pointer (some ⟨b,0,none⟩)] w (fun e w'=>∃ p c' u,e = .returned (.slice p 1 c')∧(∀ a,p=some a→w.heap.size≤a.block)∧w.grownBy w' (some b)∧Ja w' b #[.slice none 0 0,.bool false]∧SlL w' 3 encRat (.slice p 1 c') [u]∧RatC w' u.v (z:Rat)):=by
 obtain⟨A,HM,HZ,HS⟩:=Z4 S hm hz H;have r0:w.cell? ⟨b,0,none⟩=some (.slice (some ⟨f,o,none⟩) 1 c):=S.at 0 rfl;clear S hm hz H;go_enter Tryz.func63,Tryz.ntmps63;go_wp2_with fail;clear r0;go_loopw [3,13] (fun v i w9=>∃ (k:Nat) (d:World),d=w9∧i = .int .i64 (k:Int)∧k≤1∧Vs w d b (.slice (some ⟨f,o,none⟩) 1 c) z k v) (fun _ i _=>1 - (RowKit.intOf i).toNat)
 case atStart=>exact⟨0,_,rfl,rfl,by omega,Yf w b,A.o,.inl ⟨rfl,rfl,Gr.refl w⟩⟩
 case round=>
  obtain⟨k,d,rfl,rfl,hk,F,g,h⟩:=hrel;rcases h with⟨rfl,rfl,P⟩|⟨rfl,p,c',u,rfl,R,C,D⟩
  ·have H:=P.cell HS.o;have W:=Z P;clear F g P;go_wp2_with fail;clear H;refine(J53 d s z HZ.o m (W.o.cell HM.o)).mono ?_;rintro _ V ⟨r2,rfl,g2,u,rfl,r⟩;obtain⟨HU,L⟩:=Z2 r (W.o.trans g2);clear g2 r;have j:=Ja.new V #[.bool u.n,.slice u.p u.k u.c,.slice u.q u.m u.e] 68;obtain⟨l,a0⟩:∃ z,V.alloc (.cells #[.bool u.n,.slice u.p u.k u.c,.slice u.q u.m u.e] 68)=z:=⟨_,rfl⟩
   rw[a0] at j;have x:=A.o.grow (L.o.trans j.1);have r1:l.cell? ⟨b,1,none⟩=some (.bool false):=x.at 1 rfl;have f1:=Ja.f x 1;obtain⟨n,E⟩:∃ z,l.setCell ⟨b,1,none⟩ (.bool false)=z:=⟨_,rfl⟩
   have T:Upd b l n:=by rw[← E];exact J5 l b 1 _
   have a3:=Z (show Ja n b #[.slice (some ⟨f,o,none⟩) 1 c,.bool false] from by
    have:=x.set 1 (.bool false);rw[E] at this;simpa using this)
   have a5:b < V.heap.size:=(A.o.grow L.o).lt;obtain⟨J,a4,a1⟩:=Z3 (j.2.upd T (by omega)) ((HU.o.grow j.1).upd (J00 x) T) (show _ from Kc (J8 b (L.o.trans j.1)) (E ▸ Jp.set b l 1 (.bool false):l.grownBy n (some b)));have d0:=J.o.at 0 rfl;have d1:=J.o.at 1 rfl;have d2:=J.o.at 2 rfl;clear x T j a5;unfold RatM.v;go_wp2_with (at_builtin;refine Hold.hold ?_);clear d0 d1 d2 r1 f1 a0 E;have t:=SlL.new (enc:=encRat) (sz:=3) n 68 L9 [u] #[.bool u.n,.slice u.p u.k u.c,.slice u.q u.m u.e] 1 rfl rfl (by decide);obtain⟨X,Y,N,M⟩:=Z4 (a3.o.grow t.1) (a4.o.grow t.1) (Kc a1.o (J8 b t.1)) t.2;clear t;generalize n.heap.size=bs at M ⊢;generalize n.alloc _=y at X Y N M ⊢;refine Hold.go ?_;refine wpList_plain rfl (fun K hK=>?_);refine Py _ _ 33 68 _ 56 rfl Tryz.underlying33 Yr rfl (by decide) L9 J31 y.heap.size (.slice none 0 0) _ [] [u] rfl (OwnL.nil y _ _) rfl M.o (by simp) (by simp) (Nat.le_refl _) (by simp) ?_;intro v6 W6 G q _;have q:=OwnL.gr (OwnL.nil (enc:=encRat) (sz:=3) y y.heap.size 68) (Gr.refl y) q;obtain⟨U,O,I,-,-⟩:=G.read.parts;have HF:=Z (show Vs w W6 b (.slice (some ⟨f,o,none⟩) 1 c) z 1 (.slice U 1 O) from⟨Kc N.o (J8 b q),X.o.grow q,.inr ⟨rfl,U,O,u,rfl,fun a Q=>by
    subst Q;have C:=(World.ownsRow.lt G a.block (by rw[I];rfl)).1;have D:=World.grownBy.size N.o;omega,by have:=G.read;rw[I] at this;exact this,Y.o.grow q⟩⟩)
   have a6:v6 = .slice U 1 O:=I;subst a6;clear G q I;refine hK _ _ ?_;clear hK K;go_wp2_with fail;exact⟨⟨1,_,rfl,rfl,by omega,HF.o⟩,by simp[RowKit.intOf]⟩
  ·obtain⟨HG,HC,H1,H2,a2⟩:=Z5 F g C D R;have f0:=Ja.f g 0;have q0:d.cell? ⟨b,0,none⟩=some (.slice (some ⟨f,o,none⟩) 1 c):=g.at 0 rfl;have r:=J5 d b 0 (.slice none 0 0);have B:=Z (show w.grownBy (d.setCell ⟨b,0,none⟩ (.slice none 0 0)) (some b)∧Ja (d.setCell ⟨b,0,none⟩ (.slice none 0 0)) b #[.slice none 0 0,.bool false]∧SlL (d.setCell ⟨b,0,none⟩ (.slice none 0 0)) 3 encRat (.slice p 1 c') [u]∧RatC (d.setCell ⟨b,0,none⟩ (.slice none 0 0)) u.v (z:Rat) from
    ⟨Kc F (Jp.set b d 0 _),by simpa using g.set 0 (.slice none 0 0),SlL.updA C r (fun a Q e=>by have:=R a Q;have:=A.o.lt;omega),D.upd (J00 g) r⟩)
   clear F g C D R r;go_wp2_with fail;go_ret;exact⟨p,c',u,rfl,a2.o,B.o.1,B.o.2.1,B.o.2.2.1,B.o.2.2.2⟩
def set8 (w:World)(b:Nat)(u0 u1 u2 u3 u4 u5 u6 u7:Value):World:=(((((((w.setCell ⟨b,0,none⟩ u0).setCell ⟨b,1,none⟩ u1).setCell ⟨b,2,none⟩ u2).setCell ⟨b,3,none⟩ u3).setCell ⟨b,4,none⟩ u4).setCell ⟨b,5,none⟩ u5).setCell ⟨b,6,none⟩ u6).setCell ⟨b,7,none⟩ u7
theorem fill8 {w:World}{b:Nat}{c d f g j k l m:Value}(u0 u1 u2 u3 u4 u5 u6 u7:Value)(h:Ja w b #[c,d,f,g,j,k,l,m]):
  w.grownBy (set8 w b u0 u1 u2 u3 u4 u5 u6 u7) (some b)∧Ja (set8 w b u0 u1 u2 u3 u4 u5 u6 u7) b #[u0,u1,u2,u3,u4,u5,u6,u7]∧Upd b w (set8 w b u0 u1 u2 u3 u4 u5 u6 u7):=by
 unfold set8;refine⟨?_,?_,fun i a=>?_⟩
 ·exact Jp.trans (Jp.trans (Jp.trans (Jp.trans (Jp.trans (Jp.trans (Jp.trans (Jp.set b w 0 u0) (Jp.set b _ 1 u1)) (Jp.set b _ 2 u2)) (Jp.set b _ 3 u3)) (Jp.set b _ 4 u4)) (Jp.set b _ 5 u5)) (Jp.set b _ 6 u6)) (Jp.set b _ 7 u7)
 ·have:=(((((((h.set 0 u0).set 1 u1).set 2 u2).set 3 u3).set 4 u4).set 5 u5).set 6 u6).set 7 u7;simpa using this
 ·rw[Below.heap_setCell _ _ _ _ a,Below.heap_setCell _ _ _ _ a,Below.heap_setCell _ _ _ _ a,Below.heap_setCell _ _ _ _ a,Below.heap_setCell _ _ _ _ a,Below.heap_setCell _ _ _ _ a,Below.heap_setCell _ _ _ _ a,Below.heap_setCell _ _ _ _ a]
structure Mk (w0 w:World)(bx br bn:Nat)(wv:Value)(nv:Array Value):Prop where
 g:Gr w0 w
 x:Ja w bx #[.pointer (some ⟨br,0,none⟩)]
 r:Ja w br #[wv,.bool false]
 n:Ja w bn nv
 ne:w0.heap.size≤bx∧w0.heap.size≤br∧w0.heap.size≤bn∧bx≠br∧bx≠bn∧br≠bn
theorem Mk.read {f w w':World}{c a b:Nat}{l i:Value}{d:Array Value}(h:Mk f w c a b l d)(g:w.grownBy w' (some a))(j:Ja w' a #[i,.bool false]):Mk f w' c a b i d:=
 ⟨Below.grown h.g g h.g.size (fun k e=>by cases e;exact h.ne.2.1),h.x.grown g (fun e=>h.ne.2.2.2.1 (Option.some.inj e)),j,h.n.grown g (fun e=>h.ne.2.2.2.2.2 (Option.some.inj e).symm),h.ne⟩
theorem Mk.put {f w:World}{d c a:Nat}{g:Value}{l m n o p q r s:Value}(u0 u1 u2 u3 u4 u5 u6 u7:Value)(h:Mk f w d c a g #[l,m,n,o,p,q,r,s]):
  Mk f (set8 w a u0 u1 u2 u3 u4 u5 u6 u7) d c a g #[u0,u1,u2,u3,u4,u5,u6,u7]∧Upd a w (set8 w a u0 u1 u2 u3 u4 u5 u6 u7):=by
 obtain⟨i,j,b⟩:=fill8 u0 u1 u2 u3 u4 u5 u6 u7 h.n;exact⟨⟨Below.grown h.g i h.g.size (fun k e=>by cases e;exact h.ne.2.2.1),h.x.upd b h.ne.2.2.2.2.1,h.r.upd b h.ne.2.2.2.2.2,j,h.ne⟩,b⟩
abbrev nodeZ:Array Value:=#[.int .i64 0,.slice none 0 0,.int .i64 0,.int .i64 0,.int .i64 0,.slice none 0 0,.int .i64 0,.slice none 0 0]
theorem J4c (H w:World)(f d j b o c:Nat)(s s':List UInt8)(v g:Int)(k:Mk H w f d j (.slice (some ⟨b,o,none⟩) 2 2) nodeZ)(K:b≠d)(E:w.cell? ⟨b,o,none⟩=some (.string ⟨s.toArray⟩))(F:w.cell? ⟨b,o+1,none⟩=some (.string ⟨s'.toArray⟩))(A:Lib.parseIntB 64 s = .ok v)(B:Lib.parseIntB 64 s' = .ok g)(y:s.length≤1000)(z:s'.length≤1000):
  Calls Tryz.prog 66 #[.pointer (some ⟨f,0,none⟩),.pointer (some ⟨j,0,none⟩)] w (fun e w'=>∃ r q,e = .returned r∧Mk H w' f d j (.slice q 0 0) (nodeA ⟨2,none,0,0,v,g,0,none,0,0,0,none,0,0⟩)):=by
 obtain⟨p,i,u,t⟩:=Z4 k (And.intro E F) (And.intro A B) (And.intro y z);have n:w.cell? ⟨f,0,none⟩=some (.pointer (some ⟨d,0,none⟩)):=k.x.at 0 rfl;clear k E F A B y z;go_enter Tryz.func66,Tryz.ntmps66;go_wp2_with fail;clear n;refine(J0z w d b o 2 2 (some ⟨b,o+1,none⟩) s v false p.o.r i.o.1 u.o.1 t.o.1 (by decide) (by decide) (by decide) (.inr ⟨by decide,rfl⟩)).mono ?_;rintro _ m ⟨rfl,g1,C⟩;have h:=Z (p.o.read g1 C);have G:m.cell? ⟨b,o+1,none⟩=some (.string ⟨s'.toArray⟩):=by
  have L:=World.block_lt_of_cell? (w:=w) _ i.o.2;rw[World.cell?_of_block (w:=w) (g1.block b L (fun e=>K (Option.some.inj e)))];exact i.o.2
 have I:=Z G;have n:m.cell? ⟨f,0,none⟩=some (.pointer (some ⟨d,0,none⟩)):=h.o.x.at 0 rfl;clear g1 C G;go_wp2_with fail;clear n;refine(J0z m d b (o+1) 1 1 (some ⟨b,o+1,none⟩) s' g false h.o.r I.o u.o.2 t.o.2 (by decide) (by decide) (by decide) (.inl ⟨rfl,rfl⟩)).mono ?_;rintro _ w2 ⟨rfl,x,D⟩;have a:=Z (h.o.read x D);have l:=a.o.put (.int .i64 2) (.slice none 0 0) (.int .i64 v) (.int .i64 g) (.int .i64 0) (.slice none 0 0) (.int .i64 0) (.slice none 0 0);unfold set8 at l;have J:=Z l.1;have U:=a.o.n.at 0 rfl;have V:=a.o.n.at 1 rfl;have W:=a.o.n.at 2 rfl;have X:=a.o.n.at 3 rfl;have Y:=a.o.n.at 4 rfl;have n5:=a.o.n.at 5 rfl;have n6:=a.o.n.at 6 rfl;have n7:=a.o.n.at 7 rfl;have M:=Ja.f a.o.n 0;have N:=Ja.f a.o.n 1;have O:=Ja.f a.o.n 2;have P:=Ja.f a.o.n 3;have Q:=Ja.f a.o.n 4;have R:=Ja.f a.o.n 5;have S:=Ja.f a.o.n 6;have T:=Ja.f a.o.n 7;clear x D l;go_wp2_with fail;first|go_end0|(refine bodyPost_ret (results_none rfl _ _ _) rfl ?_)
 exact⟨_,some ⟨b,o+1,none⟩,rfl,J.o⟩
theorem J4b (k w:World)(i j h l o c:Nat)(s:List UInt8)(z:Int)(E:OneW s z)(m:Int)(A:w.cell? ⟨2,0,none⟩=some (.int .i64 m))(q:Mk k w j i h (.slice (some ⟨l,o,none⟩) 1 c) nodeZ)(C:w.cell? ⟨l,o,none⟩=some (.string ⟨s.toArray⟩)):
  Calls Tryz.prog 62 #[.pointer (some ⟨j,0,none⟩),.pointer (some ⟨h,0,none⟩)] w (fun e w'=>∃ r p c' u,e = .returned r∧Mk k w' j i h (.slice none 0 0) (nodeA ⟨0,p,1,c',0,0,0,none,0,0,0,none,0,0⟩)∧(∀ a,p=some a→k.heap.size≤a.block)∧SlL w' 3 encRat (.slice p 1 c') [u]∧RatC w' u.v (z:Rat)):=by
 obtain⟨f,G,F,I⟩:=Z4 q C A E;have J:w.cell? ⟨j,0,none⟩=some (.pointer (some ⟨i,0,none⟩)):=q.x.at 0 rfl;clear q C A E;go_enter Tryz.func62,Tryz.ntmps62;go_wp2_with fail;clear J;refine(J5x w i l o c s z I.o m F.o f.o.r G.o).mono ?_;rintro _ w2 ⟨p,c',u,rfl,t,v,B,x,y⟩;have b:=Z (f.o.read v B);have d:=b.o.put (.int .i64 0) (.slice p 1 c') (.int .i64 0) (.int .i64 0) (.int .i64 0) (.slice none 0 0) (.int .i64 0) (.slice none 0 0);have D:k.heap.size≤w.heap.size∧h < w.heap.size:=⟨f.o.g.size,f.o.n.lt⟩
 have g:=Z (show _∧_∧_ from⟨fun a n=>Nat.le_trans D.1 (t a n),SlL.updA x d.2 (fun a n e=>by have:=t a n;omega),Pn y (Dk.upd (NoU.of b.o.n (by simp)) d.2)⟩);unfold set8 at d g;have H:=Z d.1;have S:=b.o.n.at 0 rfl;have T:=b.o.n.at 1 rfl;have U:=b.o.n.at 2 rfl;have V:=b.o.n.at 3 rfl;have W:=b.o.n.at 4 rfl;have X:=b.o.n.at 5 rfl;have Y:=b.o.n.at 6 rfl;have n7:=b.o.n.at 7 rfl;have K:=Ja.f b.o.n 0;have L:=Ja.f b.o.n 1;have M:=Ja.f b.o.n 2;have N:=Ja.f b.o.n 3;have O:=Ja.f b.o.n 4;have P:=Ja.f b.o.n 5;have Q:=Ja.f b.o.n 6;have R:=Ja.f b.o.n 7;clear v B d x y t D;go_wp2_with fail;first|go_end0|(refine bodyPost_ret (results_none rfl _ _ _) rfl ?_)
 exact⟨_,p,c',u,rfl,H.o,g.o.1,g.o.2.1,g.o.2.2⟩
def exV:VarM:=⟨0,1,false,true,0⟩
def exT:List Ji:=[⟨0,2⟩,⟨1,2⟩]
def exR:RowS:=⟨[],0,2,exT,1⟩
def exP:Prg:=⟨[exV,exV],[exR]⟩
theorem Th:Jo exP∧Whole exP:=by
 refine⟨⟨by decide,by decide,?_,?_⟩,?_⟩
 ·intro v a;simp[exP] at a;subst a;unfold Ky In exV;simp
 ·intro r b;simp[exP] at b;subst b;unfold J2 exR exT In exP;simp[Inc,In]
 ·intro v a;simp[exP] at a;subst a;exact⟨rfl,rfl⟩
def exS (v:Int):Jk:=⟨2,[],v,0,⟨0,[],0,[]⟩⟩
def exF (z:Int):Jk:=⟨0,[(z:Rat)],0,0,⟨0,[],0,[]⟩⟩
def exN:List Jk:=[exS 0,exS 1,exF 1,exF (-1),exF (-1)]
theorem X2:Dep exN 2 []:=.split rfl (.split rfl (.leaf rfl) (.leaf rfl)) (.leaf rfl)
theorem Te:∀ n ∈ exN,Kx n:=by
 have a:∀ v,Kx (exS v):=fun v=>⟨by simp[exS],by simp[exS],by simp[exS],by simp[exS],by simp[exS]⟩
 have f:Sz 4 ((1:Int):Rat):=⟨by decide +kernel,by decide +kernel⟩
 have g:Sz 4 ((-1:Int):Rat):=⟨by decide +kernel,by decide +kernel⟩
 have b:∀ z:Int,Sz 4 (z:Rat)→Kx (exF z):=fun z h=>⟨by simp[exF],by intro x d;simp[exF] at d;subst d;exact h,by simp[exF],by simp[exF],by simp[exF]⟩
 intro n c;simp[exN] at c;rcases c with rfl|rfl|rfl|rfl
 ·exact a 0
 ·exact a 1
 ·exact b 1 f
 ·exact b (-1) g
theorem Tj (V:List VarM)(y:List Rat):Nh ⟨V,[exR]⟩ y:=fun i r h=>by
 cases i with
 | zero=>
  simp at h;subst h;exact⟨fun k=>absurd k.1 (by decide),fun k=>absurd k.1 (by decide)⟩
 | succ i=>simp at h
theorem Ti:Jm exP exN []:=by
 have a:Ko (⟨0,[],0,[]⟩:CutS):=⟨rfl,rfl,rfl,rfl⟩
 refine .split rfl ⟨a,rfl⟩ ⟨by decide,by decide⟩ ⟨by decide,by decide⟩ (r:=[exF (-1)]) ?_ ?_
 ·refine .split rfl ⟨a,rfl⟩ ⟨by decide,by decide⟩ ⟨by decide,by decide⟩ (r:=[exF (-1),exF (-1)]) ?_ ?_
  ·exact .farkas rfl ⟨a,rfl,rfl⟩ (by decide) ⟨Tj _ _,.inr (by decide +kernel)⟩
  ·exact .farkas rfl ⟨a,rfl,rfl⟩ (by decide) ⟨Tj _ _,.inr (by decide +kernel)⟩
 ·exact .farkas rfl ⟨a,rfl,rfl⟩ (by decide) ⟨Tj _ _,.inr (by decide +kernel)⟩
theorem J3j:¬ Jm exP (exN.take 1) []:=J5i Ti (by decide)
theorem J3X (w:World):Calls Tryz.prog 16 #[] w (Ret w fun r w'=>Js w' r exP∧∃ a c b d,r=prgV a c b d exP):=by
 have j:=Ja.new w #[.slice (some ⟨w.heap.size+1+1,0,none⟩) 2 2,.slice (some ⟨w.heap.size+1+1+1+1,0,none⟩) 1 1] 25;obtain⟨p,s⟩:∃ z,w.alloc (.cells #[.slice (some ⟨w.heap.size+1+1,0,none⟩) 2 2,.slice (some ⟨w.heap.size+1+1+1+1,0,none⟩) 1 1] 25)=z:=⟨_,rfl⟩
 rw[s] at j;have n:=Ja.new p #[.int .i64 0,.int .i64 1,.bool false,.bool true,.int .i64 0] 62;obtain⟨l,t⟩:∃ z,p.alloc (.cells #[.int .i64 0,.int .i64 1,.bool false,.bool true,.int .i64 0] 62)=z:=⟨_,rfl⟩
 rw[t] at n;have k:=SlL.new (enc:=encVar) (sz:=5) l 62 K0 [exV,exV] #[.int .i64 0,.int .i64 1,.bool false,.bool true,.int .i64 0,.int .i64 0,.int .i64 1,.bool false,.bool true,.int .i64 0] 2 rfl rfl (by decide);obtain⟨h,u⟩:∃ z,l.alloc (.cells #[.int .i64 0,.int .i64 1,.bool false,.bool true,.int .i64 0,.int .i64 0,.int .i64 1,.bool false,.bool true,.int .i64 0] 62)=z:=⟨_,rfl⟩
 rw[u] at k;have i:=SlL.new (enc:=encTerm) (sz:=2) h 75 Mm exT #[.int .i64 0,.int .i64 2,.int .i64 1,.int .i64 2] 2 rfl rfl (by decide);obtain⟨m,v⟩:∃ z,h.alloc (.cells #[.int .i64 0,.int .i64 2,.int .i64 1,.int .i64 2] 75)=z:=⟨_,rfl⟩
 rw[v] at i;have f:=SlL.new (enc:=encRow) (sz:=5) m 42 Lk [(⟨[],0,2,some ⟨h.heap.size,0,none⟩,2,exT,1⟩:RowM)] #[.string ⟨#[]⟩,.int .i64 0,.int .i64 2,.slice (some ⟨h.heap.size,0,none⟩) 2 2,.int .i64 1] 1 rfl rfl (by decide);obtain⟨A,y⟩:∃ z,m.alloc (.cells #[.string ⟨#[]⟩,.int .i64 0,.int .i64 2,.slice (some ⟨h.heap.size,0,none⟩) 2 2,.int .i64 1] 42)=z:=⟨_,rfl⟩
 rw[y] at f;have q:=k.1.trans (i.1.trans f.1);have g15:=n.1.trans q;have o:=j.2.grow g15;have g:=Z (show _∧_∧Js A (.agg #[.slice (some ⟨l.heap.size,0,none⟩) 2 2,.slice (some ⟨m.heap.size,0,none⟩) 1 1]) exP from
  ⟨j.1.trans g15,o,some ⟨l.heap.size,0,none⟩,2,some ⟨m.heap.size,0,none⟩,1,rfl,SlL.grow k.2 (i.1.trans f.1),
   [(⟨[],0,2,some ⟨h.heap.size,0,none⟩,2,exT,1⟩:RowM)],f.2,rfl,fun x B=>by
    obtain rfl:=List.mem_singleton.1 B;exact SlL.grow i.2 f.1⟩)
 clear j n k i f q g15 o;subst y v u t s;simp only[World.size_alloc] at g;go_enter Tryz.func16,Tryz.ntmps16;go_wp2_with fail;try rw[Exit.noGoto_ret]
 generalize (((((w.alloc _).alloc _).alloc _).alloc _).alloc _)=D at g ⊢;have z0:=g.o.2.1.at 0 rfl;have C:=g.o.2.1.at 1 rfl;refine bodyPost_ret (by simp[results,Tryz.results16,go_sem,z0,C];rfl) rfl ?_;exact⟨_,rfl,g.o.1,g.o.2.2,_,_,_,_,rfl⟩
theorem J6u (w:World)(v:Value)(p:Prg)(N:List Jk)(f:Option Addr)(b d:Nat)(J:b=N.length)(L:Js w v p)(I:J1 w (.slice f b d) N 4)(C:PrgI p)(E:∀ r ∈ p.rows,r.name.length≤1000000)(H:p.vars.length≤10)(F:p.rows.length+N.length≤40)(B:∀ n ∈ N,Kx n)(D:Jo p∧Whole p)(K:Jm p N []):
  Calls Tryz.prog 20 #[v,.agg #[.bool false,.slice none 0 0,.int .i64 0,.slice f b d]] w (Ret w fun r _=>r = .int .i64 0):=by
 obtain⟨k,u,O,P,i,M,h⟩:=Z7 L (And.intro I J) C E (And.intro H F) B (And.intro D K);obtain⟨o,s,q,t,rfl,U,T⟩:=L;unfold prgV at k ⊢;have j:=Ja.new w #[.slice o p.vars.length s,.slice q p.rows.length t] 25;have c:=Ja.new (w.alloc (.cells #[.slice o p.vars.length s,.slice q p.rows.length t] 25)) #[.bool false,.slice none 0 0,.int .i64 0,.slice f b d] 57;simp only[World.size_alloc] at c;have a:=Z (show _∧Ja _ _ #[.slice o p.vars.length s,.slice q p.rows.length t]∧Ja _ _ #[.bool false,.slice none 0 0,.int .i64 0,.slice f b d] from⟨j.1.trans c.1,j.2.grow c.1,c.2⟩);clear U T I C E H F B J j c D K;go_enter Tryz.func20,Tryz.ntmps20;go_wp2_with fail;generalize R:w.heap.size+1=ba at a ⊢;generalize S:w.heap.size=bp at a ⊢;generalize (w.alloc _).alloc _=W at a ⊢;clear R S;refine(J1y W _ p (k.o.grow a.o.1) O.o P.o (by have:=i.o;omega) (by have:=i.o;omega)).mono ?_;rintro _ Y ⟨r1,rfl,g1,z⟩;obtain⟨G,x,g⟩:=Z3 (a.o.1.trans g1) (a.o.2.1.grow g1) (a.o.2.2.grow g1);rcases z.cases with⟨rfl,l⟩|⟨rfl,l⟩;rotate_left
 ·exact absurd h.o.1 l
 have V:=x.o.at 0 rfl;have X:=x.o.at 1 rfl;have a0:=g.o.at 0 rfl;have Q:=g.o.at 1 rfl;have a2:=g.o.at 2 rfl;have a3:=g.o.at 3 rfl;clear z l g1;go_wp2_with fail;clear V X a0 Q a2 a3;refine(J1t Y _ p N f b d u.o.2 (k.o.grow G.o) (u.o.1.grow G.o) ⟨h.o.1.1,h.o.1.2,i.o.1,i.o.2⟩ M.o).mono ?_;rintro _ w2 ⟨r2,rfl,y,A⟩;have G:=Z (G.o.trans y);rcases A.cases with⟨rfl,m⟩|⟨rfl,m⟩;rotate_left
 ·exact absurd h.o.2 m
 clear A m y;go_wp2_with fail;go_ret;exact⟨_,rfl,G.o,rfl⟩
end Prf
end Go.Proofs.YtcjgimlcefhhmaaGreatDoor

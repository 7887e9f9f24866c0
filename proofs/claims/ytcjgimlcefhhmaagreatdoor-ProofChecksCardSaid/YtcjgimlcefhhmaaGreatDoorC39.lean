/- Texts: PyA PyB PyC. -/
import Derived.Test.YtcjgimlcefhhmaaGreatDoorC37
import Derived.Test.YtcjgimlcefhhmaaGreatDoorC38
set_option linter.unusedVariables false
set_option linter.unusedSimpArgs false
set_option maxRecDepth 100000
set_option maxHeartbeats 12800000
namespace Go.Proofs.YtcjgimlcefhhmaaGreatDoor
namespace Prf
open Go.RowKit Go.Lib
def encS (s:List UInt8):List Value:=[.string ⟨s.toArray⟩]
theorem Td (x:List UInt8):(encS x).length=1:=rfl
theorem J32:∀ x,∀ u ∈ encS x,u.oneCell'=true:=fun x u a=>by
 simp[encS] at a;subst a;rfl
theorem J6i:(Tryz.prog.info? 9).map (fun i=>(i.zero,i.size,i.bytes))=some (some (.string ⟨#[]⟩),1,16):=by kernel_rfl
abbrev Ml (w:World)(base:Nat)(v:Value)(l:List (List UInt8)):Prop:=OwnL w base 9 1 encS v l
theorem Sc (w:World)(base:Nat)(a:base≤w.heap.size)(x:List UInt8):
  Gr w (w.alloc (.cells #[.string ⟨x.toArray⟩] 9))∧Ml (w.alloc (.cells #[.string ⟨x.toArray⟩] 9)) base (.slice (some ⟨w.heap.size,0,none⟩) 1 1) [x]:=
 ⟨(Gr.refl w).alloc _,World.ownsRow_lit w #[.string ⟨x.toArray⟩] 1 a (by decide) rfl⟩
theorem Sb {a:Act}{o:Oper}{Q:Exit→Act→World→Prop}{K:Act→World→Prop}{w:World}(s x:Operand)(g:o.op = .call { callee:=.builtin .append,args:=#[s,x],argTypes:=#[83,83] })
  (base:Nat) (v vx:Value) (l m:List (List UInt8)) (k:a.eval s=v) (i:Ml w base v l) (n:a.eval x=vx) (f:SlL w 1 encS vx m) (r:l.length+m.length≤1000) (d:base≤w.heap.size) (j:0 < m.length)
  (h:∀ p c w',Ml w' base (.slice p (l.length+m.length) c) (l ++ m)→w.grownBy w' v.ownBlock→K (a.put o.dst (.slice p (l.length+m.length) c)) w'):Oper.wp Tryz.prog o a w K Q:=by
 refine Py s x 83 9 _ 16 g Tryz.underlying83 J6i rfl (by decide) Td J32 base v vx l m k i n f (by omega) (by omega) d j ?_;intro t w' b q _;obtain⟨p,c,e,_,_⟩:=b.read.parts;rw[List.length_append] at e;subst e;exact h p c w' b q
theorem J1B (w:World)(b:List UInt8)(p:Option Addr)(n c:Nat)(l:List (List UInt8))(j:Bool)(z:SlL w 1 encS (.slice p n c) l)(A:l.length=n)(v:0 < n)(x:n≤100):
  Calls Tryz.prog 70 #[.string ⟨b.toArray⟩,.slice p n c,.bool j] w (Ret w fun r w'=>∃ q d,r = .tuple #[.slice q (1+n) d,.bool j]∧Ml w' w.heap.size (.slice q (1+n) d) (b :: l)):=by
 obtain⟨B,f,o⟩:=Z3 z A (And.intro v x);clear z A v x;go_enter Tryz.func70,Tryz.ntmps70;go_wp2_with (at_builtin;refine Hold.hold ?_);have k:=Sc w w.heap.size (Nat.le_refl _) b;have a:=Z k;clear k;generalize g:w.heap.size=t at a ⊢;generalize w.alloc _=D at a ⊢;refine Hold.go ?_;refine wpList_plain rfl (fun K y=>?_);refine Sb _ _ rfl t (.slice (some ⟨t,0,none⟩) 1 1) _ [b] l rfl a.o.2 rfl (SlL.grow B.o a.o.1) (by have:=o.o;have:=f.o;simp;omega) (by have:=a.o.1.size;omega) (by have:=o.o;have:=f.o;omega) ?_;intro q d C i u;rw[show [b].length+l.length=1+n from by rw[f.o];rfl] at i ⊢;obtain⟨m,s⟩:=Z2 (show Gr w C from OwnL.gr (by rw[g];exact a.o.2) a.o.1 u) i;clear i u;refine y _ _ ?_;clear y K
 cases j
 ·go_wp2_with fail;refine bodyPost_ret (by simp[results,Tryz.results70,go_sem];rfl) rfl ?_;exact⟨_,rfl,m.o,q,d,rfl,by have h:=s.o;rw[← g] at h;exact h⟩
 ·go_wp2_with fail;refine bodyPost_ret (by simp[results,Tryz.results70,go_sem];rfl) rfl ?_;exact⟨_,rfl,m.o,q,d,rfl,by have h:=s.o;rw[← g] at h;exact h⟩
theorem J6M (w:World)(n:Int):Calls Tryz.prog 122 (#[mkI n] ++ #[]) w (Ret w fun r _=>Jb (n < 0) r):=by
 show Calls _ _ #[.int .i64 n] _ _;by_cases h:n < 0
 ·have H:=Z h;go_enter Tryz.func122,Tryz.ntmps122;go_wp2_with fail;go_ret;exact⟨_,rfl,Gr.refl _,Jb.yes H.o⟩
 ·have H:=Z h;go_enter Tryz.func122,Tryz.ntmps122;go_wp2_with fail;go_ret;exact⟨_,rfl,Gr.refl _,Jb.no (Int.not_lt.2 H.o)⟩
def Qz (w W:World)(s:List UInt8)(k:Nat)(v:Value):Prop:=Gr w W∧((k=0∧v = .slice none 0 0)∨(k=1∧∃ q d,v = .slice q 1 d∧Ml W w.heap.size (.slice q 1 d) [s]))
theorem J6N (w:World)(p:Option Addr)(c v:Nat)(C:v < 100)(s:Mi w (.slice p 1 c) [(v:Int)]):
  Calls Tryz.prog 72 #[.slice p 1 c] w (Ret w fun r w'=>∃ q d,r = .tuple #[.slice q 1 d,.bool true]∧Ml w' w.heap.size (.slice q 1 d) [Lib.decDigits v]):=by
 obtain⟨b,o,x,rfl,m,A⟩:=Lm s rfl (k:=0) (by decide);obtain rfl:(v:Int)=x:=by simpa using m
 obtain⟨H,E,L⟩:=Z3 s A C;clear s m A C;go_enter Tryz.func72,Tryz.ntmps72;go_wp2_with fail;go_loopw [4,9] (fun l i N=>∃ (k:Nat) (a:World),a=N∧i = .int .i64 (k:Int)∧k≤1∧Qz w a (Lib.decDigits v) k l) (fun _ i _=>1 - (RowKit.intOf i).toNat)
 case atStart=>exact⟨0,_,rfl,rfl,by omega,Gr.refl w,.inl ⟨rfl,rfl⟩⟩
 case round=>
  obtain⟨k,a,rfl,rfl,P,B,h⟩:=hrel;have G:=Z B;clear B;rcases h with⟨rfl,rfl⟩|⟨rfl,q,d,rfl,f⟩
  ·have c0:=E.o _ G.o;rw[Nat.add_zero] at c0;go_wp2_with fail;clear c0;refine(Tryz.strconv_Itoa_small v L.o a).mono ?_;rintro _ a ⟨rfl,rfl⟩;go_wp2_with (at_builtin;refine Hold.hold ?_);have j:=Z (Sc a w.heap.size G.o.size (Lib.decDigits v));generalize a.heap.size=O at j ⊢;generalize a.alloc _=M at j ⊢;refine Hold.go ?_;refine wpList_plain rfl (fun K z=>?_);have g:=Z (G.o.trans j.o.1);refine Sb _ _ rfl w.heap.size (.slice none 0 0) _ [] [Lib.decDigits v] rfl (OwnL.nil _ _ _) rfl j.o.2.read (by simp) g.o.size (by simp) ?_;intro q d u f g3;have D:=Z (show Gr w u from OwnL.gr (OwnL.nil (enc:=encS) (sz:=1) M w.heap.size 9) g.o g3);have F:=Z (show Qz w u (Lib.decDigits v) 1 (.slice q 1 d) from⟨D.o,.inr ⟨rfl,q,d,rfl,f⟩⟩);clear f g3;refine z _ _ ?_;clear z K;go_wp2_with fail;exact⟨⟨1,_,rfl,rfl,by omega,F.o⟩,by simp[RowKit.intOf]⟩
  ·have I:=Z f;clear f;go_wp2_with fail;refine(J3N a (some ⟨b,o,none⟩) 1 c [(v:Int)] (.func (.func 122) #[] #[]) (fun x=>x < 0) (SlL.grow H.o G.o) rfl (by decide) ⟨_,_,rfl,enters_of Tryz.func122 (by kernel_rfl) rfl,fun w' _ x _=>J6M w' x⟩).mono ?_;rintro _ R ⟨Q,rfl,n,y⟩;rcases y.cases with⟨rfl,t⟩|⟨rfl,t⟩
   ·obtain⟨x,m,h⟩:=t;simp at m;omega
   ·obtain⟨g,J⟩:=Z2 (G.o.trans n) (I.o.grow n);clear y t n;go_wp2_with fail;refine bodyPost_ret (by simp[results,Tryz.results72,go_sem];rfl) rfl ?_;exact⟨_,rfl,g.o,q,d,rfl,J.o⟩
def J1P (w W:World)(s:List UInt8)(k:Nat)(v t:Value):Prop:=t = .bool true∧Qz w W s k v
theorem J6K (w:World)(p:Option Addr)(c:Nat)(u:RatM)(s:List UInt8)(z:Int)(T:OneW s z)(Q:Tab w)(P:SlL w 3 encRat (.slice p 1 c) [u])(R:RatC w u.v (z:Rat)):
  Calls Tryz.prog 71 #[.slice p 1 c] w (Ret w fun r w'=>∃ q d,r = .tuple #[.slice q 1 d,.bool true]∧Ml w' w.heap.size (.slice q 1 d) [s]):=by
 obtain⟨b,o,x,rfl,S,N⟩:=P.at L9 rfl (k:=0) (by decide);obtain rfl:u=x:=by simpa using S
 obtain⟨n,I,X⟩:=Z3 N R Q;have v:=Z (show Sz 4 (z:Rat)∧ratText (z:Rat)=s from by
  rcases T with⟨rfl,rfl⟩|⟨rfl,rfl⟩
  ·exact⟨⟨by decide +kernel,by decide +kernel⟩,by decide +kernel⟩
  ·exact⟨⟨by decide +kernel,by decide +kernel⟩,by decide +kernel⟩)
 clear P S N R Q T;go_enter Tryz.func71,Tryz.ntmps71;go_wp2_with fail;go_loopw [4,5,10] (fun l t i w9=>∃ (k:Nat) (f:World),f=w9∧i = .int .i64 (k:Int)∧k≤1∧J1P w f s k l t) (fun _ _ i _=>1 - (RowKit.intOf i).toNat)
 case atStart=>exact⟨0,_,rfl,rfl,by omega,rfl,Gr.refl w,.inl ⟨rfl,rfl⟩⟩
 case round=>
  obtain⟨k,f,rfl,rfl,hk,rfl,O,h⟩:=hrel;have G:=Z O;clear O;rcases h with⟨rfl,rfl⟩|⟨rfl,q,d,rfl,g⟩
  ·have c0:=n.o 0 _ rfl _ G.o;have c1:=n.o 1 _ rfl _ G.o;have c2:=n.o 2 _ rfl _ G.o;rw[Nat.add_zero] at c0;have B:=Ja.new f #[.bool u.n,.slice u.p u.k u.c,.slice u.q u.m u.e] 68;have y:=B.2.at 0 rfl;have A:=B.2.at 1 rfl;have C:=B.2.at 2 rfl;have a:=Z B;clear B;go_wp2_with fail;clear c0 c1 c2 y A C;generalize f.heap.size=br at a ⊢;generalize f.alloc _=Y at a ⊢;have E:=Z (G.o.trans a.o.1);refine(J6x Y _ (z:Rat) 4 (I.o.grow E.o) v.o.1 (by decide)).mono ?_;rintro _ w3 ⟨_,rfl,g3,rfl⟩;obtain⟨j,m⟩:=Z2 (E.o.trans g3) (a.o.2.grow g3);clear g3;have y:=m.o.at 0 rfl;have A:=m.o.at 1 rfl;have C:=m.o.at 2 rfl;go_wp2_with fail;clear y A C;refine(J5n w3 _ (z:Rat) 4 s ((I.o.grow j.o).v v.o.1) v.o.2 (by decide) (by decide) (X.o.grow j.o)).mono ?_;rintro _ D ⟨_,rfl,g4,rfl⟩;have F:=Z (j.o.trans g4);clear g4;go_wp2_with (at_builtin;refine Hold.hold ?_);have a:=Z (Sc D w.heap.size F.o.size s);generalize D.heap.size=bs at a ⊢;generalize D.alloc _=W5 at a ⊢;refine Hold.go ?_;refine wpList_plain rfl (fun K M=>?_);have H:=Z (F.o.trans a.o.1);refine Sb _ _ rfl w.heap.size (.slice none 0 0) _ [] [s] rfl (OwnL.nil _ _ _) rfl a.o.2.read (by simp) H.o.size (by simp) ?_;intro q d J g L;have U:=Z (show Gr w J from OwnL.gr (OwnL.nil (enc:=encS) (sz:=1) W5 w.heap.size 9) H.o L);have V:=Z (show Qz w J s 1 (.slice q 1 d) from⟨U.o,.inr ⟨rfl,q,d,rfl,g⟩⟩);clear g L;refine M _ _ ?_;clear M K;go_wp2_with fail;exact⟨⟨1,_,rfl,rfl,by omega,rfl,V.o⟩,by simp[RowKit.intOf]⟩
  ·have W:=Z g;clear g;go_wp2_with fail;refine bodyPost_ret (by simp[results,Tryz.results71,go_sem];rfl) rfl ?_;exact⟨_,rfl,G.o,q,d,rfl,W.o⟩
theorem U1 {α:Type}(w:World)(sz:Nat)(enc:α→List Value):SlL w sz enc (.slice none 0 0) []:=(OwnL.nil w 0 0).read
theorem Xi (w:World):Lc w (.agg #[.int .i64 0,.slice none 0 0,.int .i64 0,.slice none 0 0]) ⟨0,[],0,[]⟩ 4:=
 ⟨none,0,0,none,0,0,rfl,⟨[],U1 w 3 encRat,rfl,fun i t h=>by simp at h⟩,U1 w 1 encI,rfl,rfl⟩
theorem Uk (w:World)(v:Int):Kl w (nodeS v) (exS v) 4:=
 ⟨rfl,rfl,rfl,⟨[],U1 w 3 encRat,rfl,fun i t h=>by simp at h⟩,rfl,Xi w⟩
theorem Rm {w:World}{p:Option Addr}{c:Nat}{u:RatM}{z:Int}(d:Sz 4 (z:Rat))(a:SlL w 3 encRat (.slice p 1 c) [u])(b:RatC w u.v (z:Rat)):Kl w (nodeF p c) (exF z) 4:=
 ⟨rfl,rfl,rfl,⟨[u],a,rfl,fun i t h=>by
  cases i with
  | zero=>
   simp at h;subst h;exact b.v d
  | succ i=>simp at h⟩,rfl,Xi w⟩
theorem J5f (v:Int):Kg (exS v):=Lp.2 (.inr (.inr (.inl ⟨rfl,⟨rfl,rfl,rfl,rfl⟩,rfl⟩)))
theorem J5e (z:Int):Kg (exF z):=Lp.2 (.inl ⟨rfl,⟨rfl,rfl,rfl,rfl⟩,rfl,rfl⟩)
theorem sz1 {s:List UInt8}{z:Int}(a:OneW s z):Sz 4 (z:Rat):=by
 rcases a with⟨rfl,rfl⟩|⟨rfl,rfl⟩
 ·exact⟨by decide +kernel,by decide +kernel⟩
 ·exact⟨by decide +kernel,by decide +kernel⟩
theorem J1C (w:World)(v:Nat)(C:v < 100):
  Calls Tryz.prog 36 #[.agg (nodeA (nodeS v))] w (Ret w fun r w'=>∃ q d,r = .tuple #[.slice q 3 d,.bool true]∧Ml w' w.heap.size (.slice q 3 d) [wSplit,Lib.decDigits v,Lib.decDigits 0]):=by
 have H:=Z C;clear C;have a:=Z (Ja.new w (nodeA (nodeS v)) 47);unfold nodeS at a ⊢;have c0:=a.o.2.at 0 rfl;have g:=a.o.2.at 1 rfl;have c2:=a.o.2.at 2 rfl;have c3:=a.o.2.at 3 rfl;have c4:=a.o.2.at 4 rfl;have c5:=a.o.2.at 5 rfl;have h:=a.o.2.at 6 rfl;have i:=a.o.2.at 7 rfl;go_enter Tryz.func36,Tryz.ntmps36;go_wp2_with fail;clear c0 g c2 c3 c4 c5 h i;generalize w.heap.size=l at a ⊢;generalize w.alloc _=W at a ⊢;refine(Nc W (nodeS v) (exS v) 4 (Uk W v)).mono ?_;rintro _ j ⟨Q,rfl,m,x⟩;rcases x.cases with⟨rfl,n⟩|⟨rfl,n⟩;rotate_left
 ·exact absurd (J5f v) n
 have a:=Z (show Gr w j∧Ja j l _ from⟨a.o.1.trans m,a.o.2.grow m⟩);clear x n m;have f:=Z (Ja.new j #[.int .i64 (v:Int)] 3);have c0:=a.o.2.at 0 rfl;have g:=a.o.2.at 1 rfl;have c2:=a.o.2.at 2 rfl;have c3:=a.o.2.at 3 rfl;have c4:=a.o.2.at 4 rfl;have c5:=a.o.2.at 5 rfl;have h:=a.o.2.at 6 rfl;have i:=a.o.2.at 7 rfl;go_wp2_with fail;clear c0 g c2 c3 c4 c5 h i;generalize j.heap.size=I at f ⊢;generalize j.alloc _=k at f ⊢;have a:=Z (show Gr w k∧Ja k l _ from⟨a.o.1.trans f.o.1,a.o.2.grow f.o.1⟩);have G:=Z a.o.1.size;refine(J6N k (some ⟨I,0,none⟩) 1 v H.o (Ri f.o.2 rfl (by simp))).mono ?_;rintro _ c ⟨R,rfl,g4,q,d,rfl,z⟩;obtain⟨a,p⟩:=Z2 (show Gr w c∧Ja c l _ from⟨a.o.1.trans g4,a.o.2.grow g4⟩) (OwnL.low z G.o);clear z g4;have c0:=a.o.2.at 0 rfl;have g:=a.o.2.at 1 rfl;have c2:=a.o.2.at 2 rfl;have c3:=a.o.2.at 3 rfl;have c4:=a.o.2.at 4 rfl;have c5:=a.o.2.at 5 rfl;have h:=a.o.2.at 6 rfl;have i:=a.o.2.at 7 rfl;go_wp2_with fail;clear c0 g c2 c3 c4 c5 h i;refine(Tryz.strconv_FormatInt_10_small 0 (by decide) c).mono ?_;rintro _ c ⟨rfl,rfl⟩;go_wp2_with (at_builtin;refine Hold.hold ?_);have b:=Z (Sc c w.heap.size a.o.1.size (Lib.decDigits 0));generalize c.heap.size=P at b ⊢;generalize c.alloc _=O at b ⊢;refine Hold.go ?_;refine wpList_plain rfl (fun K y=>?_);refine Sb _ _ rfl w.heap.size (.slice q 1 d) _ [Lib.decDigits v] [Lib.decDigits 0] rfl (p.o.grow b.o.1) rfl b.o.2.read (by simp) (by have:=a.o.1.size;have:=b.o.1.size;omega) (by simp) ?_;intro M J s A t;obtain⟨o,E⟩:=Z2 (show Gr w s from OwnL.gr (p.o.grow b.o.1) (a.o.1.trans b.o.1) t) A;clear A t;refine y _ _ ?_;clear y K;go_wp2_with fail;refine(J1B s wSplit M 2 J [Lib.decDigits v,Lib.decDigits 0] true E.o.read rfl (by decide) (by decide)).mono ?_;rintro _ T ⟨S,rfl,u,N,L,rfl,B⟩;obtain⟨D,F⟩:=Z2 (o.o.trans u) (OwnL.low B o.o.size);clear B u;go_wp2_with fail;try rw[Exit.noGoto_ret]
 refine bodyPost_ret (by simp[results,Tryz.results36,go_sem];rfl) rfl ?_;exact⟨_,rfl,D.o,N,L,rfl,F.o⟩
theorem J6P (w:World)(p:Option Addr)(c:Nat)(u:RatM)(s:List UInt8)(z:Int)(C:OneW s z)(A:Tab w)(v:SlL w 3 encRat (.slice p 1 c) [u])(B:RatC w u.v (z:Rat)):
  Calls Tryz.prog 36 #[.agg (nodeA (nodeF p c))] w (Ret w fun r w'=>∃ q d,r = .tuple #[.slice q 2 d,.bool true]∧Ml w' w.heap.size (.slice q 2 d) [wFarkas,s]):=by
 obtain⟨n,G,l,m⟩:=Z4 C A v B;clear C A v B;have a:=Z (Ja.new w (nodeA (nodeF p c)) 47);unfold nodeF at a ⊢;have c0:=a.o.2.at 0 rfl;have b:=a.o.2.at 1 rfl;have c2:=a.o.2.at 2 rfl;have c3:=a.o.2.at 3 rfl;have c4:=a.o.2.at 4 rfl;have c5:=a.o.2.at 5 rfl;have f:=a.o.2.at 6 rfl;have g:=a.o.2.at 7 rfl;go_enter Tryz.func36,Tryz.ntmps36;go_wp2_with fail;clear c0 b c2 c3 c4 c5 f g;generalize w.heap.size=H at a ⊢;generalize w.alloc _=W at a ⊢;refine(Nc W (nodeF p c) (exF z) 4 (Rm (sz1 n.o) (SlL.grow l.o a.o.1) (m.o.grow a.o.1))).mono ?_;rintro _ j ⟨L,rfl,h,t⟩;rcases t.cases with⟨rfl,i⟩|⟨rfl,i⟩;rotate_left
 ·exact absurd (J5e z) i
 have a:=Z (show Gr w j∧Ja j H _ from⟨a.o.1.trans h,a.o.2.grow h⟩);clear t i h;have c0:=a.o.2.at 0 rfl;have b:=a.o.2.at 1 rfl;have c2:=a.o.2.at 2 rfl;have c3:=a.o.2.at 3 rfl;have c4:=a.o.2.at 4 rfl;have c5:=a.o.2.at 5 rfl;have f:=a.o.2.at 6 rfl;have g:=a.o.2.at 7 rfl;go_wp2_with fail;clear c0 b c2 c3 c4 c5 f g;refine(J6K j p c u s z n.o (G.o.grow a.o.1) (SlL.grow l.o a.o.1) (m.o.grow a.o.1)).mono ?_;rintro _ K ⟨M,rfl,g4,q,d,rfl,x⟩;obtain⟨E,k⟩:=Z2 x (a.o.1.trans g4);clear x g4;go_wp2_with fail;refine(J1B K wFarkas q 1 d [s] true E.o.read rfl (by decide) (by decide)).mono ?_;rintro _ O ⟨N,rfl,o,J,I,rfl,y⟩;obtain⟨D,F⟩:=Z2 (k.o.trans o) (OwnL.low y k.o.size);clear y o;go_wp2_with fail;try rw[Exit.noGoto_ret]
 refine bodyPost_ret (by simp[results,Tryz.results36,go_sem];rfl) rfl ?_;exact⟨_,rfl,D.o,J,I,rfl,F.o⟩
def ExX (w:World)(k:Nat)(x:Jr):Prop:=
 (k=0∧x=nodeS 0)∨(k=1∧x=nodeS 1)∨(∃ s z p c u,((k=2∧s=[49]∧z=1)∨(k=3∧s=[45,49]∧z = -1)∨(k=4∧s=[45,49]∧z = -1))∧OneW s z∧x=nodeF p c∧SlL w 3 encRat (.slice p 1 c) [u]∧RatC w u.v (z:Rat))
theorem ExX.grow {w w':World}{k:Nat}{x:Jr}(h:ExX w k x)(g:Gr w w'):ExX w' k x:=by
 rcases h with h|h|⟨s,z,p,c,u,a,b,d,f,i⟩
 ·exact .inl h
 ·exact .inr (.inl h)
 ·exact .inr (.inr ⟨s,z,p,c,u,a,b,d,SlL.grow f g,i.grow g⟩)
theorem ExX.node {w:World}{k:Nat}{x:Jr}{s:Jk}(h:ExX w k x)(a:exN[k]?=some s):Kl w x s 4:=by
 rcases h with⟨rfl,rfl⟩|⟨rfl,rfl⟩|⟨s,z,p,c,u,g,b,rfl,d,f⟩
 ·obtain rfl:exS 0=s:=by simpa[exN] using a
  exact Uk w 0
 ·obtain rfl:exS 1=s:=by simpa[exN] using a
  exact Uk w 1
 ·rcases g with⟨rfl,rfl,rfl⟩|⟨rfl,rfl,rfl⟩|⟨rfl,rfl,rfl⟩
  ·obtain rfl:exF 1=s:=by simpa[exN] using a
   exact Rm (sz1 b) d f
  ·obtain rfl:exF (-1)=s:=by simpa[exN] using a
   exact Rm (sz1 b) d f
  ·obtain rfl:exF (-1)=s:=by simpa[exN] using a
   exact Rm (sz1 b) d f
def ExL (w:World)(v:Value)(n:Nat):Prop:=∃ T,SlL w 8 encNode v T∧T.length=n∧∀ k x,T[k]?=some x→ExX w k x
theorem ExL.grow {w w':World}{v:Value}{n:Nat}(h:ExL w v n)(g:Gr w w'):ExL w' v n:=by
 obtain⟨T,a,b,c⟩:=h;exact⟨T,SlL.grow a g,b,fun k x d=>(c k x d).grow g⟩
theorem ExL.nodes {w:World}{v:Value}(h:ExL w v 5):J1 w v exN 4:=by
 obtain⟨T,a,b,c⟩:=h;exact⟨T,a,b,fun k x s f d=>(c k x f).node d⟩
theorem J6O (w:World)(k:Nat)(x:Jr)(j:ExX w k x)(i:Tab w):
  Calls Tryz.prog 36 #[.agg (nodeA x)] w (Ret w fun r w'=>∃ q d,r = .tuple #[.slice q (exW k).length d,.bool true]∧Ml w' w.heap.size (.slice q (exW k).length d) (exW k)):=by
 rcases j with⟨rfl,rfl⟩|⟨rfl,rfl⟩|⟨s,z,p,c,u,a,b,rfl,f,g⟩
 ·have h:=J1C w 0 (by decide);rw[Xl] at h;exact h
 ·have h:=J1C w 1 (by decide);rw[Xl,J2I] at h;exact h
 ·rcases a with⟨rfl,rfl,rfl⟩|⟨rfl,rfl,rfl⟩|⟨rfl,rfl,rfl⟩<;>exact J6P w p c u _ _ b i f g
theorem J6L (w:World)(base k:Nat)(f:k < 5)(q:Option Addr)(d:Nat)(i:Ml w base (.slice q (exW k).length d) (exW k)):
  Calls Tryz.prog 37 #[.slice q (exW k).length d,.string ⟨#[32]⟩] w (Ret w fun r _=>r = .string ⟨(exJ k).toArray⟩):=by
 have n:=J3i k f;obtain⟨l,o,x,rfl,-,-⟩:=SlL.at1 (enc:=encS) Td i.read rfl (k:=0) n.2;have b:∀ (j:Nat) (y:List UInt8),(exW k)[j]?=some y→w.cell? ⟨l,o+j,none⟩=some (.string ⟨y.toArray⟩):=fun j y c=>by
  obtain⟨A,D,z,e,v,b⟩:=SlL.at1 (enc:=encS) Td i.read rfl (k:=j) (List.getElem?_eq_some_iff.1 c).1
  cases e
  obtain rfl:y=z:=Option.some.inj (c.symm.trans v);exact b _ rfl w (Gr.refl w)
 obtain⟨p',c',e,B,C⟩:=i.read.parts
 cases e
 have u:=World.block_lt_of_cell? (w:=w) _ (b 0 _ (List.getElem?_eq_getElem n.2));have t:((exW k).map fun s=>(⟨s.toArray⟩:ByteArray)).length=(exW k).length:=by simp
 have m:(((exW k).map fun s=>(⟨s.toArray⟩:ByteArray)).map (·.data.toList))=exW k:=by
  rw[List.map_map];exact(List.map_congr_left fun a _=>by show a.toArray.toList=id a;simp).trans (List.map_id _)
 have h:=Tryz.strings_Join l o d ((exW k).map fun s=>(⟨s.toArray⟩:ByteArray)) ⟨#[32]⟩ w (fun j x p=>by
  rw[List.getElem?_map] at p;obtain⟨y,c,rfl⟩:=Option.map_eq_some_iff.1 p;exact b j y c) u (by omega) (by omega) (by rw[m];show(Lib.join (exW k) [32]).length≤_;rw[X4 k f];have:=Rc k;omega)
 rw[t,m] at h;refine h.mono ?_;rintro _ w' ⟨rfl,g⟩;refine⟨_,rfl,g,?_⟩;show Value.string ⟨(Lib.join (exW k) [32]).toArray⟩=_;rw[X4 k f]
theorem J1h (a b:List UInt8):(⟨a.toArray⟩:ByteArray) ++ ⟨b.toArray⟩=⟨(a ++ b).toArray⟩:=by
 apply ByteArray.ext;simp
theorem J1A (w:World)(p:Option Addr)(c:Nat)(h:ExL w (.slice p 5 c) 5)(z:Tab w):
  Calls Tryz.prog 19 #[.slice p 5 c] w (Ret w fun r _=>r = .string ⟨exText.toArray⟩):=by
 obtain⟨j,F⟩:=Z2 h z;clear h z;go_enter Tryz.func19,Tryz.ntmps19;go_wp2_with fail;refine(J1r w p 5 c rfl j.o.nodes X2 (by decide)).mono ?_;rintro _ w1 ⟨_,rfl,g1,rfl⟩;have G:=Z g1;clear g1;obtain⟨T,m,n,t⟩:=j.o;obtain⟨j,H,I⟩:=Z3 m n t;clear m n t;go_wp2_with fail;go_loopw [5,19] (fun s i X=>∃ (k:Nat) (g:World),g=X∧i = .int .i64 (k:Int)∧k≤5∧Gr w g∧s = .string ⟨(exTx k).toArray⟩) (fun _ i _=>5 - (RowKit.intOf i).toNat)
 case atStart=>exact⟨0,_,rfl,rfl,by omega,G.o,rfl⟩
 case round=>
  obtain⟨k,g,rfl,rfl,hk,u,rfl⟩:=hrel;have G:=Z u;clear u;by_cases v:k < 5
  ·obtain⟨b,o,x,rfl,A,f⟩:=SlL.at N0 j.o H.o v;have D:=Z (I.o k x A);have c0:=f 0 _ rfl _ G.o;have K:=f 1 _ rfl _ G.o;have c2:=f 2 _ rfl _ G.o;have c3:=f 3 _ rfl _ G.o;have c4:=f 4 _ rfl _ G.o;have c5:=f 5 _ rfl _ G.o;have L:=f 6 _ rfl _ G.o;have M:=f 7 _ rfl _ G.o;rw[Nat.add_zero] at c0;have a:=Z (Ja.new g (nodeA x) 47);have N:=a.o.2.at 0 rfl;have O:=a.o.2.at 1 rfl;have P:=a.o.2.at 2 rfl;have Q:=a.o.2.at 3 rfl;have R:=a.o.2.at 4 rfl;have S:=a.o.2.at 5 rfl;have U:=a.o.2.at 6 rfl;have V:=a.o.2.at 7 rfl;clear A f;go_wp2_with fail;clear c0 K c2 c3 c4 c5 L M N O P Q R S U V;generalize g.alloc _=J at a ⊢;have l:=Z (G.o.trans a.o.1);refine(J6O J k x (D.o.grow l.o) (F.o.grow l.o)).mono ?_;rintro _ W ⟨_,rfl,g3,q,d,rfl,y⟩;obtain⟨B,E⟩:=Z2 (l.o.trans g3) y;clear g3 y;go_wp2_with fail;refine(J6L W _ k v q d E.o).mono ?_;rintro _ w4 ⟨_,rfl,g4,rfl⟩;have C:=Z (B.o.trans g4);clear g4;have Y:=X3 k;have h2:=Rc k;have a2:¬ 9223372036854775807 < (exJ k).length+1:=by omega
   have a3:¬ 9223372036854775807 < (exTx k).length+((exJ k).length+1):=by omega
   have a0:(⟨(exJ k).toArray⟩:ByteArray) ++ ⟨#[10]⟩=⟨(exJ k ++ [10]).toArray⟩:=J1h _ [10];have a1:(⟨(exTx k).toArray⟩:ByteArray) ++ ⟨(exJ k ++ [10]).toArray⟩=⟨(exTx (k+1)).toArray⟩:=J1h _ _;go_wp2_with fail;exact⟨⟨k+1,_,rfl,by go_num,by omega,C.o,rfl⟩,by simp[RowKit.intOf];omega⟩
  ·obtain rfl:k=5:=by omega
   go_wp2_with fail;go_ret;exact⟨_,rfl,G.o,by first|rfl|(rw[J3h];rfl)|simp⟩
end Prf
end Go.Proofs.YtcjgimlcefhhmaaGreatDoor

/- Texts: PyG PyH. -/
import Derived.Test.YtcjgimlcefhhmaaGreatDoorC34
import Derived.Test.YtcjgimlcefhhmaaGreatDoorC41
set_option linter.unusedVariables false
set_option linter.unusedSimpArgs false
set_option maxRecDepth 100000
set_option maxHeartbeats 12800000
namespace Go.Proofs.YtcjgimlcefhhmaaGreatDoor
namespace Prf
open Go.RowKit Go.Lib
attribute [local go_sem] Oper.semAt_some
theorem J57 (w:World)(s t:ByteArray):
  Calls Tryz.prog 59 #[.string s,.string t,.int .i64 0] w fun e w'=>e = .returned (.func (.func 111) #[] #[.pointer (some ⟨w.heap.size+1,0,none⟩),.pointer (some ⟨w.heap.size,0,none⟩),.pointer (some ⟨w.heap.size+1+1,0,none⟩)])∧
   w'=((w.alloc (.cells #[.string s] 9)).alloc (.cells #[.string t] 9)).alloc (.cells #[.int .i64 0] 3):=by
 go_enter Tryz.func59,Tryz.ntmps59;go_wp2_with fail;go_ret;first|exact⟨rfl,rfl⟩|trivial
theorem J56 (w:World)(s t:ByteArray):
  Calls Tryz.prog 32 #[.string s,.string t] w fun e w'=>e = .returned (.func (.func 111) #[] #[.pointer (some ⟨w.heap.size+1,0,none⟩),.pointer (some ⟨w.heap.size,0,none⟩),.pointer (some ⟨w.heap.size+1+1,0,none⟩)])∧
   w'=((w.alloc (.cells #[.string s] 9)).alloc (.cells #[.string t] 9)).alloc (.cells #[.int .i64 0] 3):=by
 go_enter Tryz.func32,Tryz.ntmps32;go_wp2_with fail;refine(J57 w s t).mono ?_;rintro _ a ⟨rfl,h⟩;have H:=Z h;clear h;go_wp2_with fail;go_ret;exact⟨rfl,H.o⟩
theorem J6r:Lib.trimSuffix exText [10]=exRm 0:=by decide
theorem J3a {a:List (List UInt8)}{x:List UInt8}(h:a ++ [x] <+: exAll):a.length < 5∧x=exJ a.length:=by
 obtain⟨t,c⟩:=h;have g:=congrArg List.length c;simp[exAll] at g;have b:a.length < 5:=by omega
 refine⟨b,?_⟩;have d:(exAll)[a.length]?=some x:=by rw[← c];simp
 obtain⟨k,f⟩:∃ k,a.length=k:=⟨_,rfl⟩
 rw[f] at d b ⊢
 match k,b with
 | 0,_|1,_|2,_|3,_|4,_=>simpa[exAll] using d.symm
structure PsI (w W:World)(b2 b3 bo n0 k:Nat):Prop where
 g:Gr w W
 c2:Ja W b2 #[.slice none 0 0]
 c3:Ja W b3 #[.int .i64 0]
 n:n0≤W.heap.size
 o:∃ p c T,Ja W bo #[.slice p k c]∧T.length=k∧ExO W n0 (.slice p k c) T
theorem PsI.kept {w W s:World}{j l m d a k:Nat}{row:Option Nat}(h:PsI w W j l m a k)(x:w.heap.size≤d∧d < a∧j < a∧l < a∧m < a∧j≠d∧l≠d∧m≠d∧w.heap.size≤a)(f:W.grownBy s row)
  (n:∀ r,row=some r→(r=d∧NoU W d)∨(a≤r∧∃ o:Obj,W.heap[r]?=some o∧o.isCells=false)):PsI w s j l m a k:=by
 have q:∀ b,b < a→b≠d→some b≠row:=fun b t u e=>by
  rcases n b e.symm with⟨g,_⟩|⟨g,_⟩<;>omega
 obtain⟨p,c,T,t,u,g⟩:=h.o;refine⟨Below.grown h.g f h.g.size (fun r e=>?_),h.c2.grown f (q _ (by omega) (by omega)),h.c3.grown f (q _ (by omega) (by omega)),Nat.le_trans h.n f.size,p,c,T,t.grown f (q _ (by omega) (by omega)),u,g.kept f (fun r e=>?_) (fun r e=>?_)⟩
 ·rcases n r e with⟨g,_⟩|⟨g,_⟩<;>omega
 ·rcases n r e with⟨rfl,i⟩|⟨_,o,i,v⟩
  ·exact i.d
  ·exact NoD.obj i v
 ·rcases n r e with⟨rfl,_⟩|⟨_,i⟩
  ·exact .inl (by omega)
  ·exact .inr i
def Vu (m:Int):Prop:=∀ (w:World) (k:Nat),k < 5→w.cell? ⟨2,0,none⟩=some (.int .i64 m)→
 Calls Tryz.prog 34 #[.string ⟨(exJ k).toArray⟩] w (Ret w fun r w'=>∃ x,r = .tuple #[.agg (nodeA x),.bool true]∧ExX w' k x∧∀ a,x.mp=some a→w.heap.size≤a.block)
structure PgSt (w W:World)(b2 b3 bo bs bp bv:Nat):Prop where
 g:Gr w W
 c2:Ja W b2 #[.slice none 0 0]
 c3:Ja W b3 #[.int .i64 0]
 co:Ja W bo #[.slice none 0 0]
 sq:P2 W bs bp bv 0
 ne:w.heap.size=b2∧b2+1=b3∧b3+1=bo∧bo+1=bs∧bs+1=bp∧bp+1=bv∧bv+1=W.heap.size
theorem J59 (w:World)(t2 t3 a n:TypeId):
  PgSt w ((((((w.alloc (.cells #[.slice none 0 0] t2)).alloc (.cells #[.int .i64 0] t3)).alloc (.cells #[.slice none 0 0] t2)).alloc (.cells #[.string ⟨(exRm 0).toArray⟩] a)).alloc (.cells #[.string ⟨#[10]⟩] a)).alloc (.cells #[.int .i64 0] n))
   w.heap.size (w.heap.size+1) (w.heap.size+1+1) (w.heap.size+1+1+1) (w.heap.size+1+1+1+1) (w.heap.size+1+1+1+1+1):=by
 have i:=Ja.new w #[.slice none 0 0] t2;obtain⟨c,r⟩:∃ z,w.alloc (.cells #[.slice none 0 0] t2)=z:=⟨_,rfl⟩
 have y:c.heap.size=w.heap.size+1:=by rw[← r];simp
 rw[r] at i ⊢;have j:=Ja.new c #[.int .i64 0] t3;obtain⟨d,s⟩:∃ z,c.alloc (.cells #[.int .i64 0] t3)=z:=⟨_,rfl⟩
 have A:d.heap.size=c.heap.size+1:=by rw[← s];simp
 rw[s] at j ⊢;have k:=Ja.new d #[.slice none 0 0] t2;obtain⟨f,t⟩:∃ z,d.alloc (.cells #[.slice none 0 0] t2)=z:=⟨_,rfl⟩
 have B:f.heap.size=d.heap.size+1:=by rw[← t];simp
 rw[t] at k ⊢;have l:=Ja.new f #[.string ⟨(exRm 0).toArray⟩] a;obtain⟨g,u⟩:∃ z,f.alloc (.cells #[.string ⟨(exRm 0).toArray⟩] a)=z:=⟨_,rfl⟩
 have C:g.heap.size=f.heap.size+1:=by rw[← u];simp
 rw[u] at l ⊢;have m:=Ja.new g #[.string ⟨#[10]⟩] a;obtain⟨h,v⟩:∃ z,g.alloc (.cells #[.string ⟨#[10]⟩] a)=z:=⟨_,rfl⟩
 have D:h.heap.size=g.heap.size+1:=by rw[← v];simp
 rw[v] at m ⊢;have b:=Ja.new h #[.int .i64 0] n;obtain⟨F,x⟩:∃ z,h.alloc (.cells #[.int .i64 0] n)=z:=⟨_,rfl⟩
 have E:F.heap.size=h.heap.size+1:=by rw[← x];simp
 rw[x] at b ⊢;rw[← y,← A,← B,← C,← D];have q:=m.1.trans b.1;have p:=l.1.trans q;have o:=k.1.trans p;have g15:=j.1.trans o;exact⟨i.1.trans g15,i.2.grow g15,j.2.grow o,k.2.grow p,⟨l.2.grow q,m.2.grow b.1,b.2⟩,rfl,y.symm,A.symm,B.symm,C.symm,D.symm,E.symm⟩
theorem J54 (w:World)(m:Int)(b6:Vu m)(hm:w.cell? ⟨2,0,none⟩=some (.int .i64 m))(c1:Tab w):
  Calls Tryz.prog 17 #[.string ⟨exText.toArray⟩] w (Ret w fun r w'=>∃ p c,r = .tuple #[.slice p 5 c,.int .i64 0]∧ExL w' (.slice p 5 c) 5):=by
 obtain⟨c6,HM,HT⟩:=Z3 b6 hm c1;clear b6 hm c1;refine(callsIn_wide (n:=0)).1 (callsIn_of_wp_marks Tryz.func17 rfl trivial ?_ rfl);simp only[Tryz.ntmps17,List.size_toArray,List.length_cons,List.length_nil,Nat.reduceAdd,Nat.reduceSub,Array.replicate_succ,Array.replicate_zero,List.push_toArray,List.append_toArray,List.nil_append,List.cons_append];refine(wpIn_wide (n:=0)).2 ?_;go_wp2_with fail;refine(Tryz.strings_TrimSuffix ⟨exText.toArray⟩ ⟨#[10]⟩ _ (by decide)).mono ?_;rintro _ w1 ⟨rfl,rfl⟩;rw[show Lib.trimSuffix (⟨exText.toArray⟩:ByteArray).data.toList (⟨#[10]⟩:ByteArray).data.toList=exRm 0 from by rw[← J6r]];go_wp2_with fail;refine(J56 _ ⟨(exRm 0).toArray⟩ ⟨#[10]⟩).mono ?_;rintro _ w1 ⟨rfl,rfl⟩;have f:=Z (J59 w 26 29 9 3);go_wp2_with fail;generalize w.heap.size+1+1+1+1+1=bv at f ⊢;generalize w.heap.size+1+1+1+1=bp at f ⊢;generalize w.heap.size+1+1+1=S at f ⊢;generalize w.heap.size+1+1=i at f ⊢;generalize w.heap.size+1=y at f ⊢;generalize d8:w.heap.size=u at f ⊢;generalize (((((w.alloc _).alloc _).alloc _).alloc _).alloc _).alloc _=W at f ⊢;have E:=Z f.o.ne;clear d8;refine Rgf.J70 (gf:=111) (lb:=#[.pointer (some ⟨bp,0,none⟩),.pointer (some ⟨S,0,none⟩),.pointer (some ⟨bv,0,none⟩)]) rfl (enters_of Tryz.func111 (by kernel_rfl) rfl) (encs:=fun x => #[.string ⟨x.toArray⟩]) (fun _=>rfl) S i (fun W=>NoU W S) f.o.sq.s.lt f.o.co.lt exAll ?seq (fun O W'=>PsI w W' u y i W.heap.size O.length) ?hI ?h0 ?a1 ?assign ?body ?done
 case seq=>
  intro l J q hW hJ e0 hY;have h:=J3R W.heap.size i S bp bv l (by have:=E.o;omega) J q hJ ⟨f.o.sq.s.grow hW,f.o.sq.p.grow hW,f.o.sq.v.grow hW⟩ e0 hY;exact h
 case hI=>
  intro O q W2 row h hg hr;exact h.kept (by have:=E.o;omega) hg hr
 case h0=>exact⟨f.o.g,f.o.c2,f.o.c3,Nat.le_refl _,none,0,[],f.o.co,rfl,⟨O9.nil _ _,fun k x h=>by simp at h⟩⟩
 case assign=>
  intro l x q K U
  gi_wp2
  exact U
 case body=>
  intro l O x q b8 hI;obtain⟨I,rfl⟩:=J3a b8;obtain⟨d,HK⟩:=Z2 hI I;clear b8 hI I;obtain⟨k,I⟩:∃ k,O.length=k:=⟨_,rfl⟩
  rw[I] at d HK;have a8:=Z (show(O ++ [exJ O.length]).length=k+1 from by simp[I]);rw[I] at a8;rw[I]
  gi_wp2
  refine⟨trivial,rfl,?_⟩;refine(CallsIn.inRound l (callsIn_wide.2 (c6.o q k HK.o (d.o.g.cell HM.o)))).mono ?_;rintro _ L ⟨_,rfl,g,x,rfl,hx,c3⟩;obtain⟨p,c,T,N,F,A⟩:=d.o.o;have b7:∀ a:Addr,x.mp=some a→W.heap.size≤a.block∧(Value.slice p k c).ownBlock≠some a.block:=fun a ha=>by
   have h1:=c3 a ha;have h2:=d.o.n;refine⟨by omega,fun e=>?_⟩;have:=(World.ownsRow.lt A.own.1 _ e).2;omega
  have s:=Ja.new L (nodeA x) 47;obtain⟨W3,V⟩:∃ z,L.alloc (.cells (nodeA x) 47)=z:=⟨_,rfl⟩
  rw[V] at s;have P:=SlL.new (enc:=encNode) W3 47 N0 [x] (nodeA x) 1 rfl rfl (by decide);obtain⟨W4,X⟩:∃ z,W3.alloc (.cells (nodeA x) 47)=z:=⟨_,rfl⟩
  rw[X] at P;have a0:=g.trans s.1;have v:=a0.trans P.1;obtain⟨v',B,b9,a3,G⟩:=ExO.push (vx:=.slice (some ⟨W3.heap.size,0,none⟩) 1 1) 26 (A.grow v) (by rw[F];exact(hx.grow s.1).grow P.1) b7 P.2 (by have:=HK.o;omega) (Nat.le_trans d.o.n v.size);obtain⟨p',c',c2,-,-⟩:=a3.own.1.read.parts;rw[List.length_append,F] at c2;subst c2;have b4:(Value.slice p k c).ownBlock≠some i:=fun e=>by
   have:=(World.ownsRow.lt A.own.1 _ e).1;have:=E.o;omega
  have C3:=N.grow a0;have Q:=(N.grow v).grown G (fun e=>b4 e.symm);have c0:=C3.at 0 rfl;have c5:=Q.at 0 rfl;have f5:=Ja.f Q 0;have d0:=s.2.at 0 rfl;have d1:=s.2.at 1 rfl;have d2:=s.2.at 2 rfl;have R:=s.2.at 3 rfl;have d4:=s.2.at 4 rfl;have d5:=s.2.at 5 rfl;have d6:=s.2.at 6 rfl;have d7:=s.2.at 7 rfl;have a6:∀ r,(Value.slice p k c).ownBlock=some r→W.heap.size≤r:=fun r e=>(World.ownsRow.lt A.own.1 r e).1;have hu:=J5 B i 0 (.slice p' (k+1) c');have a9:=Q.set 0 (.slice p' (k+1) c');have b0:ExO (B.setCell ⟨i,0,none⟩ (.slice p' (k+1) c')) W.heap.size (.slice p' (k+1) c') (T ++ [x]):=a3.kept (Jp.set i B 0 _) (fun r e=>by cases e;exact(NoU.of Q (by simp)).d) (fun r e=>by cases e;exact .inl (by have:=E.o;omega));have Y:∀ b,b < W.heap.size→some b≠(Value.slice p k c).ownBlock:=fun b hb e=>by have:=a6 b e.symm;omega
  have H:=Z (show KeepsOthers q (B.setCell ⟨i,0,none⟩ (.slice p' (k+1) c'))∧(∀ b,b < W.heap.size→b≠i→(B.setCell ⟨i,0,none⟩ (.slice p' (k+1) c')).heap[b]?=q.heap[b]?)∧PsI w (B.setCell ⟨i,0,none⟩ (.slice p' (k+1) c')) u y i W.heap.size (k+1) from by
   have n:=E.o;have e3:=d.o.n;have e7:=G.size;have e4:=v.size;refine⟨?_,fun b hb d9=>?_,?_⟩
   ·refine KeepsOthers.trans (KeepsOthers.trans (KeepsOthers.of_grownBy (Ye v) (fun j o e=>by cases e)) (KeepsOthers.of_grownBy G (fun j o e ho=>?_))) (KeepsOthers.setCell _ _ _);obtain⟨a,t,h1,_⟩:=(A.grow v).own.2 j e;rw[ho] at h1
    cases h1
    rfl
   ·rw[hu b d9,G.block b (by omega) (Y b hb),Below.block v b (by omega)]
   ·refine⟨Gr.set (Below.grown (d.o.g.trans v) G (d.o.g.trans v).size (fun r e=>by have:=a6 r e;omega)) (by omega) _,?_,?_,?_,p',c',T ++ [x],by simpa using a9,by simp[F],b0⟩
    ·exact((d.o.c2.grow v).grown G (Y u (by omega))).upd hu (by omega)
    ·exact((d.o.c3.grow v).grown G (Y y (by omega))).upd hu (by omega)
    ·show W.heap.size≤(B.setCell _ _).heap.size;have:(B.setCell ⟨i,0,none⟩ (.slice p' (k+1) c')).heap.size=B.heap.size:=by simp[World.setCell]
     omega)
  clear g hx c3 N F A b7 s P a0 v a3 G b4 C3 Q a6 hu a9 b0 Y;obtain⟨kd,mp,mn,mc,e9,e8,ck,cp,cn,cc,row,vp,vn,f0⟩:=x;unfold nodeA at V X;dsimp only at V X d0 d1 d2 R d4 d5 d6 d7
  gi_wp2_with (gi_at_builtin;refine Hold.hold ?_)
  clear d0 d1 d2 R d4 d5 d6 d7 c0 V X;refine Hold.go ?_;refine J6T rfl _ _ _ rfl _ _ _ B rfl rfl b9 ?_;clear b9
  gi_wp2
  have h:=H.o;refine⟨h.1,h.2.1,?_⟩;first|exact h.2.2|(rw[a8.o];exact h.2.2)
 case done=>
  intro D q hD hI U;obtain⟨d,HD,c4⟩:=Z3 hI U hD;clear hI U hD;obtain⟨p,c,T,N,F,A⟩:=d.o.o;obtain⟨HL,a7,c7,c8⟩:=Z4 (show ExL q (.slice p 5 c) 5 from A.list F) (show Ja q i #[.slice p 5 c] from N) (show ExO q W.heap.size (.slice p 5 c) T from A) (show T.length=5 from F);have c0:=a7.o.at 0 rfl;clear N F A;go_wp2_with fail;clear c0;refine(J1A q p c HL.o (HT.o.grow d.o.g)).mono ?_;rintro _ L ⟨_,rfl,g,rfl⟩;have c0:=(a7.o.grow g).at 0 rfl;have t2:=(d.o.c2.grow g).at 0 rfl;have f2:=Ja.f (d.o.c2.grow g) 0;have b5:¬ u=y:=by have:=E.o;omega
  have a5:¬ y=u:=by have:=E.o;omega
  obtain⟨M,a4⟩:∃ z,L.setCell ⟨u,0,none⟩ (.slice p 5 c)=z:=⟨_,rfl⟩
  have a2:Ja M y #[.int .i64 0]:=by rw[← a4];exact(d.o.c3.grow g).upd (J5 L u 0 _) a5
  have t3:=a2.at 0 rfl;have f3:=Ja.f a2 0;obtain⟨C,b1⟩:∃ z,M.setCell ⟨y,0,none⟩ (.int .i64 0)=z:=⟨_,rfl⟩
  have hF:Gr w (C.putObj D (.deferred none))∧Ja (C.putObj D (.deferred none)) u #[.slice p 5 c]∧Ja (C.putObj D (.deferred none)) y #[.int .i64 0]∧C.heap[D]?=some (.deferred (some []))∧ExL (C.putObj D (.deferred none)) (.slice p 5 c) 5:=by
   have n:=E.o;have e2:=c4.o;have c9:D < q.heap.size:=(Array.getElem?_eq_some_iff.1 HD.o).1;have u5:=J5 L u 0 (.slice p 5 c);have o5:=Jp.set u L 0 (.slice p 5 c);have e5:=(d.o.c2.grow g).set 0 (.slice p 5 c);rw[a4] at u5 o5 e5;have u6:=J5 M y 0 (.int .i64 0);have o6:=Jp.set y M 0 (.int .i64 0);have R:=(d.o.c3.grow g).upd u5 a5;have e6:=R.set 0 (.int .i64 0);rw[b1] at u6 o6 e6;have k2:Ja C u #[.slice p 5 c]:=(show Ja M u #[.slice p 5 c] from by simpa using e5).upd u6 b5;have k3:Ja C y #[.int .i64 0]:=by simpa using e6
   have e1:M.heap[D]?=some (.deferred (some [])):=by rw[u5 D (by omega),Below.block g D c9];exact HD.o
   have kD:C.heap[D]?=some (.deferred (some [])):=by rw[u6 D (by omega)];exact e1
   have op:=grownBy_putObj' C D (.deferred none);have o1:=ExO.kept (c7.o.grow g) o5 (fun r e=>by cases e;exact(NoU.of (d.o.c2.grow g) (by simp)).d) (fun r e=>by cases e;exact .inl (by omega));have o2:=ExO.kept o1 o6 (fun r e=>by cases e;exact(NoU.of R (by simp)).d) (fun r e=>by cases e;exact .inl (by omega));have o3:=ExO.kept o2 op (fun r e=>by cases e;exact NoD.obj kD rfl) (fun r e=>by cases e;exact .inr ⟨_,kD,rfl⟩);have q1:=Below.grown (d.o.g.trans g) o5 (d.o.g.trans g).size (fun r e=>by cases e;omega);have q2:=Below.grown q1 o6 q1.size (fun r e=>by cases e;omega);have q3:=Below.grown q2 op q2.size (fun r e=>by cases e;omega);exact⟨q3,k2.grown op (fun e=>by cases e;omega),k3.grown op (fun e=>by cases e;omega),kD,o3.list c8.o⟩
  have H:=Z hF;clear g hF a2;go_wp2_with fail;clear a4 b1 b5 a5 c0 t2 t3 f2 f3;refine⟨by simp,.inl ⟨_,_,rfl,run_takeDeferred H.o.2.2.2.1,?_⟩⟩;have z2:=H.o.2.1.at 0 rfl;have z3:=H.o.2.2.1.at 0 rfl;refine⟨_,by simp[results,Tryz.results17,go_sem,z2,z3];rfl,?_⟩;exact⟨_,rfl,H.o.1,p,c,rfl,H.o.2.2.2.2⟩
theorem J55 (m:Int):Vu m:=by
 intro w k n j;have b:=fun(w':World) (g:Gr w w')=>J58 w' k n m (g.cell j)
 match k,n,b with
 | 0,_,b=>
  refine(J0h w (exJ 0) [48] 0 (by decide +kernel) (by decide) b).mono ?_;rintro _ l ⟨_,rfl,g,rfl⟩;exact⟨_,rfl,g,_,rfl,.inl ⟨rfl,rfl⟩,fun a h=>by cases h⟩
 | 1,_,b=>
  refine(J0h w (exJ 1) [49] 1 (by decide +kernel) (by decide) b).mono ?_;rintro _ l ⟨_,rfl,g,rfl⟩;exact⟨_,rfl,g,_,rfl,.inr (.inl ⟨rfl,rfl⟩),fun a h=>by cases h⟩
 | 2,_,b=>
  refine(Ul w (exJ 2) [49] 1 (.inl ⟨rfl,rfl⟩) m j b).mono ?_;rintro _ l ⟨_,rfl,g,p,c,u,rfl,i,d,f⟩;exact⟨_,rfl,g,_,rfl,.inr (.inr ⟨_,_,p,c,u,.inl ⟨rfl,rfl,rfl⟩,.inl ⟨rfl,rfl⟩,rfl,d,f⟩),i⟩
 | 3,_,b=>
  refine(Ul w (exJ 3) [45,49] (-1) (.inr ⟨rfl,rfl⟩) m j b).mono ?_;rintro _ l ⟨_,rfl,g,p,c,u,rfl,i,d,f⟩;exact⟨_,rfl,g,_,rfl,.inr (.inr ⟨_,_,p,c,u,.inr (.inl ⟨rfl,rfl,rfl⟩),.inr ⟨rfl,rfl⟩,rfl,d,f⟩),i⟩
 | 4,_,b=>
  refine(Ul w (exJ 4) [45,49] (-1) (.inr ⟨rfl,rfl⟩) m j b).mono ?_;rintro _ l ⟨_,rfl,g,p,c,u,rfl,i,d,f⟩;exact⟨_,rfl,g,_,rfl,.inr (.inr ⟨_,_,p,c,u,.inr (.inr ⟨rfl,rfl,rfl⟩),.inr ⟨rfl,rfl⟩,rfl,d,f⟩),i⟩
end Prf
end Go.Proofs.YtcjgimlcefhhmaaGreatDoor
namespace Go.Proofs.YtcjgimlcefhhmaaGreatDoor
namespace Prf
open Go.RowKit Go.Lib
theorem SlL.take {α:Type}{enc:α→List Value}{sz:Nat}{w:World}{p:Option Addr}{n c:Nat}{l:List α}(m:∀ x,(enc x).length=sz)(h:SlL w sz enc (.slice p n c) l)(y:l.length=n)(k:Nat)(v:k≤n):SlL w sz enc (.slice p k c) (l.take k):=by
 unfold SlL at h ⊢;have d:(l.take k).length=k:=by rw[List.length_take];omega
 obtain⟨s,p',c',r,t,g,a⟩:=h
 cases r
 rw[d];refine⟨by rw[K4 m,d],p,c,rfl,by omega,g,?_⟩;rcases a with a|⟨b,o,q,i⟩
 ·exact .inl a
 ·refine .inr ⟨b,o,q,fun j u f=>i j u ?_⟩;have e:l.flatMap enc=(l.take k).flatMap enc ++ (l.drop k).flatMap enc:=by rw[← List.flatMap_append,List.take_append_drop]
  rw[e,List.getElem?_append_left (by have:=(List.getElem?_eq_some_iff.1 f).1;exact this)];exact f
theorem J1.take {w:World}{q:Option Addr}{n c L:Nat}{N:List Jk}(h:J1 w (.slice q n c) N L)(k:Nat)(l:k≤n):J1 w (.slice q k c) (N.take k) L:=by
 obtain⟨T,d,f,g⟩:=h;have m:T.length=n:=by
  obtain⟨p',c',e,_⟩:=d.parts
  cases e;rfl
 refine⟨T.take k,SlL.take N0 d m k l,by rw[List.length_take,List.length_take,f],fun i s y a b=>?_⟩;rw[List.getElem?_take] at a b
 split at a
 ·rename_i j;rw[if_pos j] at b;exact g i s y a b
 ·cases a
theorem Tf:PrgI exP:=by
 refine⟨fun v b=>?_,fun r a=>?_⟩
 ·simp[exP] at b;subst b;unfold VarI I64 exV;simp
 ·simp[exP] at a;subst a;unfold RowI exR exT Qy I64;simp
theorem Tg:∀ r ∈ exP.rows,r.name.length≤1000000:=fun r a=>by
 simp[exP] at a;subst a;simp[exR]
theorem J3W (w:World)(m:Int)(D:w.cell? ⟨2,0,none⟩=some (.int .i64 m))(G:Tab w):Calls Tryz.prog 7 #[] w (Ret w fun r _=>r = .bool true):=by
 obtain⟨L,x⟩:=Z2 D G;clear D G;go_enter Tryz.func7,Tryz.ntmps7;go_wp2_with fail;refine(J3X w).mono ?_;rintro _ s ⟨_,rfl,g1,E,a,c,b,d,rfl⟩;have B:=Ja.new s #[.slice a 2 c,.slice b 1 d] 25;have i:=Z (show Gr w _∧Ja _ s.heap.size #[.slice a 2 c,.slice b 1 d]∧Js _ (prgV a c b d exP) exP from⟨g1.trans B.1,B.2,E.grow B.1⟩);clear B E g1;have F:prgV a c b d exP = .agg #[.slice a 2 c,.slice b 1 d]:=rfl;rw[F] at i ⊢;clear F;go_wp2_with fail;generalize s.heap.size=y at i ⊢;generalize s.alloc _=W at i ⊢;refine(J54 W m (J55 m) (i.o.1.cell L.o) (x.o.grow i.o.1)).mono ?_;rintro _ U ⟨_,rfl,z,p,c',rfl,H⟩;obtain⟨j,I⟩:=Z2 H z;clear H z;go_wp2_with fail;refine(J1r U p 5 c' rfl j.o.nodes X2 (by decide)).mono ?_;rintro _ q ⟨_,rfl,g3,rfl⟩;obtain⟨o,j⟩:=Z2 (I.o.trans g3) (j.o.grow g3);clear g3;go_wp2_with fail;have Q:∀ w',Gr q w'→w'.cell? ⟨y,0,none⟩=some (.slice a 2 c):=fun w' g=>(i.o.2.1.grow (o.o.trans g)).at 0 rfl;have R:∀ w',Gr q w'→w'.cell? ⟨y,1,none⟩=some (.slice b 1 d):=fun w' g=>(i.o.2.1.grow (o.o.trans g)).at 1 rfl;have a2:(1:Int)≤5:=by decide
 have M:=Z (j.o.nodes.take 1 (by decide));have f:Gr q q.drew:=(Gr.refl _).drew;have a1:(1:Int)≤(c':Int):=by
  obtain⟨p5,c5,O,a0,_⟩:=j.o.nodes.parts;injection O with e6 e7 e8;have v:exN.length=5:=rfl;omega
 refine Jl [(0,true),(1,true),(2,true),(3,true),(4,true),(5,true),(6,true),(7,true),(8,true),(9,true),(10,true),(11,true),(12,true),(13,true),(14,true),(15,true),(16,true),(17,false),(18,true),(19,true),(20,true),(21,true),(22,true),(23,true),(24,false),(25,true),(26,true),(27,true),(28,true),(29,false),(30,true),(31,true),(32,true),(33,true),(34,true),(35,true),(36,false),(37,true),(38,true),(39,true)] ?_;generalize q.drew=N at f ⊢;repeat(refine Jc f (h:=?_))
 refine L7 (args:=?_) rfl rfl rfl rfl rfl rfl (by kernel_rfl) (by kernel_rfl) ?_ (fun K l=>?_);rotate_left
 ·go_simp;rfl
 refine(Vh N (.agg #[.slice a 2 c,.slice b 1 d]) exP exN p 5 c' rfl (i.o.2.2.grow (o.o.trans f)) (j.o.grow f).nodes Tf Tg (by decide) (by decide) Te).mono ?_;rintro _ V ⟨S,rfl,g4,C⟩;obtain rfl:S = .int .i64 0:=by
  rcases C with⟨h,_⟩|⟨_,_,h⟩|⟨_,h,_⟩
  ·exact absurd Th h
  ·exact h
  ·exact absurd Ti h
 clear C;refine⟨_,rfl,g4,?_⟩;go_simp;refine l _ _ ?_;clear l K;replace f:=f.trans g4;clear g4;repeat(refine Jc f (h:=?_))
 refine L7 (args:=?_) rfl rfl rfl rfl rfl rfl (by kernel_rfl) (by kernel_rfl) ?_ (fun K l=>?_);rotate_left
 ·go_simp;rfl
 refine(Vh V (.agg #[.slice a 2 c,.slice b 1 d]) exP (exN.take 1) p 1 c' rfl (i.o.2.2.grow (o.o.trans f)) (M.o.grow f) Tf Tg (by decide) (by decide) (fun n P=>Te n (List.mem_of_mem_take P))).mono ?_;rintro _ X ⟨T,rfl,t,v⟩;obtain rfl:T = .int .i64 13:=by
  rcases v with⟨h,_⟩|⟨_,h,_⟩|⟨_,_,h⟩
  ·exact absurd Th h
  ·exact absurd h J3j
  ·exact h
 clear v;refine⟨_,rfl,t,?_⟩;go_simp;refine l _ _ ?_;clear l K;replace f:=f.trans t;clear t;repeat(refine Jc f (h:=?_))
 refine L7 (args:=?_) rfl rfl rfl rfl rfl rfl (by kernel_rfl) (by kernel_rfl) ?_ (fun K l=>?_);rotate_left
 ·go_simp;rfl
 refine(J1A X p c' (j.o.grow f) (x.o.grow (i.o.1.trans (o.o.trans f)))).mono ?_;rintro _ Y ⟨_,rfl,u,rfl⟩;unfold exText;refine⟨_,rfl,u,?_⟩;go_simp;refine l _ _ ?_;clear l K;replace f:=f.trans u;clear u;repeat(refine Jc f (h:=?_))
 refine Je (k:=J6u Y (.agg #[.slice a 2 c,.slice b 1 d]) exP exN p 5 c' rfl (i.o.2.2.grow (o.o.trans f)) (j.o.grow f).nodes Tf Tg (by decide) (by decide) Te Th Ti) (h:=?_);rintro _ w7 A rfl;replace f:=f.trans A;clear A;repeat(refine Jc f (h:=?_))
 refine Jg ?_;have J:=Z (i.o.1.trans (o.o.trans f));clear Q R f;go_wp2_with fail;go_ret;exact⟨_,rfl,J.o,rfl⟩
end Prf
end Go.Proofs.YtcjgimlcefhhmaaGreatDoor

/- Texts: PsP. -/
import Derived.Test.YtcjgimlcefhhmaaGreatDoorC24
set_option linter.unusedVariables false
set_option linter.unusedSimpArgs false
set_option maxRecDepth 100000
set_option maxHeartbeats 12800000
namespace Go.Proofs.YtcjgimlcefhhmaaGreatDoor
namespace Prf
open Go.RowKit Go.Lib
def Qw (w0 w:World)(base:Nat)(q:Prg)(v:Value):Prop:=
 ∃ a c b d T,v = .agg #[.slice a q.vars.length c,.slice b q.rows.length d]∧OwnL w base 62 5 encVar (.slice a q.vars.length c) q.vars∧OwnL w base 42 5 encRow (.slice b q.rows.length d) T∧T.map RowM.s=q.rows∧∀ y ∈ T,L2 w0 y
theorem Qw.at {f w:World}{base:Nat}{q:Prg}{v:Value}(h:Qw f w base q v)(g:Gr f w):Js w v q:=by
 obtain⟨a,c,b,d,T,rfl,i,j,k,l⟩:=h;exact⟨a,c,b,d,rfl,i.read,T,j.read,k,fun y o=>SlL.grow (l y o) g⟩
def Oh (p:Prg)(j m:Int):Prop:=(0≤j∧j < (p.vars.length:Int))∧(-1099511627776≤m∧m < 1099511627776)
def J1X (p:Prg)(j m:Int)(w0:World)(r:Value)(w:World):Prop:=
 (Oh p j m∧∃ a b,r = .tuple #[a,b,.int .i64 0]∧Qw w0 w w0.heap.size (lowPart p j m) a∧Qw w0 w w0.heap.size (highPart p j m) b)∨
 (¬ Oh p j m∧∃ e:Int,e≠0∧r = .tuple #[.agg #[.slice none 0 0,.slice none 0 0],.agg #[.slice none 0 0,.slice none 0 0],.int .i64 e])
def splitNew:Nat→LateN.NewS:=fun _=>⟨25,#[.slice none 0 0,.slice none 0 0],fun b => .pointer (some ⟨b,0,none⟩)⟩
theorem OwnL.fill {α:Type}{enc:α→List Value}{sz:Nat}{e:TypeId}{w:World}{base b:Nat}{v:Value}{l:List α}(h:OwnL w base e sz enc v l)(a:v.ownBlock≠some b)(u0 u1:Value):OwnL ((w.setCell ⟨b,0,none⟩ u0).setCell ⟨b,1,none⟩ u1) base e sz enc v l:=(h.other a).other a
structure M3 (w W:World)(b6 b7 b9 b10 n m ga ca ga2 ca2:Nat)(pb:Option Addr)(cb:Nat)(pb2:Option Addr)(cb2:Nat)(A B:List VarM)(T T2:List RowM):Prop where
 g:Gr w W
 t6:Ja W b6 #[.slice none 0 0,.slice none 0 0]
 t7:Ja W b7 #[.slice none 0 0,.slice none 0 0]
 t9:Ja W b9 #[.slice (some ⟨ga,0,none⟩) n ca,.slice pb m cb]
 t10:Ja W b10 #[.slice (some ⟨ga2,0,none⟩) n ca2,.slice pb2 m cb2]
 oa:OwnL W w.heap.size 62 5 encVar (.slice (some ⟨ga,0,none⟩) n ca) A
 ob:OwnL W w.heap.size 42 5 encRow (.slice pb m cb) T
 oa2:OwnL W w.heap.size 62 5 encVar (.slice (some ⟨ga2,0,none⟩) n ca2) B
 ob2:OwnL W w.heap.size 42 5 encRow (.slice pb2 m cb2) T2
structure Sn (w:World)(b6 b7 b9 b10 ga ga2:Nat)(v v2:Value):Prop where
 a0:w.heap.size≤ga
 a6:b6≠ga
 a7:b7≠ga
 a9:b9≠ga
 a10:b10≠ga
 c0:w.heap.size≤ga2
 c6:b6≠ga2
 c7:b7≠ga2
 c9:b9≠ga2
 c10:b10≠ga2
 ac:ga≠ga2
 va:v.ownBlock≠some ga
 vc:v.ownBlock≠some ga2
 ua:v2.ownBlock≠some ga
 uc:v2.ownBlock≠some ga2
 v6:v.ownBlock≠some b6
 v7:v.ownBlock≠some b7
 u6:v2.ownBlock≠some b6
 u7:v2.ownBlock≠some b7
section
variable {w W W':World}{b6 b7 b9 b10 n m ga ca ga2 ca2:Nat}{pb:Option Addr}{cb:Nat}{pb2:Option Addr}{cb2:Nat}{A B:List VarM}{T T2:List RowM}
theorem M3.grow (h:M3 w W b6 b7 b9 b10 n m ga ca ga2 ca2 pb cb pb2 cb2 A B T T2)(g:Gr W W'):M3 w W' b6 b7 b9 b10 n m ga ca ga2 ca2 pb cb pb2 cb2 A B T T2:=
 ⟨h.g.trans g,h.t6.grow g,h.t7.grow g,h.t9.grow g,h.t10.grow g,h.oa.grow g,h.ob.grow g,h.oa2.grow g,h.ob2.grow g⟩
theorem M3.putA (h:M3 w W b6 b7 b9 b10 n m ga ca ga2 ca2 pb cb pb2 cb2 A B T T2)(k:Sn w b6 b7 b9 b10 ga ga2 (.slice pb m cb) (.slice pb2 m cb2)){i:Nat}{x:VarM}(y:VarM)(j:Nat)(u:Value)(c:A[i]?=some x)(b:j < 5)(d:encVar y=(encVar x).set j u):
  M3 w (W.setCell ⟨ga,i * 5+j,none⟩ u) b6 b7 b9 b10 n m ga ca ga2 ca2 pb cb pb2 cb2 (A.set i y) B T T2:=
 have e:=OwnL.putS K0 h.oa y j u c b d;have a:=J5 W ga (i * 5+j) u
 ⟨Gr.set h.g (by have:=k.a0;omega) _,h.t6.upd a k.a6,h.t7.upd a k.a7,h.t9.upd a k.a9,h.t10.upd a k.a10,e.2.2.2.2,h.ob.other k.va,h.oa2.other (fun e=>k.ac (Option.some.inj e).symm),h.ob2.other k.ua⟩
theorem M3.putB (h:M3 w W b6 b7 b9 b10 n m ga ca ga2 ca2 pb cb pb2 cb2 A B T T2)(k:Sn w b6 b7 b9 b10 ga ga2 (.slice pb m cb) (.slice pb2 m cb2)){i:Nat}{x:VarM}(y:VarM)(j:Nat)(u:Value)(c:B[i]?=some x)(b:j < 5)(d:encVar y=(encVar x).set j u):
  M3 w (W.setCell ⟨ga2,i * 5+j,none⟩ u) b6 b7 b9 b10 n m ga ca ga2 ca2 pb cb pb2 cb2 A (B.set i y) T T2:=
 have e:=OwnL.putS K0 h.oa2 y j u c b d;have a:=J5 W ga2 (i * 5+j) u
 ⟨Gr.set h.g (by have:=k.c0;omega) _,h.t6.upd a k.c6,h.t7.upd a k.c7,h.t9.upd a k.c9,h.t10.upd a k.c10,h.oa.other (fun e=>k.ac (Option.some.inj e)),h.ob.other k.vc,e.2.2.2.2,h.ob2.other k.uc⟩
end
theorem J16 {a:List VarM}{j:Nat}{x:VarM}{m:Int}(h:a[j]?=some x):setUp a (j:Int) m=a.set j { x with up:=min x.up m }:=by
 refine List.ext_getElem? fun i=>?_;rw[J15];by_cases e:i=j
 ·subst e;rw[h,List.getElem?_set_self (List.getElem?_eq_some_iff.1 h).1];simp
 ·rw[List.getElem?_set_ne (by omega)]
  cases a[i]? with
  | none=>rfl
  | some u=>simp;omega
theorem J12 {a:List VarM}{j:Nat}{x:VarM}{m:Int}(h:a[j]?=some x):setLo a (j:Int) m=a.set j { x with lo:=max x.lo m }:=by
 refine List.ext_getElem? fun i=>?_;rw[J11];by_cases e:i=j
 ·subst e;rw[h,List.getElem?_set_self (List.getElem?_eq_some_iff.1 h).1];simp
 ·rw[List.getElem?_set_ne (by omega)]
  cases a[i]? with
  | none=>rfl
  | some u=>simp;omega
theorem J0M (w:World)(v:Value)(p:Prg)(j m:Int)(hp:Js w v p)(hk:Jo p)(hw:Whole p)(hn:p.vars.length≤10)(hm:p.rows.length≤40):
  Calls Tryz.prog 102 #[v,.int .i64 j,.int .i64 m] w (Ret w (J1X p j m w)):=by
 obtain⟨HK,HW,HP⟩:=Z3 hk hw hp;clear hk hw;obtain⟨S,V,U,X,rfl,hv,hr⟩:=hp;have B0:=Ja.new w #[.slice S p.vars.length V,.slice U p.rows.length X] 25;have B1:=Ja.new (w.alloc (.cells #[.slice S p.vars.length V,.slice U p.rows.length X] 25)) #[.slice none 0 0,.slice none 0 0] 25;have B2:=Ja.new ((w.alloc (.cells #[.slice S p.vars.length V,.slice U p.rows.length X] 25)).alloc (.cells #[.slice none 0 0,.slice none 0 0] 25)) #[.slice none 0 0,.slice none 0 0] 25;simp only[World.size_alloc] at B1 B2;have HB:=Z (show Gr w _∧Ja _ w.heap.size #[.slice S p.vars.length V,.slice U p.rows.length X]∧Ja _ (w.heap.size+1) #[.slice none 0 0,.slice none 0 0]∧Ja _ (w.heap.size+1+1) #[.slice none 0 0,.slice none 0 0] from⟨B0.1.trans (B1.1.trans B2.1),B0.2.grow (B1.1.trans B2.1),B1.2.grow B2.1,B2.2⟩);clear hv hr B0 B1 B2;unfold prgV at HP ⊢;go_enter Tryz.func102,Tryz.ntmps102;go_wp2_with fail;generalize i6:w.heap.size+1+1=b7 at HB ⊢;generalize i5:w.heap.size+1=b6 at HB ⊢;generalize i7:w.heap.size=J at HB ⊢;generalize ((w.alloc _).alloc _).alloc _=W at HB ⊢;obtain⟨f,g2,G,TP,o,q⟩:=Z6 (show w.heap.size≤b6∧w.heap.size≤b7∧b7≠b6 from by omega) (show J≠b6∧J≠b7 from by omega) HB.o.1 HB.o.2.1 HB.o.2.2.1 HB.o.2.2.2;clear HB i6 i5 i7;refine(Uv W _ p (HP.o.grow G.o) HK.o.i HK.o.nl (by omega) (by omega)).mono ?_;rintro _ I ⟨r1,rfl,g1,R⟩;obtain⟨G,TP,o,q⟩:=Z4 (G.o.trans g1) (TP.o.grow g1) (o.o.grow g1) (q.o.grow g1);rcases R.cases with⟨rfl,k1⟩|⟨rfl,k1⟩;rotate_left
 ·exact absurd HK.o k1
 clear R k1 g1;have Q:=TP.o.at 0 rfl;by_cases h0:j < 0
 ·have H:=Z (show ¬ Oh p j m from fun h=>by have:=h.1;omega);have c0:=o.o.at 0 rfl;have c1:=o.o.at 1 rfl;have c2:=Ja.f o.o 0;have c3:=Ja.f o.o 1;have c4:=q.o.at 0 rfl;have c5:=q.o.at 1 rfl;have c6:=Ja.f q.o 0;have c7:=Ja.f q.o 1;have a:=fill2 (.slice none 0 0) (.slice none 0 0) o.o G.o f.o.1;have r:=fill2 (.slice none 0 0) (.slice none 0 0) (q.o.upd a.2.2 f.o.2.2) a.1 f.o.2.1;have l:=Z (show _∧_∧_ from⟨r.1,a.2.1.upd r.2.2 f.o.2.2.symm,r.2.1⟩);have b8:¬ b6=b7:=f.o.2.2.symm;have a8:¬ b7=b6:=f.o.2.2;clear a r;go_wp2_with fail;try rw[Exit.noGoto_ret]
  generalize (((I.setCell _ _).setCell _ _).setCell _ _).setCell _ _=W5 at l ⊢;clear c0 c1 c2 c3 c4 c5 c6 c7;have z0:=l.o.2.1.at 0 rfl;have z1:=l.o.2.1.at 1 rfl;have z2:=l.o.2.2.at 0 rfl;have z3:=l.o.2.2.at 1 rfl;refine bodyPost_ret (by simp[results,Tryz.results102,go_sem,z0,z1,z2,z3];rfl) rfl ?_;exact⟨_,rfl,l.o.1,.inr ⟨H.o,1,by decide,rfl⟩⟩
 by_cases R:(p.vars.length:Int)≤j
 ·have H:=Z (show ¬ Oh p j m from fun h=>by have:=h.1;omega);have c0:=o.o.at 0 rfl;have c1:=o.o.at 1 rfl;have c2:=Ja.f o.o 0;have c3:=Ja.f o.o 1;have c4:=q.o.at 0 rfl;have c5:=q.o.at 1 rfl;have c6:=Ja.f q.o 0;have c7:=Ja.f q.o 1;have a:=fill2 (.slice none 0 0) (.slice none 0 0) o.o G.o f.o.1;have r:=fill2 (.slice none 0 0) (.slice none 0 0) (q.o.upd a.2.2 f.o.2.2) a.1 f.o.2.1;have l:=Z (show _∧_∧_ from⟨r.1,a.2.1.upd r.2.2 f.o.2.2.symm,r.2.1⟩);have b8:¬ b6=b7:=f.o.2.2.symm;have a8:¬ b7=b6:=f.o.2.2;clear a r;go_wp2_with fail;try rw[Exit.noGoto_ret]
  generalize (((I.setCell _ _).setCell _ _).setCell _ _).setCell _ _=W5 at l ⊢;clear c0 c1 c2 c3 c4 c5 c6 c7;have z0:=l.o.2.1.at 0 rfl;have z1:=l.o.2.1.at 1 rfl;have z2:=l.o.2.2.at 0 rfl;have z3:=l.o.2.2.at 1 rfl;refine bodyPost_ret (by simp[results,Tryz.results102,go_sem,z0,z1,z2,z3];rfl) rfl ?_;exact⟨_,rfl,l.o.1,.inr ⟨H.o,1,by decide,rfl⟩⟩
 by_cases h2:m < -1099511627776
 ·have H:=Z (show ¬ Oh p j m from fun h=>by have:=h.2;omega);have c0:=o.o.at 0 rfl;have c1:=o.o.at 1 rfl;have c2:=Ja.f o.o 0;have c3:=Ja.f o.o 1;have c4:=q.o.at 0 rfl;have c5:=q.o.at 1 rfl;have c6:=Ja.f q.o 0;have c7:=Ja.f q.o 1;have a:=fill2 (.slice none 0 0) (.slice none 0 0) o.o G.o f.o.1;have r:=fill2 (.slice none 0 0) (.slice none 0 0) (q.o.upd a.2.2 f.o.2.2) a.1 f.o.2.1;have l:=Z (show _∧_∧_ from⟨r.1,a.2.1.upd r.2.2 f.o.2.2.symm,r.2.1⟩);have b8:¬ b6=b7:=f.o.2.2.symm;have a8:¬ b7=b6:=f.o.2.2;clear a r;go_wp2_with fail;try rw[Exit.noGoto_ret]
  generalize (((I.setCell _ _).setCell _ _).setCell _ _).setCell _ _=W5 at l ⊢;clear c0 c1 c2 c3 c4 c5 c6 c7;have z0:=l.o.2.1.at 0 rfl;have z1:=l.o.2.1.at 1 rfl;have z2:=l.o.2.2.at 0 rfl;have z3:=l.o.2.2.at 1 rfl;refine bodyPost_ret (by simp[results,Tryz.results102,go_sem,z0,z1,z2,z3];rfl) rfl ?_;exact⟨_,rfl,l.o.1,.inr ⟨H.o,1,by decide,rfl⟩⟩
 by_cases h3:1099511627776≤m
 ·have H:=Z (show ¬ Oh p j m from fun h=>by have:=h.2;omega);have c0:=o.o.at 0 rfl;have c1:=o.o.at 1 rfl;have c2:=Ja.f o.o 0;have c3:=Ja.f o.o 1;have c4:=q.o.at 0 rfl;have c5:=q.o.at 1 rfl;have c6:=Ja.f q.o 0;have c7:=Ja.f q.o 1;have a:=fill2 (.slice none 0 0) (.slice none 0 0) o.o G.o f.o.1;have r:=fill2 (.slice none 0 0) (.slice none 0 0) (q.o.upd a.2.2 f.o.2.2) a.1 f.o.2.1;have l:=Z (show _∧_∧_ from⟨r.1,a.2.1.upd r.2.2 f.o.2.2.symm,r.2.1⟩);have b8:¬ b6=b7:=f.o.2.2.symm;have a8:¬ b7=b6:=f.o.2.2;clear a r;go_wp2_with fail;try rw[Exit.noGoto_ret]
  generalize (((I.setCell _ _).setCell _ _).setCell _ _).setCell _ _=W5 at l ⊢;clear c0 c1 c2 c3 c4 c5 c6 c7;have z0:=l.o.2.1.at 0 rfl;have z1:=l.o.2.1.at 1 rfl;have z2:=l.o.2.2.at 0 rfl;have z3:=l.o.2.2.at 1 rfl;refine bodyPost_ret (by simp[results,Tryz.results102,go_sem,z0,z1,z2,z3];rfl) rfl ?_;exact⟨_,rfl,l.o.1,.inr ⟨H.o,1,by decide,rfl⟩⟩
 have d4:=Z (show Oh p j m from⟨⟨by omega,by omega⟩,by omega,by omega⟩);obtain⟨u,rfl⟩:∃ n:Nat,j=(n:Int):=⟨j.toNat,by omega⟩
 have i8:u < p.vars.length:=by omega
 have i3:¬ u < 0:=by omega
 have i4:¬ p.vars.length≤u:=by omega
 go_wp2_with fail;clear Q h0 R h2 h3 i3 i4;have t:=Z (show Gr w I.drew∧Ja I.drew J #[.slice S p.vars.length V,.slice U p.rows.length X]∧Ja I.drew b6 #[.slice none 0 0,.slice none 0 0]∧Ja I.drew b7 #[.slice none 0 0,.slice none 0 0] from
  ⟨G.o.trans (Gr.refl I).drew,TP.o.grow (Gr.refl I).drew,o.o.grow (Gr.refl I).drew,q.o.grow (Gr.refl I).drew⟩)
 clear G TP o q;have q0:∀ w',Ja w' J #[.slice S p.vars.length V,.slice U p.rows.length X]→w'.cell? ⟨J,0,none⟩=some (.slice S p.vars.length V):=fun w' h=>h.at 0 rfl;have q1:∀ w',Ja w' J #[.slice S p.vars.length V,.slice U p.rows.length X]→w'.cell? ⟨J,1,none⟩=some (.slice U p.rows.length X):=fun w' h=>h.at 1 rfl;have d3:Ja I.drew J #[.slice S p.vars.length V,.slice U p.rows.length X]:=t.o.2.1;refine LateN.Si (fun w'=>Ja w' J #[.slice S p.vars.length V,.slice U p.rows.length X]) d3 (fun _ _ h g=>h.grow g) splitNew 60 [0,2] [(1,0),(3,0),(4,2),(5,2),(6,0),(7,0)] (by kernel_rfl) (by kernel_rfl) rfl (by kernel_rfl) (fun _ _ d _ _ h=>by cases d<;>exact h) (fun _ _ d _ _ h=>by cases d<;>exact h) ?_;clear d3;have e9:I.heap.size=I.drew.heap.size:=rfl;rw[e9];clear e9;generalize I.drew=w2 at t ⊢;repeat(refine LateN.Sh (v:=?_) rfl rfl (fun w' r=>?_) (fun K b=>?_);rotate_left;(go_simp;rfl);go_simp;refine b _ ?_;clear b K)
 refine LateN.Sg ⟨fun i hi=>?_,?_⟩
 ·simp at hi;rcases hi with rfl|rfl<;>exact⟨_,rfl,rfl,fun w'=>by go_simp;exact⟨rfl,rfl⟩⟩
 clear q0 q1;refine LateN.Lt rfl rfl (fun K b O g3=>?_);go_simp;refine(J0N w O (t.o.1.trans g3) _ p HP.o (by omega) (by omega)).mono ?_;rintro _ w4 ⟨_,rfl,g4,pa,ca,pb,cb,T,rfl,ha,hb,hT,hR,e8⟩;refine⟨fun _=>g4,t.o.2.1.grow (g3.trans g4),b _ _ _ ?_⟩;clear b K;refine LateN.Lt rfl rfl (fun K b P g5=>?_);go_simp;refine(J0N w P (t.o.1.trans ((g3.trans g4).trans g5)) _ p HP.o (by omega) (by omega)).mono ?_;rintro _ w6 ⟨_,rfl,g6,k4,ca2,pb2,cb2,T2,rfl,b2,b3,e0,d9,a8⟩;refine⟨fun _=>g6,t.o.2.1.grow (((g3.trans g4).trans g5).trans g6),b _ _ _ ?_⟩;clear b K;refine LateN.Od rfl (fun K w7 b9 g7 f9 n9 b=>?_);unfold splitNew;go_simp;refine b _ _ ?_;clear b K;refine LateN.Od rfl (fun K w8 b10 g8 d7 c8 b=>?_);unfold splitNew;go_simp;refine b _ _ ?_;clear b K;obtain⟨ga,j9,j0,e4,e5,-,-⟩:=OwnL.made ha (by omega);injection j0 with e1 e2 e3;subst e1 e3;obtain⟨ga2,k0,j1,e6,e7,-,-⟩:=OwnL.made b2 (by omega);injection j1 with e1 e2 e3;subst e1 e3;have n9:¬ ((b9 < w2.heap.size∨(O.heap.size≤b9∧b9 < w4.heap.size))∨(P.heap.size≤b9∧b9 < w6.heap.size)):=n9;have c8:¬ (((b10 < w2.heap.size∨(O.heap.size≤b10∧b10 < w4.heap.size))∨(P.heap.size≤b10∧b10 < w6.heap.size))∨b10=b9):=c8;obtain⟨b0,b1⟩:=Z2 (World.ownsRow.lt hb) (World.ownsRow.lt b3);have D:=Z (show J < w2.heap.size∧b6 < w2.heap.size∧b7 < w2.heap.size∧w.heap.size≤w2.heap.size∧w2.heap.size≤O.heap.size∧O.heap.size≤w4.heap.size∧w4.heap.size≤P.heap.size∧P.heap.size≤w6.heap.size∧
   (O.heap.size≤ga∧ga < w4.heap.size)∧(P.heap.size≤ga2∧ga2 < w6.heap.size)∧(w2.heap.size≤b9∧(b9 < O.heap.size∨w4.heap.size≤b9)∧(b9 < P.heap.size∨w6.heap.size≤b9))∧(w2.heap.size≤b10∧(b10 < O.heap.size∨w4.heap.size≤b10)∧(b10 < P.heap.size∨w6.heap.size≤b10))∧b10≠b9 from by
  have R:=t.o.2.1.lt;have h2:=t.o.2.2.1.lt;have h3:=t.o.2.2.2.lt;have h4:=t.o.1.size;have h5:=g3.size;have h6:=g4.size;have h7:=g5.size;have h8:=g6.size;refine⟨R,h2,h3,h4,h5,h6,h7,h8,⟨e4,e5⟩,⟨e6,e7⟩,?_,?_,?_⟩
  ·omega
  ·omega
  ·omega)
 have s:=Z (show Sn w b6 b7 b9 b10 ga ga2 (.slice pb p.rows.length cb) (.slice pb2 p.rows.length cb2) from by
  have k:=D.o;have l1:=b0.o;have l2:=b1.o;refine⟨by omega,by omega,by omega,by omega,by omega,by omega,by omega,by omega,by omega,by omega,by omega,fun e=>?_,fun e=>?_,fun e=>?_,fun e=>?_,fun e=>?_,fun e=>?_,fun e=>?_,fun e=>?_⟩
  ·rcases e8 with h|h
   ·cases h
   ·exact h e.symm
  ·have:=l1 _ e;omega
  ·have:=l2 _ e;omega
  ·rcases a8 with h|h
   ·cases h
   ·exact h e.symm
  ·have:=l1 _ e;omega
  ·have:=l1 _ e;omega
  ·have:=l2 _ e;omega
  ·have:=l2 _ e;omega)
 have i0:=Z (show T.map RowM.s=p.rows∧(∀ y ∈ T,L2 w y)∧T2.map RowM.s=p.rows∧(∀ y ∈ T2,L2 w y) from⟨hT,hR,e0,d9⟩);clear e4 e5 e6 e7 e8 a8 hT hR e0 d9 n9 c8 g2;refine LateN.Lt rfl rfl (fun K b Y a7=>?_);obtain⟨T9,a0⟩:=Z2 (show Ja Y b9 #[.slice none 0 0,.slice none 0 0] from⟨_,Jy.grow f9 (g8.trans a7)⟩) (show Gr w2 Y∧Gr w6 Y∧Gr w8 Y from⟨((((g3.trans g4).trans g5).trans g6).trans (g7.trans g8)).trans a7,(g7.trans g8).trans a7,a7⟩);have d0:=T9.o.at 0 rfl;have d1:=T9.o.at 1 rfl;have E:=Ja.f T9.o 0;have L:=Ja.f T9.o 1;have a:=fill2 (.slice (some ⟨ga,0,none⟩) p.vars.length ca) (.slice pb p.rows.length cb) T9.o (t.o.1.trans a0.o.1) (by have:=D.o;omega);have c9:(Value.slice pb p.rows.length cb).ownBlock≠some b9:=fun e=>by have R:=b0.o _ e;have h2:=D.o;omega
 have d2:(Value.slice pb2 p.rows.length cb2).ownBlock≠some b9:=fun e=>by have R:=b1.o _ e;have h2:=D.o;omega
 obtain⟨f3,f4⟩:=Z2 (show(Value.slice pb p.rows.length cb).ownBlock≠some b10 from fun e=>by have R:=b0.o _ e;have h2:=D.o;omega) (show(Value.slice pb2 p.rows.length cb2).ownBlock≠some b10 from fun e=>by have R:=b1.o _ e;have h2:=D.o;omega);have a5:=Z (show _∧_∧Ja _ J _∧Ja _ b6 _∧Ja _ b7 _∧Ja _ b10 #[.slice none 0 0,.slice none 0 0]∧OwnL ((Y.setCell ⟨b9,0,none⟩ (.slice (some ⟨ga,0,none⟩) p.vars.length ca)).setCell ⟨b9,1,none⟩ (.slice pb p.rows.length cb)) O.heap.size 62 5 encVar _ _∧OwnL ((Y.setCell ⟨b9,0,none⟩ (.slice (some ⟨ga,0,none⟩) p.vars.length ca)).setCell ⟨b9,1,none⟩ (.slice pb p.rows.length cb)) O.heap.size 42 5 encRow _ _∧OwnL ((Y.setCell ⟨b9,0,none⟩ (.slice (some ⟨ga,0,none⟩) p.vars.length ca)).setCell ⟨b9,1,none⟩ (.slice pb p.rows.length cb)) P.heap.size 62 5 encVar _ _∧OwnL ((Y.setCell ⟨b9,0,none⟩ (.slice (some ⟨ga,0,none⟩) p.vars.length ca)).setCell ⟨b9,1,none⟩ (.slice pb p.rows.length cb)) P.heap.size 42 5 encRow _ _ from
  ⟨a.1,a.2.1,(t.o.2.1.grow a0.o.1).upd a.2.2 (by have:=D.o;omega),(t.o.2.2.1.grow a0.o.1).upd a.2.2 (by have:=D.o;omega),(t.o.2.2.2.grow a0.o.1).upd a.2.2 (by have:=D.o;omega),
   (show Ja Y b10 #[.slice none 0 0,.slice none 0 0] from⟨_,Jy.grow d7 a7⟩).upd a.2.2 (by have:=D.o;omega),
   ((ha.grow ((g5.trans g6).trans a0.o.2.1)).other (fun e=>s.o.a9 (Option.some.inj e).symm)).other (fun e=>s.o.a9 (Option.some.inj e).symm),
   ((hb.grow ((g5.trans g6).trans a0.o.2.1)).other c9).other c9,
   ((b2.grow a0.o.2.1).other (fun e=>s.o.c9 (Option.some.inj e).symm)).other (fun e=>s.o.c9 (Option.some.inj e).symm),
   ((b3.grow a0.o.2.1).other d2).other d2⟩)
 clear a ha hb b2 b3 f9 d7 g7 g8 a7 c9 d2;go_simp;refine⟨fun h=>Bool.noConfusion h,a5.o.2.2.1,b _ _ _ ?_⟩;clear b K d0 d1 E L;generalize (Y.setCell _ _).setCell _ _=j7 at a5 ⊢;refine LateN.Lt rfl rfl (fun K b j4 N=>?_);have a6:=Z (a5.o.2.2.2.2.2.1.grow N);have d0:=a6.o.at 0 rfl;have d1:=a6.o.at 1 rfl;have E:=Ja.f a6.o 0;have L:=Ja.f a6.o 1;have a:=fill2 (.slice (some ⟨ga2,0,none⟩) p.vars.length ca2) (.slice pb2 p.rows.length cb2) a6.o (a5.o.1.trans N) (by have:=D.o;omega);have HX:=Z (show Ja _ J _∧M3 w _ b6 b7 b9 b10 p.vars.length p.rows.length ga ca ga2 ca2 pb cb pb2 cb2 p.vars p.vars T T2 from by
  have k:=D.o;obtain⟨-,k9,kp,k6,k7,-,ka,kb,j2,j3⟩:=a5.o;exact⟨(kp.grow N).upd a.2.2 (by omega),a.1,(k6.grow N).upd a.2.2 (by omega),(k7.grow N).upd a.2.2 (by omega),(k9.grow N).upd a.2.2 (by omega),a.2.1,
   OwnL.low (((ka.grow N).other (fun e=>s.o.a10 (Option.some.inj e).symm)).other (fun e=>s.o.a10 (Option.some.inj e).symm)) (by omega),
   OwnL.low (((kb.grow N).other f3.o).other f3.o) (by omega),
   OwnL.low (((j2.grow N).other (fun e=>s.o.c10 (Option.some.inj e).symm)).other (fun e=>s.o.c10 (Option.some.inj e).symm)) (by omega),
   OwnL.low (((j3.grow N).other f4.o).other f4.o) (by omega)⟩)
 have j5:=Z (show Gr w O∧Gr w P from⟨t.o.1.trans g3,t.o.1.trans ((g3.trans g4).trans g5)⟩);clear a N;go_simp;refine⟨fun h=>Bool.noConfusion h,HX.o.1,b _ _ _ ?_⟩;clear b K d0 d1 E L;generalize (j4.setCell _ _).setCell _ _=a1 at HX ⊢;have c:=Z HX.o.2;clear HX a5 T9 a6 a0 t g3 g4 g5 g6;refine LateN.Sf ?_;obtain⟨x,hx⟩:∃ x,p.vars[u]?=some x:=⟨_,List.getElem?_eq_getElem i8⟩
 have a3:=Z hx;have f2:=HW.o x (List.mem_of_getElem? hx);have j6:=Z (HK.o.2.2.1 x (List.mem_of_getElem? hx));have k2:(u:Int) < (p.vars.length:Int):=by omega
 have k3:(0:Int)≤(u:Int):=by omega
 have Q:=c.o.t9.at 0 rfl;have y1:a1.cell? ⟨ga,u * 5+2,none⟩=some (.bool x.op):=(OwnL.putS K0 c.o.oa x 2 (.bool x.op) hx (by decide) rfl).2.2.1;rw[f2.2] at y1;clear hx f2;go_wp2_with fail;clear Q y1;have F:Gr a1 a1.drew:=(Gr.refl _).drew;have c:=Z (c.o.grow F);have Q:=(show Ja a1.drew b9 _ from c.o.t9).at 0 rfl;clear Q;have Q:∀ w',Gr a1.drew w'→w'.cell? ⟨b9,0,none⟩=some (.slice (some ⟨ga,0,none⟩) p.vars.length ca):=c.o.t9.c 0 rfl;have y1:∀ w',Gr a1.drew w'→w'.cell? ⟨ga,u * 5+1,none⟩=some (.int .i64 x.up):=fun w' g=>(OwnL.putS K0 (c.o.oa.grow g) x 1 (.int .i64 x.up) a3.o (by decide) rfl).2.2.1;clear F;have F:Gr a1.drew a1.drew:=Gr.refl _;refine Jl [(0,true),(1,true),(2,true),(3,true),(4,true),(5,true),(6,true),(7,true),(8,true),(9,true),(10,true),(11,true),(12,true),(13,false)] ?_;generalize a1.drew=d5 at Q y1 F c ⊢;obtain⟨mu,b5⟩:∃ z,min x.up m=z:=⟨_,rfl⟩
 have h9:=Z (show mu=min x.up m from b5.symm);repeat(refine Jc F (h:=?_))
 try rw[b5]
 clear b5;obtain⟨-,-,E,L,-⟩:=OwnL.putS K0 c.o.oa x 1 (.int .i64 x.up) a3.o (by decide) rfl;have E:d5.cell? ⟨ga,u * 5+1,none⟩=some (.int .i64 x.up):=E;have a2:=Z (c.o.putA s.o { x with up:=mu } 1 (.int .i64 mu) a3.o (by decide) rfl);refine Jj rfl rfl (fun K b=>?_);go_simp;refine⟨fun h=>Bool.noConfusion h,b _ _ ?_⟩;clear b K;generalize d5.setCell _ _=a4 at a2 ⊢;refine Jg ?_;clear E L Q y1 F c;go_wp2_with fail;have F:Gr a4 a4.drew:=(Gr.refl _).drew;have c:=Z (a2.o.grow F);have Q:∀ w',Gr a4.drew w'→w'.cell? ⟨b10,0,none⟩=some (.slice (some ⟨ga2,0,none⟩) p.vars.length ca2):=c.o.t10.c 0 rfl;have y1:∀ w',Gr a4.drew w'→w'.cell? ⟨ga2,u * 5,none⟩=some (.int .i64 x.lo):=fun w' g=>(OwnL.putS K0 (c.o.oa2.grow g) x 0 (.int .i64 x.lo) a3.o (by decide) rfl).2.2.1;have i9:IntKind.i64.wrap (m+1)=m+1:=by
  have:=d4.o.2;rw[IntKind.wrap_i64];omega
 clear F a2;have F:Gr a4.drew a4.drew:=Gr.refl _;refine Jl [(0,true),(1,true),(2,true),(3,true),(4,true),(5,true),(6,true),(7,true),(8,true),(9,true),(10,true),(11,true),(12,true),(13,true),(14,false)] ?_;generalize a4.drew=d6 at Q y1 F c ⊢;obtain⟨ml,b4⟩:∃ z,max x.lo (m+1)=z:=⟨_,rfl⟩
 have g9:=Z (show ml=max x.lo (m+1) from b4.symm);repeat(refine Jc F (h:=?_))
 try rw[b4]
 clear b4;obtain⟨-,-,E,L,-⟩:=OwnL.putS K0 c.o.oa2 x 0 (.int .i64 x.lo) a3.o (by decide) rfl;rw[Nat.add_zero] at E L;have E:d6.cell? ⟨ga2,u * 5,none⟩=some (.int .i64 x.lo):=E;have a2:=Z (c.o.putB s.o { x with lo:=ml } 0 (.int .i64 ml) a3.o (by decide) rfl);rw[Nat.add_zero] at a2;refine Jj rfl rfl (fun K b=>?_);go_simp;refine⟨fun h=>Bool.noConfusion h,b _ _ ?_⟩;clear b K;generalize d6.setCell _ _=a9 at a2 ⊢;refine Jg ?_;clear E L Q y1 F c i9;go_wp2_with fail;have F:Gr a9 a9.drew:=(Gr.refl _).drew;have c:=Z (a2.o.grow F);clear a2 F;have d8:Ja a9.drew b9 #[.slice (some ⟨ga,0,none⟩) p.vars.length ca,.slice pb p.rows.length cb]∧Ja a9.drew b10 #[.slice (some ⟨ga2,0,none⟩) p.vars.length ca2,.slice pb2 p.rows.length cb2]:=⟨c.o.t9,c.o.t10⟩
 have q0:∀ w',(Ja w' b9 #[.slice (some ⟨ga,0,none⟩) p.vars.length ca,.slice pb p.rows.length cb]∧Ja w' b10 #[.slice (some ⟨ga2,0,none⟩) p.vars.length ca2,.slice pb2 p.rows.length cb2])→w'.cell? ⟨b9,0,none⟩=some (.slice (some ⟨ga,0,none⟩) p.vars.length ca):=fun w' h=>h.1.at 0 rfl;have q1:∀ w',(Ja w' b9 #[.slice (some ⟨ga,0,none⟩) p.vars.length ca,.slice pb p.rows.length cb]∧Ja w' b10 #[.slice (some ⟨ga2,0,none⟩) p.vars.length ca2,.slice pb2 p.rows.length cb2])→w'.cell? ⟨b9,1,none⟩=some (.slice pb p.rows.length cb):=fun w' h=>h.1.at 1 rfl;have q2:∀ w',(Ja w' b9 #[.slice (some ⟨ga,0,none⟩) p.vars.length ca,.slice pb p.rows.length cb]∧Ja w' b10 #[.slice (some ⟨ga2,0,none⟩) p.vars.length ca2,.slice pb2 p.rows.length cb2])→w'.cell? ⟨b10,0,none⟩=some (.slice (some ⟨ga2,0,none⟩) p.vars.length ca2):=fun w' h=>h.2.at 0 rfl;have q3:∀ w',(Ja w' b9 #[.slice (some ⟨ga,0,none⟩) p.vars.length ca,.slice pb p.rows.length cb]∧Ja w' b10 #[.slice (some ⟨ga2,0,none⟩) p.vars.length ca2,.slice pb2 p.rows.length cb2])→w'.cell? ⟨b10,1,none⟩=some (.slice pb2 p.rows.length cb2):=fun w' h=>h.2.at 1 rfl;refine Inv.Mw (fun w'=>Ja w' b9 #[.slice (some ⟨ga,0,none⟩) p.vars.length ca,.slice pb p.rows.length cb]∧Ja w' b10 #[.slice (some ⟨ga2,0,none⟩) p.vars.length ca2,.slice pb2 p.rows.length cb2]) (.read 0 (.read 1 (.one 2 (.one 3 (.read 4 .stop))))) d8 (by kernel_rfl) (by kernel_rfl) rfl (by kernel_rfl) (fun _ _ d _ _ h=>by cases d<;>exact h) ?_;clear d8;generalize a9.drew=i1 at c ⊢;repeat(refine Inv.Kv (v:=?_) rfl rfl (fun w' r=>?_) (fun K b=>?_);rotate_left;(go_simp;rfl);go_simp;refine b _ _ ?_;clear b K)
 clear q0 q1 q2 q3;have d0:=c.o.t6.at 0 rfl;have d1:=c.o.t6.at 1 rfl;have E:=Ja.f c.o.t6 0;have L:=Ja.f c.o.t6 1;have a:=fill2 (.slice (some ⟨ga,0,none⟩) p.vars.length ca) (.slice pb p.rows.length cb) c.o.t6 c.o.g f.o.1;have f5:(Value.slice (some ⟨ga,0,none⟩) p.vars.length ca).ownBlock≠some b6:=fun e=>s.o.a6 (Option.some.inj e).symm;have f6:(Value.slice (some ⟨ga2,0,none⟩) p.vars.length ca2).ownBlock≠some b6:=fun e=>s.o.c6 (Option.some.inj e).symm;have C:=Z (And.intro a.1 (And.intro (And.intro (c.o.t9.upd a.2.2 (by have:=D.o;omega)) (c.o.t10.upd a.2.2 (by have:=D.o;omega))) (And.intro a.2.1 (And.intro (c.o.t7.upd a.2.2 f.o.2.2)
  (And.intro (OwnL.fill c.o.oa f5 (.slice (some ⟨ga,0,none⟩) p.vars.length ca) (.slice pb p.rows.length cb)) (And.intro (OwnL.fill c.o.ob s.o.v6 (.slice (some ⟨ga,0,none⟩) p.vars.length ca) (.slice pb p.rows.length cb)) (And.intro (OwnL.fill c.o.oa2 f6 (.slice (some ⟨ga,0,none⟩) p.vars.length ca) (.slice pb p.rows.length cb)) (OwnL.fill c.o.ob2 s.o.u6 (.slice (some ⟨ga,0,none⟩) p.vars.length ca) (.slice pb p.rows.length cb)))))))))
 clear a f5 f6 c;refine Inv.Mg rfl rfl (fun K b=>?_);go_simp;generalize (i1.setCell _ _).setCell _ _=i2 at C ⊢;refine⟨C.o.2.1,b _ _ ?_⟩;clear b K d0 d1 E L;have d0:=C.o.2.2.2.1.at 0 rfl;have d1:=C.o.2.2.2.1.at 1 rfl;have E:=Ja.f C.o.2.2.2.1 0;have L:=Ja.f C.o.2.2.2.1 1;have a:=fill2 (.slice (some ⟨ga2,0,none⟩) p.vars.length ca2) (.slice pb2 p.rows.length cb2) C.o.2.2.2.1 C.o.1 f.o.2.1;have f7:(Value.slice (some ⟨ga,0,none⟩) p.vars.length ca).ownBlock≠some b7:=fun e=>s.o.a7 (Option.some.inj e).symm;have f8:(Value.slice (some ⟨ga2,0,none⟩) p.vars.length ca2).ownBlock≠some b7:=fun e=>s.o.c7 (Option.some.inj e).symm;have M:=Z (And.intro a.1 (And.intro (And.intro (C.o.2.1.1.upd a.2.2 (by have:=D.o;omega)) (C.o.2.1.2.upd a.2.2 (by have:=D.o;omega))) (And.intro (C.o.2.2.1.upd a.2.2 f.o.2.2.symm) (And.intro a.2.1
  (And.intro (OwnL.fill C.o.2.2.2.2.1 f7 (.slice (some ⟨ga2,0,none⟩) p.vars.length ca2) (.slice pb2 p.rows.length cb2)) (And.intro (OwnL.fill C.o.2.2.2.2.2.1 s.o.v7 (.slice (some ⟨ga2,0,none⟩) p.vars.length ca2) (.slice pb2 p.rows.length cb2)) (And.intro (OwnL.fill C.o.2.2.2.2.2.2.1 f8 (.slice (some ⟨ga2,0,none⟩) p.vars.length ca2) (.slice pb2 p.rows.length cb2)) (OwnL.fill C.o.2.2.2.2.2.2.2 s.o.u7 (.slice (some ⟨ga2,0,none⟩) p.vars.length ca2) (.slice pb2 p.rows.length cb2)))))))))
 clear a f7 f8 C;refine Inv.Mg rfl rfl (fun K b=>?_);go_simp;generalize (i2.setCell _ _).setCell _ _=j8 at M ⊢;refine⟨M.o.2.1,b _ _ ?_⟩;clear b K d0 d1 E L;repeat(refine Inv.Kv (v:=?_) rfl rfl (fun w' r=>?_) (fun K b=>?_);rotate_left;(go_simp;rfl);go_simp;refine b _ _ ?_;clear b K)
 refine Inv.Mh ?_;go_wp2_with fail;try rw[Exit.noGoto_ret]
 have z0:=M.o.2.2.1.at 0 rfl;have z1:=M.o.2.2.1.at 1 rfl;have z2:=M.o.2.2.2.1.at 0 rfl;have z3:=M.o.2.2.2.1.at 1 rfl;refine bodyPost_ret (by simp[results,Tryz.results102,go_sem,z0,z1,z2,z3];rfl) rfl ?_;have k:=i0.o;have el:(lowPart p (u:Int) m).vars=p.vars.set u { x with up:=mu }:=by rw[h9.o];exact J16 a3.o
 have eh:(highPart p (u:Int) m).vars=p.vars.set u { x with lo:=ml }:=by rw[g9.o];exact J12 a3.o
 have ll:(lowPart p (u:Int) m).vars.length=p.vars.length:=Qn _ _ _;have lh:(highPart p (u:Int) m).vars.length=p.vars.length:=Qm _ _ _;refine⟨_,rfl,M.o.1,.inl ⟨d4.o,_,_,rfl,⟨some ⟨ga,0,none⟩,ca,pb,cb,T,?_,?_,M.o.2.2.2.2.2.1,k.1,k.2.1⟩,⟨some ⟨ga2,0,none⟩,ca2,pb2,cb2,T2,?_,?_,M.o.2.2.2.2.2.2.2,k.2.2.1,k.2.2.2⟩⟩⟩
 ·rw[ll];rfl
 ·rw[ll,el];exact M.o.2.2.2.2.1
 ·rw[lh];rfl
 ·rw[lh,eh];exact M.o.2.2.2.2.2.2.1
end Prf
end Go.Proofs.YtcjgimlcefhhmaaGreatDoor

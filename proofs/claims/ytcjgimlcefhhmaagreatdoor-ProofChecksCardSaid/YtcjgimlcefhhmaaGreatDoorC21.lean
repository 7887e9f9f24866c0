/- Texts: PsL. -/
import Derived.Test.YtcjgimlcefhhmaaGreatDoorC20
set_option linter.unusedVariables false
set_option linter.unusedSimpArgs false
set_option maxRecDepth 100000
set_option maxHeartbeats 12800000
namespace Go.Proofs.YtcjgimlcefhhmaaGreatDoor
open Go.RowKit Go.Lib
section
variable {α:Type}{enc:α→List Value}{sz:Nat}{P:Program}{a:Act}{o:Oper}{K:Act→World→Prop}{Q:Exit→Act→World→Prop}{w:World}
theorem OwnL.ofFresh {b base:Nat}{e:TypeId}(h:Jy #[] e b w)(c:base≤b):OwnL w base e sz enc (.slice (some ⟨b,0,none⟩) 0 0) []:=
 ⟨by simp,.inr ⟨b,0,#[],rfl,c,h,Nat.zero_le _,by simp[maxLen],by simp,by simp⟩⟩
theorem OwnL.ofFresh1 {b base:Nat}{e:TypeId}{c:Array Value}{x:α}(h:Jy c e b w)(g:base≤b)(f:c.toList=enc x)(d:(enc x).length=sz):OwnL w base e sz enc (.slice (some ⟨b,0,none⟩) 1 1) [x]:=by
 have i:c.size=sz:=by rw[← d,← f];simp
 refine⟨by simp[d],.inr ⟨b,1,c,rfl,g,h,Nat.le_refl _,by simp[maxLen],by simp[i],?_⟩⟩;rw[f];simp[← d]
theorem Py (s x:Operand)(t e:TypeId)(z:Value)(bytes:Nat)(y:o.op = .call { callee:=.builtin .append,args:=#[s,x],argTypes:=#[t,t] })
  (F:P.underlying t=some (.slice e)) (n:(P.info? e).map (fun i=>(i.zero,i.size,i.bytes))=some (some z,sz,bytes)) (H:z.cells.size=sz) (E:0 < sz) (k:∀ x,(enc x).length=sz) (c:∀ x,∀ u ∈ enc x,u.oneCell'=true)
  (base:Nat) (v vx:Value) (l m:List α) (D:a.eval s=v) (A:OwnL w base e sz enc v l) (G:a.eval x=vx) (r:SlL w sz enc vx m)
  (p:(l.length+m.length) * bytes≤140737488355328) (q:l.length+m.length≤1000000000000) (j:base≤w.heap.size) (B:0 < m.length)
  (h:∀ b w',OwnL w' base e sz enc b (l ++ m)→w.grownBy w' v.ownBlock→(b.ownBlock=v.ownBlock∨b.ownBlock=some w.heap.size)→K (a.put o.dst b) w'):Oper.wp P o a w K Q:=by
 obtain⟨b,w',C,d,f,g⟩:=Q1 (ty:=o.type) t e z bytes F n H E k c base v vx l m A r p q j B;unfold Oper.wp execOp;simp only[y,resolve,invoke,builtin,Sem.run_bind,Sem.run_pure,Result.andThen_ok,List.map_toArray,List.map_cons,List.map_nil,D,G,C];exact h b w' d f g
theorem Px (s x:Operand)(t e:TypeId)(z:Value)(bytes:Nat)(D:o.op = .call { callee:=.builtin .append,args:=#[s,x],argTypes:=#[t,t] })
  (l:P.underlying t=some (.slice e)) (f:(P.info? e).map (fun i=>(i.zero,i.size,i.bytes))=some (some z,sz,bytes)) (H:z.cells.size=sz) (F:0 < sz) (v:∀ x,(enc x).length=sz) (n:∀ x,∀ u ∈ enc x,u.oneCell'=true)
  (base b:Nat) (vx:Value) (m:List α) (E:a.eval s = .slice (some ⟨b,0,none⟩) 0 0) (A:Jy #[] e b w) (p:base≤b) (G:a.eval x=vx) (g:SlL w sz enc vx m)
  (B:m.length * bytes≤140737488355328) (C:m.length≤1000000000000)
  (h:∀ c w',OwnL w' base e sz enc c m→Gr w w'→(c.ownBlock=some b∨c.ownBlock=some w.heap.size)→K (a.put o.dst c) w'):Oper.wp P o a w K Q:=by
 have j:OwnL w base e sz enc (.slice (some ⟨b,0,none⟩) ([]:List α).length ([]:List α).length) []:=OwnL.ofFresh A p;have r:base≤w.heap.size:=Nat.le_trans p (Nat.le_of_lt A.lt)
 cases m with
 | nil=>
  obtain⟨q,d,rfl,_,_⟩:=g.parts;exact J6V s x t e z bytes D l f (some ⟨b,0,none⟩) q 0 0 d E (Nat.le_refl _) (.inl (by simp)) G (h _ _ j (Gr.refl w) (.inl rfl))
 | cons y m=>
  obtain⟨c,w',k,J,L⟩:=J25 (ty:=o.type) t e z bytes l f H F v n base (some ⟨b,0,none⟩) vx [] (y :: m) j g (by simpa using B) (by simpa using C) r;obtain⟨v2,S,M,O,R,N⟩:=Q1 (ty:=o.type) t e z bytes l f H F v n base _ vx [] (y :: m) j g (by simpa using B) (by simpa using C) r (by simp);have I:=k.symm.trans M;injection I with e2 e3;subst e2 e3;unfold Oper.wp execOp;simp only[List.length_nil] at k;simp only[D,resolve,invoke,builtin,Sem.run_bind,Sem.run_pure,Result.andThen_ok,List.map_toArray,List.map_cons,List.map_nil,E,G,k];exact h _ _ (by simpa using J) L N
end
namespace Prf
theorem Pp:(Tryz.prog.info? 42).map (fun i=>(i.zero,i.size,i.bytes))=some (some (.agg rowZ),5,64):=by kernel_rfl
theorem Ph:∀ x,∀ u ∈ encRow x,u.oneCell'=true:=fun x u b=>by
 simp[encRow] at b;rcases b with rfl|rfl|rfl|rfl|rfl<;>rfl
structure Sk (w0 w:World)(base:Nat)(pv:Value)(p:Prg)(r:RowS):Prop where
 ex:∃ a c b d T x,pv = .agg #[.slice a p.vars.length c,.slice b (p.rows.length+1) d]∧OwnL w base 62 5 encVar (.slice a p.vars.length c) p.vars∧OwnL w base 42 5 encRow (.slice b (p.rows.length+1) d) (T ++ [x])∧
  T.map RowM.s=p.rows∧(∀ y ∈ T,L2 w0 y)∧x.s=r∧Ju w base (.slice x.tp x.terms.length x.tc) x.terms
def J1M (p:Prg)(c:CutS)(w0:World)(r:Value)(w:World):Prop:=
 (∃ (rs:RowS) (pv:Value),Kn p c rs∧r = .tuple #[pv,.int .i64 0]∧Sk w0 w w0.heap.size pv p rs)∨((∀ rs,¬ Kn p c rs)∧∃ e:Int,e≠0∧r = .tuple #[.agg #[.slice none 0 0,.slice none 0 0],.int .i64 e])
structure Qv (w W:World)(base bp b4 b6:Nat)(u0 u1:Value)(x:RowM):Prop where
 g:Gr w W
 tp:Ja W bp #[u0,u1]
 t4:Ja W b4 #[.slice none 0 0,.slice none 0 0]
 t6:Ja W b6 #[.string ⟨x.name.toArray⟩,.int .i64 x.group,.int .i64 x.kind,.slice x.tp x.terms.length x.tc,.int .i64 x.bound]
 tx:Ju W base (.slice x.tp x.terms.length x.tc) x.terms
theorem Qv.grow {w W b:World}{base f c d:Nat}{u0 u1:Value}{x:RowM}(h:Qv w W base f c d u0 u1 x)(g:Gr W b):Qv w b base f c d u0 u1 x:=
 ⟨h.g.trans g,h.tp.grow g,h.t4.grow g,h.t6.grow g,h.tx.grow g⟩
theorem OwnL.low {α:Type}{enc:α→List Value}{sz:Nat}{e:TypeId}{w:World}{base c:Nat}{v:Value}{l:List α}(h:OwnL w base e sz enc v l)(j:c≤base):OwnL w c e sz enc v l:=by
 obtain⟨i,b⟩:=h;refine⟨i,?_⟩;rcases b with b|⟨g,d,f,m,k,r⟩
 ·exact .inl b
 ·exact .inr ⟨g,d,f,m,Nat.le_trans j k,r⟩
theorem OwnL.sameU {α:Type}{enc:α→List Value}{sz:Nat}{e:TypeId}{w w':World}{base b:Nat}{v:Value}{l:List α}(h:OwnL w base e sz enc v l)(i:Upd b w w')(n:w'.heap.size=w.heap.size)(m:b < base)(d:w'.os=w.os)(g:w'.tape=w.tape)(f:w'.output=w.output):OwnL w' base e sz enc v l:=
 World.ownsRow.kept (row:=some b) h ⟨d,g,f,by omega,fun k j c=>i k (fun e=>c (congrArg some e))⟩ (.inr fun e=>by have:=(World.ownsRow.lt h b e).1;omega)
theorem fill2 {a w:World}{b:Nat}{f j:Value}(u0 u1:Value)(h:Ja w b #[f,j])(g:Gr a w)(k:a.heap.size≤b):
  Gr a ((w.setCell ⟨b,0,none⟩ u0).setCell ⟨b,1,none⟩ u1)∧Ja ((w.setCell ⟨b,0,none⟩ u0).setCell ⟨b,1,none⟩ u1) b #[u0,u1]∧Upd b w ((w.setCell ⟨b,0,none⟩ u0).setCell ⟨b,1,none⟩ u1):=by
 have c:¬ b < a.heap.size:=by omega
 refine⟨Gr.set (Gr.set g c _) c _,?_,fun i d=>?_⟩
 ·have:=(h.set 0 u0).set 1 u1;simpa using this
 ·rw[Below.heap_setCell _ _ _ _ d,Below.heap_setCell _ _ _ _ d]
def addNew (cells:Array Value):Nat→LateN.NewS
 | 0=>⟨62,#[],fun b => .slice (some ⟨b,0,none⟩) 0 0⟩
 | 4=>⟨42,#[],fun b => .slice (some ⟨b,0,none⟩) 0 0⟩
 | _=>⟨42,cells,fun b => .slice (some ⟨b,0,none⟩) 1 1⟩
theorem J0J (w:World)(v u:Value)(p:Prg)(c:CutS)(hp:Js w v p)(hc:Lc w u c 4)(e3:c.mult.length≤16)(b8:∀ x ∈ c.mult,Sz 4 x)(e4:c.vars.length≤1000)(hk:Jo p)(hw:Whole p)(hn:p.vars.length≤10)(hm:p.rows.length≤40):
  Calls Tryz.prog 103 #[v,u] w (Ret w (J1M p c w)):=by
 obtain⟨HK,HW,HP,HC,c6⟩:=Z5 hk hw hp hc b8;clear hk hw b8;obtain⟨pm,nm,cm,pv,nv,cv,rfl,-,-,rfl,rfl⟩:=hc.parts;clear hc;obtain⟨l,n,m,q,rfl,hv,hr⟩:=hp;obtain⟨HV,HR⟩:=Z2 hv hr;have B0:=Ja.new w #[.slice l p.vars.length n,.slice m p.rows.length q] 25;have N:=Ja.new (w.alloc (.cells #[.slice l p.vars.length n,.slice m p.rows.length q] 25)) #[.int .i64 c.kind,.slice pm c.mult.length cm,.int .i64 c.row,.slice pv c.vars.length cv] 45;have H:=Ja.new ((w.alloc (.cells #[.slice l p.vars.length n,.slice m p.rows.length q] 25)).alloc (.cells #[.int .i64 c.kind,.slice pm c.mult.length cm,.int .i64 c.row,.slice pv c.vars.length cv] 45)) #[.slice none 0 0,.slice none 0 0] 25;simp only[World.size_alloc] at N H;have A:=Z (show _∧Ja _ _ #[.slice l p.vars.length n,.slice m p.rows.length q]∧Ja _ _ #[.int .i64 c.kind,.slice pm c.mult.length cm,.int .i64 c.row,.slice pv c.vars.length cv]∧Ja _ _ #[.slice none 0 0,.slice none 0 0] from⟨B0.1.trans (N.1.trans H.1),B0.2.grow (N.1.trans H.1),N.2.grow H.1,H.2⟩);clear hv hr B0 N H;unfold prgV at HP ⊢;go_enter Tryz.func103,Tryz.ntmps103;go_wp2_with fail;generalize e0:w.heap.size+1+1=J at A ⊢;generalize e1:w.heap.size+1=bc at A ⊢;generalize e2:w.heap.size=j at A ⊢;generalize ((w.alloc _).alloc _).alloc _=W at A ⊢;obtain⟨G,F,TC,s,a9,d2⟩:=Z6 A.o.1 A.o.2.1 A.o.2.2.1 A.o.2.2.2 (show w.heap.size≤J from by omega) (show j≠J from by omega);clear A e0 e2 e1;have y0:=F.o.at 0 rfl;have y1:=F.o.at 1 rfl;have x0:=TC.o.at 0 rfl;have x1:=TC.o.at 1 rfl;have x2:=TC.o.at 2 rfl;have x3:=TC.o.at 3 rfl;go_wp2_with fail;clear y0 y1 x0 x1 x2 x3;refine(J5I W _ _ p c (HP.o.grow G.o) (HC.o.grow G.o) e3 c6.o e4 HK.o HW.o hn hm).mono ?_;rintro _ E ⟨r1,rfl,g1,h1⟩;obtain⟨a5,G,F,s,c7⟩:=Z5 (show j < W.heap.size∧J < W.heap.size∧w.heap.size≤W.heap.size from⟨F.o.lt,s.o.lt,G.o.size⟩) (G.o.trans g1) (F.o.grow g1) (s.o.grow g1) g1.size;rcases h1 with⟨rs,x,hd,rfl,c4,c5⟩|⟨b9,e,he,rfl⟩;rotate_left
 ·obtain⟨c9,HE⟩:=Z2 b9 he;have f2:(e != 0)=true:=by simpa using he
  have y:=Ja.new E rowZ 42;obtain⟨s,G⟩:=Z2 (s.o.grow y.1) (G.o.trans y.1);clear b9 he g1 y;unfold rowZ at s G ⊢;have c0:=s.o.at 0 rfl;have c1:=s.o.at 1 rfl;have C:=Ja.f s.o 0;have f1:=Ja.f s.o 1;have a1:=Z (fill2 (.slice none 0 0) (.slice none 0 0) s.o G.o a9.o);go_wp2_with fail;try rw[Exit.noGoto_ret]
  generalize ((E.alloc _).setCell _ _).setCell _ _=W5 at a1 ⊢;clear c0 c1 C f1;have z0:=a1.o.2.1.at 0 rfl;have z1:=a1.o.2.1.at 1 rfl;refine bodyPost_ret (by simp[results,Tryz.results103,go_sem,z0,z1];rfl) rfl ?_;exact⟨_,rfl,a1.o.1,.inr ⟨c9.o,e,HE.o,rfl⟩⟩
 ·obtain⟨T,b3,a7,b5⟩:=HR.o;have b7:T.length=p.rows.length:=by rw[← a7,List.length_map]
  obtain⟨d3,d4,d5,O,HD,d7⟩:=Z6 b3 a7 b5 b7 hd c4;have y:=Ja.new E #[.string ⟨x.name.toArray⟩,.int .i64 x.group,.int .i64 x.kind,.slice x.tp x.terms.length x.tc,.int .i64 x.bound] 42;have b:=Z (show Qv w _ W.heap.size j J E.heap.size (.slice l p.vars.length n) (.slice m p.rows.length q) x from⟨G.o.trans y.1,F.o.grow y.1,s.o.grow y.1,y.2,c5.grow y.1⟩);have b1:=Z (show j≠E.heap.size∧J≠E.heap.size from by
   have h1:=a5.o;have h2:=c7.o;exact⟨by omega,by omega⟩)
  have y1:=b.o.tp.at 1 rfl;have d8:¬ (4000:Int)≤(p.rows.length:Int):=by omega
  have d9:¬ 4000≤p.rows.length:=by omega
  clear b3 a7 b5 b7 hd c4 c5 g1 y F s G;unfold rowV;go_wp2_with fail;clear y1 d8 d9;generalize E.heap.size=r at b b1 ⊢;generalize E.alloc _=I at b ⊢;have b:=Z (b.o.grow (Gr.refl I).drew);have q0:∀ w',(Ja w' j #[.slice l p.vars.length n,.slice m p.rows.length q]∧Ja w' r #[.string ⟨x.name.toArray⟩,.int .i64 x.group,.int .i64 x.kind,.slice x.tp x.terms.length x.tc,.int .i64 x.bound])→w'.cell? ⟨j,0,none⟩=some (.slice l p.vars.length n):=fun w' h=>h.1.at 0 rfl;have q1:∀ w',(Ja w' j #[.slice l p.vars.length n,.slice m p.rows.length q]∧Ja w' r #[.string ⟨x.name.toArray⟩,.int .i64 x.group,.int .i64 x.kind,.slice x.tp x.terms.length x.tc,.int .i64 x.bound])→w'.cell? ⟨j,1,none⟩=some (.slice m p.rows.length q):=fun w' h=>h.1.at 1 rfl;have q2:∀ w',(Ja w' j #[.slice l p.vars.length n,.slice m p.rows.length q]∧Ja w' r #[.string ⟨x.name.toArray⟩,.int .i64 x.group,.int .i64 x.kind,.slice x.tp x.terms.length x.tc,.int .i64 x.bound])→w'.cell? ⟨r,0,none⟩=some (.string ⟨x.name.toArray⟩):=fun w' h=>h.2.at 0 rfl;have q3:∀ w',(Ja w' j #[.slice l p.vars.length n,.slice m p.rows.length q]∧Ja w' r #[.string ⟨x.name.toArray⟩,.int .i64 x.group,.int .i64 x.kind,.slice x.tp x.terms.length x.tc,.int .i64 x.bound])→w'.cell? ⟨r,1,none⟩=some (.int .i64 x.group):=fun w' h=>h.2.at 1 rfl;have q4:∀ w',(Ja w' j #[.slice l p.vars.length n,.slice m p.rows.length q]∧Ja w' r #[.string ⟨x.name.toArray⟩,.int .i64 x.group,.int .i64 x.kind,.slice x.tp x.terms.length x.tc,.int .i64 x.bound])→w'.cell? ⟨r,2,none⟩=some (.int .i64 x.kind):=fun w' h=>h.2.at 2 rfl;have q5:∀ w',(Ja w' j #[.slice l p.vars.length n,.slice m p.rows.length q]∧Ja w' r #[.string ⟨x.name.toArray⟩,.int .i64 x.group,.int .i64 x.kind,.slice x.tp x.terms.length x.tc,.int .i64 x.bound])→w'.cell? ⟨r,3,none⟩=some (.slice x.tp x.terms.length x.tc):=fun w' h=>h.2.at 3 rfl;have q6:∀ w',(Ja w' j #[.slice l p.vars.length n,.slice m p.rows.length q]∧Ja w' r #[.string ⟨x.name.toArray⟩,.int .i64 x.group,.int .i64 x.kind,.slice x.tp x.terms.length x.tc,.int .i64 x.bound])→w'.cell? ⟨r,4,none⟩=some (.int .i64 x.bound):=fun w' h=>h.2.at 4 rfl;have b0:Ja I.drew j #[.slice l p.vars.length n,.slice m p.rows.length q]∧Ja I.drew r #[.string ⟨x.name.toArray⟩,.int .i64 x.group,.int .i64 x.kind,.slice x.tp x.terms.length x.tc,.int .i64 x.bound]:=⟨b.o.tp,b.o.t6⟩
  refine LateN.Si (fun w'=>Ja w' j #[.slice l p.vars.length n,.slice m p.rows.length q]∧Ja w' r #[.string ⟨x.name.toArray⟩,.int .i64 x.group,.int .i64 x.kind,.slice x.tp x.terms.length x.tc,.int .i64 x.bound]) b0 (fun _ _ h g=>⟨h.1.grow g,h.2.grow g⟩) (addNew #[.string ⟨x.name.toArray⟩,.int .i64 x.group,.int .i64 x.kind,.slice x.tp x.terms.length x.tc,.int .i64 x.bound]) 60 [1,2,5,6,8] [(0,2),(3,0),(4,2),(7,0),(9,2),(10,0),(11,1),(12,0),(13,1)] (by kernel_rfl) (by kernel_rfl) rfl (by kernel_rfl) (fun _ _ d _ _ h=>by cases d<;>exact h) (fun _ _ d _ _ h=>by cases d<;>exact h) ?_;clear b0;have c2:I.heap.size=I.drew.heap.size:=rfl;rw[c2];clear c2;generalize I.drew=t at b ⊢;have a0:=Z (show J < t.heap.size∧w.heap.size≤t.heap.size from⟨b.o.t4.lt,b.o.g.size⟩);repeat(refine LateN.Sh (v:=?_) rfl rfl (fun w' hg=>?_) (fun K f=>?_);rotate_left;(go_simp;rfl);go_simp;refine f _ ?_;clear f K)
  refine LateN.Sg ⟨fun i hi=>?_,?_⟩
  ·simp at hi;rcases hi with rfl|rfl|rfl<;>exact⟨_,rfl,rfl,fun w'=>by go_simp;exact⟨rfl,rfl⟩⟩
  clear q0 q1 q2 q3 q4 q5 q6;refine LateN.Od rfl (fun K w4 k0 g4 C n0 f=>?_);go_simp;refine f _ _ ?_;clear f K;refine LateN.Lt rfl rfl (fun K f w5 U=>?_);have C:=Jy.grow C U;refine Px _ _ 22 62 _ 32 rfl Tryz.underlying22 Sa rfl (by decide) K0 Q9 t.heap.size k0 _ p.vars rfl C (Nat.le_of_not_lt n0) rfl (SlL.grow HV.o ((b.o.g.trans g4).trans U)) (by omega) (by omega) ?_;intro v6 w6 h6 g6 p6;have X:=Z ((g4.trans U).trans g6);refine⟨fun _=>g6,⟨b.o.tp.grow X.o,b.o.t6.grow X.o⟩,f _ _ _ ?_⟩;clear f K;obtain⟨S6,z,P6,L6⟩:=Z4 (show k0 < w5.heap.size∧w5.heap.size≤w6.heap.size∧t.heap.size≤w5.heap.size from⟨C.lt,g6.size,(g4.trans U).size⟩) h6 p6 (World.ownsRow.lt h6);clear g4 U g6 C h6 p6;refine LateN.Od rfl (fun K w7 M V R n4 f=>?_);have N4:=Z (show ¬ ((M < t.heap.size∨M=k0)∨(w5.heap.size≤M∧M < w6.heap.size)) from n4);go_simp;refine f _ _ ?_;clear f K n4;refine LateN.Lt rfl rfl (fun K f w8 L=>?_);have R:=Jy.grow R L;refine Px _ _ 23 42 _ 64 rfl Tryz.underlying23 Pp rfl (by decide) Lk Ph t.heap.size M _ T rfl R (by have:=N4.o;omega) rfl (by have:=SlL.grow d3.o (b.o.g.trans ((X.o.trans V).trans L));exact this) (by have:=O.o;omega) (by have:=O.o;omega) ?_;intro v9 w9 h9 g9 p9;obtain⟨S8,z,G9⟩:=Z3 (show w6.heap.size≤w8.heap.size∧M < w8.heap.size from⟨(V.trans L).size,R.lt⟩) (z.o.grow ((V.trans L).trans g9)) (((X.o.trans V).trans L).trans g9);refine⟨fun _=>g9,⟨b.o.tp.grow G9.o,b.o.t6.grow G9.o⟩,f _ _ _ ?_⟩;clear f K;have c8:=Z (show v6.ownBlock=none∨v6.ownBlock≠v9.ownBlock from by
   refine .inr fun e=>?_;have l6:=L6.o;have n4:=N4.o;have s6:=S6.o;have s8:=S8.o;rcases P6.o with h|h<;>rcases p9 with k|k<;>rw[h,k] at e<;>have e:=Option.some.inj e<;>have:=l6 _ h<;>omega)
  have H9:=Z h9;clear V L g9 R h9 p9;refine LateN.Od rfl (fun K f5 k9 a2 f9 n9 f=>?_);have N9:=Z (show t.heap.size≤k9 from Nat.le_of_not_lt fun h=>n9 (.inl (.inl (.inl (.inl h)))));go_simp;refine f _ _ ?_;clear f K n9;refine LateN.Lt rfl rfl (fun K f f6 S=>?_);obtain⟨d6,a8,z,H9⟩:=Z4 (OwnL.ofFresh1 (enc:=encRow) (x:=x) (Jy.grow f9 S) N9.o rfl rfl) ((G9.o.trans a2).trans S) (z.o.grow (a2.trans S)) (H9.o.grow (a2.trans S));clear a2 S f9;refine Py _ _ 23 42 _ 64 rfl Tryz.underlying23 Pp rfl (by decide) Lk Ph t.heap.size v9 _ T [x] rfl H9.o rfl d6.o.read (by have:=O.o;simp;omega) (by have:=O.o;simp;omega) a8.o.size (by simp) ?_;intro f3 e7 b2 a6 e6;have a4:=Z (OwnL.gr H9.o a8.o a6);refine⟨fun h=>Bool.noConfusion h,⟨b.o.tp.grow a4.o,b.o.t6.grow a4.o⟩,f _ _ _ ?_⟩;clear f K;obtain⟨z,Y,b⟩:=Z3 (show OwnL e7 t.heap.size 62 5 encVar v6 p.vars from World.ownsRow.kept z.o a6 c8.o) b2 (b.o.grow a4.o);clear a6 e6 b2;obtain⟨pa,ca,e5,-,-⟩:=z.o.read.parts;obtain⟨pb,cb,c3,-,-⟩:=Y.o.read.parts;rw[show(T ++ [x]).length=p.rows.length+1 from by have:=O.o;simp;omega] at c3;subst e5;subst c3;refine LateN.O1 (v:=?_) rfl rfl (fun w' hg=>?_) (fun K f=>?_);rotate_left
  ·go_simp;rfl
  go_simp;refine f _ _ ?_;clear f K;refine LateN.Lt rfl rfl (fun K f e8 a3=>?_);obtain⟨b,z,Y⟩:=Z3 (b.o.grow a3) (z.o.grow a3) (Y.o.grow a3);have d0:=b.o.t4.at 0 rfl;have d1:=b.o.t4.at 1 rfl;have C:=Ja.f b.o.t4 0;have f1:=Ja.f b.o.t4 1;have D:=fill2 (.slice pa p.vars.length ca) (.slice pb (p.rows.length+1) cb) b.o.t4 b.o.g a9.o;have B:=Z (show _∧_∧OwnL _ t.heap.size 62 5 encVar _ _∧OwnL _ t.heap.size 42 5 encRow _ _∧Ju _ W.heap.size _ _∧_∧_ from
   ⟨D.1,D.2.1,OwnL.sameU z.o D.2.2 (by simp[World.setCell]) a0.o.1 rfl rfl rfl,OwnL.sameU Y.o D.2.2 (by simp[World.setCell]) a0.o.1 rfl rfl rfl,
    b.o.tx.same D.2.2 (by simp[World.setCell]) (fun e=>by have:=(World.ownsRow.lt b.o.tx.1 _ e).1;have:=a5.o;omega) rfl rfl rfl,b.o.tp.upd D.2.2 d2.o,b.o.t6.upd D.2.2 b1.o.2.symm⟩)
  clear D a3;go_simp;refine⟨fun h=>Bool.noConfusion h,⟨B.o.2.2.2.2.2.1,B.o.2.2.2.2.2.2⟩,f _ _ _ ?_⟩;clear f K d0 d1 C f1;generalize (e8.setCell _ _).setCell _ _=e9 at B ⊢;refine LateN.O1 (v:=?_) rfl rfl (fun w' hg=>?_) (fun K f=>?_);rotate_left
  ·go_simp;rfl
  go_simp;refine f _ _ ?_;clear f K;refine LateN.Sf ?_;go_wp2_with fail;try rw[Exit.noGoto_ret]
  have z0:=B.o.2.1.at 0 rfl;have z1:=B.o.2.1.at 1 rfl;refine bodyPost_ret (by simp[results,Tryz.results103,go_sem,z0,z1];rfl) rfl ?_;exact⟨_,rfl,B.o.1,.inl ⟨rs,_,HD.o,rfl,⟨pa,ca,pb,cb,T,x,rfl,OwnL.low B.o.2.2.1 a0.o.2,OwnL.low B.o.2.2.2.1 a0.o.2,d4.o,d5.o,d7.o,B.o.2.2.2.2.1.lower a5.o.2.2⟩⟩⟩
end Prf
end Go.Proofs.YtcjgimlcefhhmaaGreatDoor

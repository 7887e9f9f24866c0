/- Texts: PsJ. -/
import Derived.Test.YtcjgimlcefhhmaaGreatDoorC18
import Derived.Test.YtcjgimlcefhhmaaGreatDoorC19
set_option linter.unusedVariables false
set_option linter.unusedSimpArgs false
set_option maxRecDepth 100000
set_option maxHeartbeats 12800000
namespace Go.Proofs.YtcjgimlcefhhmaaGreatDoor
namespace Prf
open Go.RowKit Go.Lib
theorem in_I {n:Int}(h:In n):I64 n:=by unfold In at h;unfold I64;omega
theorem Jo.i {p:Prg}(h:Jo p):PrgI p:=by
 refine⟨fun v f=>?_,fun r c=>?_⟩
 ·have k:=h.2.2.1 v f;exact⟨in_I k.1,in_I k.2.1,in_I k.2.2.1⟩
 ·have k:=h.2.2.2 r c;have j:=h.1;refine⟨by have:=k.2.1;unfold I64;omega,by have:=k.1;unfold I64;omega,in_I k.2.2.2.1,fun t d=>?_⟩;obtain⟨i,a,rfl⟩:=List.getElem_of_mem d;have b:=M5 _ _ i _ (List.getElem?_eq_getElem a) k.2.2.2.2.2;have g:=Oo (Int.le_refl _) k.2.2.2.2.2 _ (List.getElem_mem a);exact⟨by unfold I64;omega,in_I b.2.2.2⟩
theorem Jo.nl {p:Prg}(h:Jo p):∀ r ∈ p.rows,r.name.length≤1000000:=fun r a=>by
 have:=(h.2.2.2 r a).2.2.1;omega
def P0 (p:Prg)(c:CutS)(base:Nat)(r:Value)(w:World):Prop:=
 (∃ (rs:RowS) (x:RowM),Kn p c rs∧r = .tuple #[rowV x,.int .i64 0]∧x.s=rs∧Ju w base (.slice x.tp x.terms.length x.tc) x.terms)∨((∀ rs,¬ Kn p c rs)∧∃ e:Int,e≠0∧r = .tuple #[.agg rowZ,.int .i64 e])
theorem Ju.lower {w:World}{base b:Nat}{v:Value}{l:List Ji}(h:Ju w base v l)(i:b≤base):Ju w b v l:=by
 refine⟨?_,h.2⟩;obtain⟨f,a⟩:=h.1;refine⟨f,?_⟩;rcases a with a|⟨g,c,d,k,j,r⟩
 ·exact .inl a
 ·exact .inr ⟨g,c,d,k,Nat.le_trans i j,r⟩
structure L8 (w W:World)(bc b4 b6:Nat)(cc:Array Value)(z:Int)(tv:Value)(ts:List Ji):Prop where
 g:Gr w W
 tc:Ja W bc cc
 t4:Ja W b4 rowZ
 t6:Ja W b6 #[.string ⟨cutName.toArray⟩,.int .i64 0,.int .i64 0,tv,.int .i64 z]
 tw:Ju W w.heap.size tv ts
 ne:∀ b,tv.ownBlock=some b→b≠bc∧b≠b4∧b≠b6
theorem L8.grow {w W a:World}{d b c:Nat}{f:Array Value}{z:Int}{tv:Value}{i:List Ji}(h:L8 w W d b c f z tv i)(g:Gr W a):L8 w a d b c f z tv i:=
 ⟨h.g.trans g,h.tc.grow g,h.t4.grow g,h.t6.grow g,h.tw.grow g,h.ne⟩
theorem L8.putT {w W d:World}{j i a:Nat}{r:Array Value}{z:Int}{tv f:Value}{q:List Ji}{t:Ji}(h:L8 w W j i a r z tv q)(B:w.heap.size≤a)(u:j≠a∧i≠a)
  (s:Ju d w.heap.size f (q ++ [t])) (c:W.grownBy d tv.ownBlock) (k:f.ownBlock=tv.ownBlock∨f.ownBlock=some W.heap.size):
  (d.cell? ⟨a,3,none⟩=some tv∧d.frozen? ⟨a,3,none⟩=false)∧L8 w (d.setCell ⟨a,3,none⟩ f) j i a r z f (q ++ [t]):=by
 have p:∀ b v,Ja W b v→(∀ g,tv.ownBlock=some g→g≠b)→d.heap[b]?=W.heap[b]?:=fun b v A l=>c.block b A.lt (fun e=>l b e.symm rfl);have m:=K3 h.t6 (p a _ h.t6 fun g c=>(h.ne g c).2.2);have x:=K3 h.tc (p j _ h.tc fun g c=>(h.ne g c).1);have c4:=K3 h.t4 (p i _ h.t4 fun g c=>(h.ne g c).2.1);have y:Gr w d:=OwnL.gr h.tw.1 h.g c;have o:=J5 d a 3 f;have l:∀ g,f.ownBlock=some g→g≠j∧g≠i∧g≠a:=fun g n=>by
  rcases k with k|k
  ·exact h.ne g (k ▸ n)
  ·rw[k] at n;obtain rfl:=Option.some.inj n;have C:=h.tc.lt;have D:=h.t4.lt;have E:=h.t6.lt;exact⟨by omega,by omega,by omega⟩
 refine⟨⟨m.at 3 rfl,Ja.f m 3⟩,⟨Gr.set y (by omega) _,x.upd o u.1,c4.upd o u.2,?_,s.same o (by simp[World.setCell]) (L4 s fun g c=>(l g c).2.2) rfl rfl rfl,l⟩⟩;have:=m.set 3 f;simpa using this
theorem J6W {a:Act}{o:Oper}{Q:Exit→Act→World→Prop}{K:Act→World→Prop}{w:World}(s x:Operand)(m:o.op = .call { callee:=.builtin .append,args:=#[s,x],argTypes:=#[40,40] })(base:Nat)(v vx:Value)(l:List Ji)(t:Ji)
  (q:a.eval s=v) (n:Ju w base v l) (r:a.eval x=vx) (k:Lg w vx [t]) (j:l.length≤1000000) (i:base≤w.heap.size)
  (h:∀ b w',Ju w' base b (l ++ [t])→w.grownBy w' v.ownBlock→Dk w w'→(b.ownBlock=v.ownBlock∨b.ownBlock=some w.heap.size)→K (a.put o.dst b) w'):Oper.wp Tryz.prog o a w K Q:=by
 obtain⟨b,w',p,c,d,f,g⟩:=V2 w base v vx l t o.type n k j i;unfold Oper.wp execOp;simp only[m,resolve,invoke,builtin,Sem.run_bind,Sem.run_pure,Result.andThen_ok,List.map_toArray,List.map_cons,List.map_nil,q,r,p];exact h b w' c d f g
theorem J5I (w:World)(v u:Value)(p:Prg)(c:CutS)(hp:Js w v p)(hc:Lc w u c 4)(f7:c.mult.length≤16)(b7:∀ x ∈ c.mult,Sz 4 x)(g8:c.vars.length≤1000)(hk:Jo p)(hw:Whole p)(hn:p.vars.length≤10)(hm:p.rows.length≤40):
  Calls Tryz.prog 156 #[v,u] w (Ret w (P0 p c w.heap.size)):=by
 obtain⟨HK,HW,HP,e0,e1⟩:=Z5 hk hw hp hc (P4 b7 f7 hk.2.2.2 hk.2.2.1 hm hn);clear hk hw b7;obtain⟨T,nm,Q,pv,nv,cv,rfl,c7,d6,rfl,rfl⟩:=hc.parts;obtain⟨e3,b3⟩:=Z2 c7 d6;clear hc c7 d6;obtain⟨va,vc,vb,vd,rfl,hv,hr⟩:=hp;have HR:=Z hr;have B0:=Ja.new w #[.slice va p.vars.length vc,.slice vb p.rows.length vd] 25;have B1:=Ja.new (w.alloc (.cells #[.slice va p.vars.length vc,.slice vb p.rows.length vd] 25)) #[.int .i64 c.kind,.slice T c.mult.length Q,.int .i64 c.row,.slice pv c.vars.length cv] 45;have N:=Ja.new ((w.alloc (.cells #[.slice va p.vars.length vc,.slice vb p.rows.length vd] 25)).alloc (.cells #[.int .i64 c.kind,.slice T c.mult.length Q,.int .i64 c.row,.slice pv c.vars.length cv] 45)) rowZ 42;simp only[World.size_alloc] at B1 N;unfold rowZ at N;have t:=Z (show _∧Ja _ _ #[.slice va p.vars.length vc,.slice vb p.rows.length vd]∧Ja _ _ #[.int .i64 c.kind,.slice T c.mult.length Q,.int .i64 c.row,.slice pv c.vars.length cv]∧Ja _ _ #[.string ⟨#[]⟩,.int .i64 0,.int .i64 0,.slice none 0 0,.int .i64 0] from⟨B0.1.trans (B1.1.trans N.1),B0.2.grow (B1.1.trans N.1),B1.2.grow N.1,N.2⟩);clear hv hr B0 B1 N;unfold prgV at HP ⊢;go_enter Tryz.func156,Tryz.ntmps156;go_wp2_with fail;generalize e9:w.heap.size+1+1=y at t ⊢;generalize f5:w.heap.size+1=bc at t ⊢;generalize f6:w.heap.size=bp at t ⊢;generalize ((w.alloc _).alloc _).alloc _=W at t ⊢;obtain⟨G,L,l,a,a0,g6⟩:=Z6 t.o.1 t.o.2.1 t.o.2.2.1 t.o.2.2.2 (show w.heap.size≤y from by omega) (show bc≠y from by omega);clear t e9 f6 f5;refine(Uv W _ p (HP.o.grow G.o) HK.o.i HK.o.nl (by omega) (by omega)).mono ?_;rintro _ w1 ⟨r1,rfl,g1,s⟩;obtain⟨G,L,l,a⟩:=Z4 (G.o.trans g1) (L.o.grow g1) (l.o.grow g1) (a.o.grow g1);rcases s.cases with⟨rfl,k1⟩|⟨rfl,k1⟩;rotate_left
 ·exact absurd HK.o k1
 clear s k1 g1;have X:=L.o.at 0 rfl;have Y:=L.o.at 1 rfl;have V:=l.o.at 0 rfl;have x1:=l.o.at 1 rfl;have x2:=l.o.at 2 rfl;have M:=l.o.at 3 rfl;go_wp2_with fail;clear X Y V x1 x2 M;refine(J5K w1 _ _ p c 4 (HP.o.grow G.o) (e0.o.grow G.o) (by omega) (by omega) (by omega) (by omega)).mono ?_;rintro _ U ⟨r2,rfl,R,S⟩;obtain⟨G,L,l,a⟩:=Z4 (G.o.trans R) (L.o.grow R) (l.o.grow R) (a.o.grow R);rcases S.cases with⟨rfl,k2⟩|⟨rfl,k2⟩;rotate_left
 ·have H:=Z (show ∀ q,¬ Kn p c q from fun q h=>k2 h.1);clear S k2 R;have c0:=a.o.at 0 rfl;have A:=a.o.at 1 rfl;have c2:=a.o.at 2 rfl;have c3:=a.o.at 3 rfl;have c4:=a.o.at 4 rfl;have B:=Ja.f (a.o) 0;have C:=Ja.f (a.o) 1;have D:=Ja.f (a.o) 2;have E:=Ja.f (a.o) 3;have F:=Ja.f (a.o) 4;have j:=Z (fill5 (.string ⟨#[]⟩) (.int .i64 0) (.int .i64 0) (.slice none 0 0) (.int .i64 0) (a.o) (G.o) a0.o);go_wp2_with fail;try rw[Exit.noGoto_ret]
  generalize ((((U.setCell _ _).setCell _ _).setCell _ _).setCell _ _).setCell _ _=W5 at j ⊢;clear c0 A c2 c3 c4 B C D E F;have z0:=j.o.2.1.at 0 rfl;have I:=j.o.2.1.at 1 rfl;have z2:=j.o.2.1.at 2 rfl;have z3:=j.o.2.1.at 3 rfl;have z4:=j.o.2.1.at 4 rfl;refine bodyPost_ret (by simp[results,Tryz.results156,go_sem,z0,I,z2,z3,z4];rfl) rfl ?_;exact⟨_,rfl,j.o.1,.inr ⟨H.o,1,by first|decide|exact a5.o,rfl⟩⟩
 have HF:=Z k2;clear S k2 R;have X:=L.o.at 0 rfl;have Y:=L.o.at 1 rfl;have V:=l.o.at 0 rfl;have x1:=l.o.at 1 rfl;have x2:=l.o.at 2 rfl;have M:=l.o.at 3 rfl;by_cases h0:c.kind=0
 ·have a9:=Z h0;rw[h0] at V;clear h0;go_wp2_with fail;clear X Y V x1 x2 M;obtain⟨e8,e5⟩:=Z2 a.o G.o.size;refine(J5L U _ p _ _ c.mult (HP.o.grow G.o) (e3.o.grow G.o) e1.o HK.o HW.o hn).mono ?_;rintro _ r ⟨r3,rfl,g3,O⟩;obtain⟨G,a⟩:=Z2 (G.o.trans g3) (a.o.grow g3);rcases O with⟨d0,x,rfl,d8,d7⟩|⟨c9,e,he,rfl⟩
  ·obtain⟨HX,HF,e2⟩:=Z3 (show x.s=roundRow p c.mult∧Ju r U.heap.size (.slice x.tp x.terms.length x.tc) x.terms from⟨d8,d7⟩) (show Kn p c (roundRow p c.mult) from⟨HF.o,.inl ⟨a9.o,d0,rfl⟩⟩) (show y < U.heap.size from e8.o.lt);clear d0 d8 d7 g3;unfold rowV;have c0:=a.o.at 0 rfl;have A:=a.o.at 1 rfl;have c2:=a.o.at 2 rfl;have c3:=a.o.at 3 rfl;have c4:=a.o.at 4 rfl;have B:=Ja.f a.o 0;have C:=Ja.f a.o 1;have D:=Ja.f a.o 2;have E:=Ja.f a.o 3;have F:=Ja.f a.o 4;have j:=Z (fill5 (.string ⟨x.name.toArray⟩) (.int .i64 x.group) (.int .i64 x.kind) (.slice x.tp x.terms.length x.tc) (.int .i64 x.bound) a.o G.o a0.o);go_wp2_with fail;try rw[Exit.noGoto_ret]
   have j:=Z (show _∧_∧Ju _ U.heap.size (.slice x.tp x.terms.length x.tc) x.terms from⟨j.o.1,j.o.2.1,HX.o.2.same j.o.2.2 (by simp[World.setCell]) (fun e=>by
    have:=(HX.o.2.1.lt _ e).1;have:=e2.o;omega) rfl rfl rfl⟩)
   generalize ((((r.setCell _ _).setCell _ _).setCell _ _).setCell _ _).setCell _ _=W5 at j ⊢;clear c0 A c2 c3 c4 B C D E F;have z0:=j.o.2.1.at 0 rfl;have I:=j.o.2.1.at 1 rfl;have z2:=j.o.2.1.at 2 rfl;have z3:=j.o.2.1.at 3 rfl;have z4:=j.o.2.1.at 4 rfl;refine bodyPost_ret (by simp[results,Tryz.results156,go_sem,z0,I,z2,z3,z4];rfl) rfl ?_;exact⟨_,rfl,j.o.1,.inl ⟨_,x,HF.o,rfl,HX.o.1,j.o.2.2.lower e5.o⟩⟩
  ·have H:=Z (show ∀ q,¬ Kn p c q from fun q h=>by
    rcases h.2 with⟨_,s,_⟩|⟨s,_⟩
    ·exact c9 s
    ·have:=a9.o;omega)
   have a5:=Z he;clear c9 he g3;unfold rowZ;have c0:=a.o.at 0 rfl;have A:=a.o.at 1 rfl;have c2:=a.o.at 2 rfl;have c3:=a.o.at 3 rfl;have c4:=a.o.at 4 rfl;have B:=Ja.f (a.o) 0;have C:=Ja.f (a.o) 1;have D:=Ja.f (a.o) 2;have E:=Ja.f (a.o) 3;have F:=Ja.f (a.o) 4;have j:=Z (fill5 (.string ⟨#[]⟩) (.int .i64 0) (.int .i64 0) (.slice none 0 0) (.int .i64 0) (a.o) (G.o) a0.o);go_wp2_with fail;try rw[Exit.noGoto_ret]
   generalize ((((r.setCell _ _).setCell _ _).setCell _ _).setCell _ _).setCell _ _=W5 at j ⊢;clear c0 A c2 c3 c4 B C D E F;have z0:=j.o.2.1.at 0 rfl;have I:=j.o.2.1.at 1 rfl;have z2:=j.o.2.1.at 2 rfl;have z3:=j.o.2.1.at 3 rfl;have z4:=j.o.2.1.at 4 rfl;refine bodyPost_ret (by simp[results,Tryz.results156,go_sem,z0,I,z2,z3,z4];rfl) rfl ?_;exact⟨_,rfl,j.o.1,.inr ⟨H.o,e,by first|decide|exact a5.o,rfl⟩⟩
 ·have P:=HF.o;obtain⟨a3,-,g4,g5,c8,-,b5⟩:c.kind=1∧c.mult=[]∧0≤c.row∧c.row < (p.rows.length:Int)∧c.vars≠[]∧IncI (-1) c.vars∧∀ v ∈ c.vars,Kb p v:=by
   rcases P with h|h
   ·exact absurd h.1 h0
   ·exact h
  obtain⟨rk,a7⟩:∃ n:Nat,c.row=(n:Int):=⟨c.row.toNat,by omega⟩
  have d3:rk < p.rows.length:=by omega
  obtain⟨q,d4⟩:∃ q,p.rows[rk]?=some q:=⟨_,List.getElem?_eq_getElem d3⟩
  obtain⟨d9,e4,b0,b2,a6⟩:=Z5 b5 c8 a3 a7 d4;rw[a3] at V;rw[a7] at x2;clear h0 P b5 c8 a3 a7 d4 g4 g5 d3;go_wp2_with fail;clear X Y V x1 x2 M;refine(J5J U _ p rk q c.vars pv cv (HP.o.grow G.o) a6.o HK.o HW.o hn d9.o (b3.o.grow G.o) e4.o (by omega)).mono ?_;rintro _ r ⟨r3,rfl,g3,O⟩;obtain⟨G,l,a⟩:=Z3 (G.o.trans g3) (l.o.grow g3) (a.o.grow g3);rcases O.cases with⟨rfl,k3⟩|⟨rfl,k3⟩;rotate_left
  ·have H:=Z (show ∀ q,¬ Kn p c q from fun rt h=>by
    rcases h.2 with⟨s,_⟩|⟨_,⟨x,hx,hc⟩,_⟩
    ·have:=b0.o;omega
    ·have e:c.row.toNat=rk:=by have:=b2.o;omega
     rw[e,a6.o] at hx;obtain rfl:=Option.some.inj hx;exact k3 hc)
   clear O k3 g3;have c0:=a.o.at 0 rfl;have A:=a.o.at 1 rfl;have c2:=a.o.at 2 rfl;have c3:=a.o.at 3 rfl;have c4:=a.o.at 4 rfl;have B:=Ja.f (a.o) 0;have C:=Ja.f (a.o) 1;have D:=Ja.f (a.o) 2;have E:=Ja.f (a.o) 3;have F:=Ja.f (a.o) 4;have j:=Z (fill5 (.string ⟨#[]⟩) (.int .i64 0) (.int .i64 0) (.slice none 0 0) (.int .i64 0) (a.o) (G.o) a0.o);go_wp2_with fail;try rw[Exit.noGoto_ret]
   generalize ((((r.setCell _ _).setCell _ _).setCell _ _).setCell _ _).setCell _ _=W5 at j ⊢;clear c0 A c2 c3 c4 B C D E F;have z0:=j.o.2.1.at 0 rfl;have I:=j.o.2.1.at 1 rfl;have z2:=j.o.2.1.at 2 rfl;have z3:=j.o.2.1.at 3 rfl;have z4:=j.o.2.1.at 4 rfl;refine bodyPost_ret (by simp[results,Tryz.results156,go_sem,z0,I,z2,z3,z4];rfl) rfl ?_;exact⟨_,rfl,j.o.1,.inr ⟨H.o,13,by first|decide|exact a5.o,rfl⟩⟩
  have HD:=Z (show Kn p c (coverRow c.vars) from⟨HF.o,.inr ⟨b0.o,⟨q,by rw[show c.row.toNat=rk from by have:=b2.o;omega];exact a6.o,k3⟩,rfl⟩⟩);clear O k3 g3;have M:=l.o.at 3 rfl;have h5:IntKind.i64.wrap ((c.vars.length:Int) - 1)=(c.vars.length:Int) - 1:=by rw[IntKind.wrap_i64];omega
  have B6:=Ja.new r #[.string ⟨cutName.toArray⟩,.int .i64 0,.int .i64 0,.slice none 0 0,.int .i64 ((c.vars.length:Int) - 1)] 42;have a1:=Z (show L8 w _ bc y r.heap.size #[.int .i64 c.kind,.slice T c.mult.length Q,.int .i64 c.row,.slice pv c.vars.length cv] ((c.vars.length:Int) - 1) (.slice none 0 0) ((c.vars.take 0).map fun v=>(⟨v,1⟩:Ji)) from
   ⟨G.o.trans B6.1,l.o.grow B6.1,a.o.grow B6.1,B6.2,Ju.nil _ _,fun b h=>by cases h⟩)
  have a2:=Z (show w.heap.size≤r.heap.size∧bc≠r.heap.size∧y≠r.heap.size from⟨G.o.size,by have:=l.o.lt;omega,by have:=a.o.lt;omega⟩);unfold cutName at a1;clear B6 G l a;go_wp2_with fail;clear M;generalize r.heap.size=b6 at a1 a2 ⊢;generalize r.alloc _=W4 at a1 ⊢;go_loopw [7] (fun i w9=>∃ (k:Nat) (tv:Value),i = .int .i64 (k:Int)∧k≤c.vars.length∧L8 w w9 bc y b6 #[.int .i64 c.kind,.slice T c.mult.length Q,.int .i64 c.row,.slice pv c.vars.length cv] ((c.vars.length:Int) - 1) tv ((c.vars.take k).map fun v=>(⟨v,1⟩:Ji))) (fun i _=>c.vars.length - (RowKit.intOf i).toNat)
  case atStart=>exact⟨0,_,rfl,Nat.zero_le _,a1.o⟩
  case round=>
   clear a1;obtain⟨k,tv,rfl,hk,d5⟩:=hrel;have f:=Z d5;clear d5;have M:=f.o.tc.at 3 rfl;by_cases f8:k < c.vars.length
   ·have h6:(k:Int) < (c.vars.length:Int):=by omega
    have a3:IntKind.i64.wrap ((k:Int)+1)=(k:Int)+1:=by rw[IntKind.wrap_i64];omega
    obtain⟨b,o,z,rfl,hz,b8⟩:=Lm b3.o rfl f8;have e6:=Z (show(c.vars.take (k+1)).map (fun v=>(⟨v,1⟩:Ji))=((c.vars.take k).map fun v=>(⟨v,1⟩:Ji)) ++ [⟨z,1⟩] from by rw[List.take_add_one,hz];simp);go_wp2_with fail;have z0:=fun w' g=>b8 w' (f.o.g.trans g);have c3:=f.o.tc.c 3 rfl;have c6:=f.o.t6.c 3 rfl;have g0:Gr wr wr.drew:=(Gr.refl _).drew;clear M hz b8;refine Stip.Vq [(0,true),(1,true),(2,true),(3,true),(4,true),(5,true),(6,true),(7,true),(8,false),(9,false),(10,true),(11,false)] (by kernel_rfl) (by kernel_rfl) rfl (by kernel_rfl) (fun _ _ d _ _ h=>by cases d<;>exact h) ?_;repeat(refine Stip.Se (v:=?_) g0 rfl rfl (fun w' hg=>?_) (fun K m=>?_);rotate_left;(go_simp;rfl);go_simp;refine m _ _ ?_;clear m K)
    have f:=Z (f.o.grow g0);clear z0 c3 c6 g0;generalize wr.drew=w5 at f ⊢;refine Stip.Jj rfl rfl (fun K m=>?_);go_simp;have BS:=SlL.new (enc:=encTerm) (sz:=2) w5 75 Mm [⟨z,1⟩] #[.int .i64 z,.int .i64 1] 1 rfl rfl (by decide);refine⟨fun _=>BS.1,m _ _ ?_⟩;clear m K;obtain⟨f,a4⟩:=Z2 (f.o.grow BS.1) BS.2;clear BS;generalize w5.heap.size=bs at a4 ⊢;generalize w5.alloc _=w6 at f a4 ⊢;refine Stip.Jj rfl rfl (fun K m=>?_);refine J6W _ _ rfl w.heap.size tv _ ((c.vars.take k).map fun v=>(⟨v,1⟩:Ji)) ⟨z,1⟩ rfl f.o.tw rfl a4.o (by simp;omega) f.o.g.size ?_;intro i0 w7 s S O h4;refine⟨fun h=>Bool.noConfusion h,m _ _ ?_⟩;clear m K;obtain⟨⟨q1,q2⟩,q3⟩:=f.o.putT a2.o.1 a2.o.2 s S h4;obtain⟨pt,ct,d1⟩:=Li s;obtain⟨ln,b9⟩:∃ n,(((c.vars.take k).map fun v=>(⟨v,1⟩:Ji)) ++ ([⟨z,1⟩]:List Ji)).length=n:=⟨_,rfl⟩
    rw[b9] at d1;subst d1;obtain⟨h9,g7,d2⟩:=Li f.o.tw;obtain⟨h8,c5⟩:∃ n,((c.vars.take k).map fun v=>(⟨v,1⟩:Ji)).length=n:=⟨_,rfl⟩
    rw[c5] at d2;subst d2;have b1:=Z q3;clear s S O h4 q3 b9 c5;have g9:=Gr.refl w7;repeat(refine Stip.Se (v:=?_) g9 rfl rfl (fun w' hg=>?_) (fun K m=>?_);rotate_left;(go_simp;rfl);go_simp;refine m _ _ ?_;clear m K)
    refine Stip.Jj rfl rfl (fun K m=>?_);go_simp;refine⟨fun h=>Bool.noConfusion h,m _ _ ?_⟩;clear m K;refine Stip.Jg ?_;clear q1 q2 g9;generalize w7.setCell _ _=W7 at b1 ⊢;go_wp2_with fail;refine⟨⟨k+1,_,by go_num,by omega,by rw[e6.o];exact b1.o⟩,by simp[RowKit.intOf];omega⟩
   ·obtain rfl:k=c.vars.length:=by omega
    obtain⟨ts,a8⟩:∃ ts,(c.vars.map fun v=>(⟨v,1⟩:Ji))=ts:=⟨_,rfl⟩
    obtain⟨e7,f⟩:=Z2 a8 (show L8 w wr bc y b6 #[.int .i64 c.kind,.slice T c.mult.length Q,.int .i64 c.row,.slice pv c.vars.length cv] ((c.vars.length:Int) - 1) tv ts from by have:=f.o;rwa [List.take_length,a8] at this);clear a8;obtain⟨pt,ct,rfl⟩:=Li f.o.tw;have X:=f.o.t6.at 0 rfl;have Y:=f.o.t6.at 1 rfl;have y2:=f.o.t6.at 2 rfl;have y3:=f.o.t6.at 3 rfl;have y4:=f.o.t6.at 4 rfl;have c0:=f.o.t4.at 0 rfl;have A:=f.o.t4.at 1 rfl;have c2:=f.o.t4.at 2 rfl;have c3:=f.o.t4.at 3 rfl;have c4:=f.o.t4.at 4 rfl;have B:=Ja.f f.o.t4 0;have C:=Ja.f f.o.t4 1;have D:=Ja.f f.o.t4 2;have E:=Ja.f f.o.t4 3;have F:=Ja.f f.o.t4 4;have f9:¬ y=b6:=a2.o.2.2;have h7:¬ b6=y:=fun e=>f9 e.symm;have P:=fill5 (.string ⟨cutName.toArray⟩) (.int .i64 0) (.int .i64 0) (.slice pt ts.length ct) (.int .i64 ((c.vars.length:Int) - 1)) f.o.t4 f.o.g a0.o;have J:=Z (show _∧_∧Ju _ w.heap.size _ _ from⟨P.1,P.2.1,f.o.tw.same P.2.2 (by simp[World.setCell]) (L4 f.o.tw fun g hg=>(f.o.ne g hg).2.1) rfl rfl rfl⟩);clear P;go_wp2_with fail;clear c0 A c2 c3 c4 B C D E F X Y y2 y3 y4;try rw[Exit.noGoto_ret]
    generalize ((((wr.setCell _ _).setCell _ _).setCell _ _).setCell _ _).setCell _ _=W6 at J ⊢;have z0:=J.o.2.1.at 0 rfl;have I:=J.o.2.1.at 1 rfl;have z2:=J.o.2.1.at 2 rfl;have z3:=J.o.2.1.at 3 rfl;have z4:=J.o.2.1.at 4 rfl;refine bodyPost_ret (by simp[results,Tryz.results156,go_sem,z0,I,z2,z3,z4];rfl) rfl ?_;exact⟨_,rfl,J.o.1,.inl ⟨coverRow c.vars,⟨cutName,0,0,pt,ct,ts,(c.vars.length:Int) - 1⟩,HD.o,rfl,by unfold coverRow;rw[e7.o];rfl,J.o.2.2⟩⟩
end Prf
end Go.Proofs.YtcjgimlcefhhmaaGreatDoor

/- Texts: PsC PsD PsE PsG PsH PsI. -/
import Derived.Test.YtcjgimlcefhhmaaGreatDoorC17
set_option linter.unusedVariables false
set_option linter.unusedSimpArgs false
set_option maxRecDepth 100000
set_option maxHeartbeats 12800000
namespace Go.Proofs.YtcjgimlcefhhmaaGreatDoor
namespace Prf
open Go.RowKit Go.Lib
def J9 (w:World)(b:Nat)(s:Rat):Prop:=∃ t:RatM,Jn w b (.bool t.n) (.slice t.p t.k t.c) (.slice t.q t.m t.e)∧RatC w t.v s
theorem J9.grow {w w':World}{b:Nat}{s:Rat}(h:J9 w b s)(g:Gr w w'):J9 w' b s:=by
 obtain⟨t,c,d⟩:=h;exact⟨t,c.grow g,d.grow g⟩
theorem J9.upd {w w':World}{b b':Nat}{s:Rat}(h:J9 w b s)(g:Kp w b')(c:Upd b' w w')(i:b≠b'):J9 w' b s:=by
 obtain⟨t,d,f⟩:=h;exact⟨t,d.upd c i,f.upd g c⟩
theorem J9.noInt {w:World}{b:Nat}{s:Rat}(h:J9 w b s):Kp w b:=by
 obtain⟨t,c,d⟩:=h;exact c.noInt
theorem J9.lt {w:World}{b:Nat}{s:Rat}(h:J9 w b s):b < w.heap.size:=by
 obtain⟨t,c,d⟩:=h;exact c.lt
theorem Jq.lt {w:World}{b n:Nat}{a:Nat→Rat}{L:Nat}(h:Jq w b n a L):b < w.heap.size:=by
 obtain⟨T,c,_⟩:=h;exact c.lt
theorem J9.put {w:World}{b:Nat}{s s':Rat}{t:RatM}(h:J9 w b s)(f:RatC w t.v s'):J9 (set3 w b (.bool t.n) (.slice t.p t.k t.c) (.slice t.q t.m t.e)) b s':=by
 have d:=h.noInt;obtain⟨u,c,_⟩:=h;exact⟨t,c.set _ _ _,f.upd d (upd3 w b _ _ _)⟩
theorem N5 {w:World}{v:Value}{s:Rat}(h:RatC w v s):∃ t:RatM,v=t.v∧RatC w t.v s:=by
 obtain⟨n,p,k,c,q,m,e,rfl⟩:=RatC.agg h;exact⟨⟨n,p,k,c,q,m,e⟩,rfl,h⟩
structure K6 (w W:World)(bp b5 bo b7:Nat)(u0 u1:Value)(n:Nat)(a:Nat→Rat)(s:Rat):Prop where
 g:Gr w W
 tp:Ja W bp #[u0,u1]
 t5:Jn W b5 (.bool false) (.slice none 0 0) (.slice none 0 0)
 ro:Jq W bo n a 80
 t7:J9 W b7 s
theorem K6.grow {w W b:World}{bp c bo b7:Nat}{u0 u1:Value}{n:Nat}{a:Nat→Rat}{s:Rat}(h:K6 w W bp c bo b7 u0 u1 n a s)(g:Gr W b):K6 w b bp c bo b7 u0 u1 n a s:=
 ⟨h.g.trans g,h.tp.grow g,h.t5.grow g,h.ro.grow g,h.t7.grow g⟩
theorem Sj (w:World):RatC w zeroRat.v 0:=by
 unfold RatC;have b:decide ((0:Rat).num < 0)=false:=by decide
 have c:digs (0:Rat).num.natAbs=[]:=by decide +kernel
 have d:dd (0:Rat).den=[]:=by decide +kernel
 rw[b,c,d];exact⟨none,0,0,none,0,0,rfl,NatL.nil w,NatL.nil w⟩
structure Sm (w:World)(bp b5 bo b7:Nat):Prop where
 o:w.heap.size≤bo
 b:w.heap.size≤b7
 po:bp≠bo
 p7:bp≠b7
 o5:b5≠bo
 o57:b5≠b7
 o7:b7≠bo
 c:w.heap.size≤b5
theorem Pi {w W:World}(g:Gr w W){b:Nat}(c:w.heap.size≤b)(k:Nat)(t:RatM):Gr w (setRat W b k t):=by
 unfold setRat;exact Gr.set (Gr.set (Gr.set g (by omega) _) (by omega) _) (by omega) _
theorem Ks {w W:World}(g:Gr w W){b:Nat}(c:w.heap.size≤b)(x y z:Value):Gr w (set3 W b x y z):=by
 unfold set3;exact Gr.set (Gr.set (Gr.set g (by omega) _) (by omega) _) (by omega) _
theorem K6.putO {w W:World}{bp d bo b7:Nat}{u0 u1:Value}{n:Nat}{a c:Nat→Rat}{s:Rat}(h:K6 w W bp d bo b7 u0 u1 n a s)(b:Sm w bp d bo b7){k:Nat}(g:k < n){t:RatM}(l:RatV W t.v (c k) 80)(e:∀ i,i < n→i≠k→a i=c i):
  K6 w (setRat W bo k t) bp d bo b7 u0 u1 n c s:=
 have f:=Nb W bo k t;have j:=h.ro.noInt
 ⟨Pi h.g b.o k t,h.tp.upd f b.po,h.t5.upd f b.o5,h.ro.set g l e,h.t7.upd j f b.o7⟩
theorem K6.putB {w W:World}{bp c bo b7:Nat}{u0 u1:Value}{n:Nat}{a:Nat→Rat}{s s':Rat}(h:K6 w W bp c bo b7 u0 u1 n a s)(b:Sm w bp c bo b7){t:RatM}(g:RatC W t.v s'):
  K6 w (set3 W b7 (.bool t.n) (.slice t.p t.k t.c) (.slice t.q t.m t.e)) bp c bo b7 u0 u1 n a s':=
 have d:=upd3 W b7 (.bool t.n) (.slice t.p t.k t.c) (.slice t.q t.m t.e);have f:=h.t7.noInt
 ⟨Ks h.g b.b _ _ _,h.tp.upd d b.p7,h.t5.upd d b.o57,h.ro.upd f d b.o7.symm,h.t7.put g⟩
theorem Yr:(Tryz.prog.info? 68).map (fun i=>(i.zero,i.size,i.bytes))=some (some (.agg #[.bool false,.slice none 0 0,.slice none 0 0]),3,56):=by kernel_rfl
theorem J4a (n:Nat):madeCells (Value.agg #[.bool false,.slice none 0 0,.slice none 0 0]).cells (n * 3)=((List.replicate n zeroRat).flatMap encRat).toArray:=by
 apply Array.ext';refine List.ext_getElem? fun m=>?_;by_cases f:m < n * 3
 ·have c:m=m / 3 * 3+m % 3:=by omega
  have b:=Om L9 (List.replicate n zeroRat) (m / 3) zeroRat (m % 3) (by rw[List.getElem?_replicate,if_pos (by omega)]) (by omega);rw[← c] at b;rw[List.toList_toArray,b];have d:m % 3=0∨m % 3=1∨m % 3=2:=by omega
  simp only[madeCells,Value.cells];rcases d with h|h|h<;>simp[h,f,encRat,zeroRat,Value.cells]
 ·rw[List.getElem?_eq_none (by simp[madeCells];omega),List.getElem?_eq_none (by simp[K4 L9];omega)]
section
variable {ops:Array Oper}{rest:List Oper}{o:Oper}{a:Act}{Q:Exit→Act→World→Prop}{w:World}
theorem Pv (d:o.guard=none)(x y:Operand)(t:TypeId)(g:o.op = .makeSlice t x y)(j:Tryz.prog.underlying t=some (.slice 68))(n:Nat)(e:Int)(k:a.eval x = .int .i64 e)(l:a.eval y = .int .i64 e)(c:e=n)
  (r:n≤1000000) (h:∀ w',Jq w' w.heap.size n (fun _=>0) 80→Gr w w'→wpList Tryz.prog ops Q rest (a.put o.dst (.slice (some ⟨w.heap.size,0,none⟩) n n)) w'):wpList Tryz.prog ops Q (o :: rest) a w:=by
 subst c;obtain⟨i0,f,m,p,q⟩:=info_parts Yr;refine wpList_plain d (fun K b=>?_);have i:=run_make (P:=Tryz.prog) w t 68 i0 (.agg #[.bool false,.slice none 0 0,.slice none 0 0]) j f m .i64 .i64 n n (by omega) (by omega) (by rw[q];omega) (by omega);unfold Oper.wp execOp;simp only[g,k,l,Sem.run_bind,Sem.run_pure,Result.andThen_ok,i,Oper.upon,Int.toNat_natCast];refine b _ _ (h _ ?_ ((Gr.refl w).alloc _));refine Jq.zero 80 ⟨_,heap_alloc_new w _⟩ ?_;rw[p,J4a]
end
theorem Xd {p:Prg}{y:List Rat}{i:Nat}{r:RowS}(h:p.rows[i]?=some r)(j:Nat):sumQ (cA p y j) (i+1)=sumQ (cA p y j) i+(rowCoef (r.terms.take r.terms.length) j:Rat) * atQ y i:=by
 rw[Ls,List.take_length];unfold cA;simp only[h]
theorem J2B {p:Prg}{y:List Rat}{i:Nat}{r:RowS}(h:p.rows[i]?=some r):sumQ (cB p y) (i+1)=sumQ (cB p y) i+(r.bound:Rat) * atQ y i:=by
 rw[Ls];unfold cB;simp only[h]
theorem Na {l:List Ji}{k:Nat}{t:Ji}(h:l[k]?=some t)(j:Nat):rowCoef (l.take (k+1)) j=rowCoef (l.take k) j+if t.v=(j:Int) then t.c else 0:=by
 have b:=(List.getElem?_eq_some_iff.1 h).1;rw[List.take_succ_eq_append_getElem b];have e:l[k]=t:=(List.getElem?_eq_some_iff.1 h).2;rw[e];unfold rowCoef;simp
theorem J0D (w:World)(v:Value)(p:Prg)(q:Option Addr)(c:Nat)(y:List Rat)(hp:Js w v p)(hy:L1 w (.slice q y.length c) y 4)(hc:Calm p y)(hk:Jo p):
  Calls Tryz.prog 153 #[v,.slice q y.length c] w (Ret w fun r w'=>∃ b u,r = .tuple #[.slice (some ⟨b,0,none⟩) p.vars.length p.vars.length,u]∧w.heap.size≤b∧Jq w' b p.vars.length (combA p y) 80∧RatC w' u (combB p y)):=by
 obtain⟨HY,HC,HK⟩:=Z3 hy hc hk;have hn:=hk.1;have hm:=hk.2.1;clear hy hc hk;obtain⟨va,vc,vb,vd,rfl,hv,hr⟩:=hp;obtain⟨HV,HR⟩:=Z2 hv hr;clear hv hr;obtain⟨g1,t0,t1⟩:=box23 w (.slice va p.vars.length vc) (.slice vb p.rows.length vd) (.bool false) (.slice none 0 0) (.slice none 0 0) 25 68;have M:=Z (show _∧Ja _ _ #[.slice va p.vars.length vc,.slice vb p.rows.length vd]∧_ from⟨g1,t0,t1⟩);unfold prgV;clear g1 t0 t1;go_enter Tryz.func153,Tryz.ntmps153;go_wp2_with (at_make;refine Hold.hold ?_);generalize e3:w.heap.size+1=B at M ⊢;generalize e4:w.heap.size=bp at M ⊢;generalize (w.alloc _).alloc _=W at M ⊢;obtain⟨G,TP,T5,b1⟩:=Z4 M.o.1 M.o.2.1 M.o.2.2 (show w.heap.size≤B∧w.heap.size≤bp∧bp≠B from by omega);clear M e3 e4;refine Hold.go ?_;refine Pv rfl _ _ 33 rfl (by kernel_rfl) p.vars.length _ rfl rfl rfl (by omega) ?_;intro N ho g1;have a0:=Z (show w.heap.size≤W.heap.size∧bp≠W.heap.size∧B≠W.heap.size from by
  have P:=TP.o.lt;have R:=T5.o.lt;have F:=G.o.size;omega)
 generalize W.heap.size=bo at ho a0 ⊢;have S:=box3 N (.bool false) (.slice none 0 0) (.slice none 0 0) 68;have a4:=Z (show K6 w (N.alloc (.cells #[.bool false,.slice none 0 0,.slice none 0 0] 68)) bp B bo N.heap.size (.slice va p.vars.length vc) (.slice vb p.rows.length vd) p.vars.length (fun _=>0) 0 from
  ⟨(G.o.trans g1).trans S.1,(TP.o.grow g1).grow S.1,(T5.o.grow g1).grow S.1,ho.grow S.1,zeroRat,S.2,by
   have:=Sj (N.alloc (.cells #[.bool false,.slice none 0 0,.slice none 0 0] 68));exact this⟩)
 have U:=Z (show Sm w bp B bo N.heap.size from by
  have P:=(TP.o.grow g1).lt;have R:=(T5.o.grow g1).lt;have F:=ho.lt;have h4:=(G.o.trans g1).size;exact⟨a0.o.1,h4,a0.o.2.1,by omega,a0.o.2.2,by omega,by omega,b1.o.1⟩)
 clear ho g1 S a0 TP T5 G b1;go_wp2_with fail;generalize N.heap.size=b7 at a4 U ⊢;generalize N.alloc _=W2 at a4 ⊢;go_loopw [8] (fun i w9=>∃ k:Nat,i = .int .i64 (k:Int)∧k≤p.rows.length∧K6 w w9 bp B bo b7 (.slice va p.vars.length vc) (.slice vb p.rows.length vd) p.vars.length (fun j=>sumQ (cA p y j) k) (sumQ (cB p y) k)) (fun i _=>p.rows.length - (RowKit.intOf i).toNat)
 case atStart=>exact⟨0,rfl,Nat.zero_le _,a4.o⟩
 case round=>
  clear a4;obtain⟨k,rfl,hk,hq⟩:=hrel;have d:=Z hq;clear hq;have y1:=d.o.tp.at 1 rfl;by_cases e7:k < p.rows.length
  ·have f8:(k:Int) < (p.rows.length:Int):=by omega
   obtain⟨b,o,x,rfl,hx,c5,hc⟩:=HR.o.at e7;obtain⟨c0,c1,c2,c3,c4⟩:=hc _ d.o.g;obtain⟨HX,b2,a3⟩:=Z3 hx c5 (HK.o.2.2.2 _ (List.mem_of_getElem? hx));clear hc hx c5;have B9:=Ja.new wr #[.string ⟨x.name.toArray⟩,.int .i64 x.group,.int .i64 x.kind,.slice x.tp x.terms.length x.tc,.int .i64 x.bound] 42;have T:=Z (show K6 w _ bp B bo b7 _ _ p.vars.length _ _∧Gr wr _∧Ja _ _ _∧wr.heap.size≠bo∧wr.heap.size≠b7 from⟨d.o.grow B9.1,B9.1,B9.2,by have:=d.o.ro.lt;omega,by have:=d.o.t7.lt;omega⟩);clear B9;go_wp2_with fail;clear c0 c1 c2 c3 c4 y1;generalize wr.heap.size=b9 at T ⊢;generalize wr.alloc _=W9 at T ⊢;obtain⟨E,d3,V⟩:=Z3 (show Ja W9 b9 #[.string ⟨x.name.toArray⟩,.int .i64 x.group,.int .i64 x.kind,.slice x.tp x.terms.length x.tc,.int .i64 x.bound] from T.o.2.2.1) T.o.2.2.2 T.o.1;clear T d;go_loopw [10] (fun i w9=>∃ m:Nat,i = .int .i64 (m:Int)∧m≤x.terms.length∧K6 w w9 bp B bo b7 (.slice va p.vars.length vc) (.slice (some ⟨b,o,none⟩) p.rows.length vd) p.vars.length (fun j=>sumQ (cA p y j) k+(rowCoef (x.terms.take m) j:Rat) * atQ y k) (sumQ (cB p y) k)∧Ja w9 b9 #[.string ⟨x.name.toArray⟩,.int .i64 x.group,.int .i64 x.kind,.slice x.tp x.terms.length x.tc,.int .i64 x.bound]) (fun i _=>x.terms.length - (RowKit.intOf i).toNat)
   case atStart=>exact⟨0,rfl,Nat.zero_le _,⟨V.o.g,V.o.tp,V.o.t5,V.o.ro.congr fun j _=>by simp[rowCoef];grind,V.o.t7⟩,E.o⟩
   case round=>
    clear V E;obtain⟨m,rfl,f9,hq,c6⟩:=hrel;obtain⟨d,E⟩:=Z2 hq c6;clear hq c6;have y3:=E.o.at 3 rfl;have g6:=Lg.big b2.o;by_cases e6:m < x.terms.length
    ·have f7:(m:Int) < (x.terms.length:Int):=by omega
     obtain⟨bt,ot,tm,b0,ht,a7⟩:=O0 b2.o rfl e6;obtain⟨Y,O⟩:=a7 _ d.o.g;rw[b0] at y3;obtain⟨HT,b6,b3⟩:=Z3 ht (Oo (Int.le_refl _) a3.o.2.2.2.2.2 tm (List.mem_of_getElem? ht)) (M5 _ _ _ _ ht a3.o.2.2.2.2.2);obtain⟨l,a9⟩:∃ l:Nat,tm.v=(l:Int):=⟨tm.v.toNat,by have:=b6.o.1;omega⟩
     have a8:l < p.vars.length:=by have:=b6.o.2;omega
     have f6:(l:Int) < (p.vars.length:Int):=by omega
     have e9:(0:Int)≤(l:Int):=by omega
     rw[a9] at Y;obtain⟨HJ,d5,c9⟩:=Z3 a9 b0 a7;clear ht a7 a9 b0;go_wp2_with fail;clear Y O y3;have y3:=E.o.c 3 rfl;rw[show(#[.string ⟨x.name.toArray⟩,.int .i64 x.group,.int .i64 x.kind,.slice x.tp x.terms.length x.tc,.int .i64 x.bound]:Array Value)[3] = .slice (some ⟨bt,ot,none⟩) x.terms.length x.tc from by show Value.slice x.tp _ _=_;rw[d5.o]] at y3;have O:=fun w' g=>(c9.o w' (d.o.g.trans g)).2;obtain⟨t0,c7,a5⟩:=d.o.ro.at a8;have e0:=fun w' g=>(a5 w' g).1;have e1:=fun w' g=>(a5 w' g).2.1;have e2:=fun w' g=>(a5 w' g).2.2;have d6:=Z c7;clear c7 a5;have C:Gr wr wr.drew:=(Gr.refl _).drew;have f:=Z C;refine Jl [(0,true),(1,true),(2,true),(3,true),(4,true),(5,true),(6,true),(7,true),(8,true),(9,true),(10,true),(11,true),(12,true),(13,true),(14,false),(15,false),(16,false),(17,true),(18,false)] ?_;repeat(refine Jc C (h:=?_))
     refine Je (k:=Uu _ q c y 4 k (HY.o.grow (d.o.g.trans f.o))) (h:=?_);rintro r1 w1 g1 P;have f:=Z (f.o.trans g1);refine Je (k:=Ry _ tm.c r1 (atQ y k) _ 4 b3.o.2.2.2 P rfl (by decide)) (h:=?_);rintro r2 w2 g2 R;have f:=Z (f.o.trans g2);clear P;refine Je (k:=Pq _ _ _ _ _ _ 80 80 (d6.o.grow f.o) (R.v (HC.o.t tm.c k b3.o.2.2.2)) rfl (by decide) (by decide)) (h:=?_);rintro r3 L g3 F;have f:=Z (f.o.trans g3);clear R;have g4:=f.o;repeat(refine Jc g4 (h:=?_))
     obtain⟨d,E⟩:=Z2 (d.o.grow f.o) (E.o.grow f.o);obtain⟨s8,p8,k8,X,e8,m8,n8,rfl⟩:=F.agg;obtain⟨t1,-,b8⟩:=d.o.ro.at a8;obtain⟨f0,f1,f2⟩:=b8 L (Gr.refl _);have f3:=d.o.ro.f (l * 3);have f4:=d.o.ro.f (l * 3+1);have f5:=d.o.ro.f (l * 3+2);clear e0 e1 e2 O y3 b8;have I:=Z (show K6 w (setRat L bo l ⟨s8,p8,k8,X,e8,m8,n8⟩) bp B bo b7 _ _ p.vars.length (fun j=>sumQ (cA p y j) k+(rowCoef (x.terms.take (m+1)) j:Rat) * atQ y k) _ from
      d.o.putO U.o a8 (t:=⟨s8,p8,k8,X,e8,m8,n8⟩) (by
       have e:sumQ (cA p y l) k+(rowCoef (x.terms.take (m+1)) l:Rat) * atQ y k=sumQ (cA p y l) k+(rowCoef (x.terms.take m) l:Rat) * atQ y k+(tm.c:Rat) * atQ y k:=by
        rw[Na HT.o,if_pos HJ.o,Rat.intCast_add];grind
       show RatV L _ (sumQ (cA p y l) k+(rowCoef (x.terms.take (m+1)) l:Rat) * atQ y k) 80;have hz:Sz 80 (sumQ (cA p y l) k+(rowCoef (x.terms.take (m+1)) l:Rat) * atQ y k):=HC.o.ak k l (m+1) _ HX.o;rw[e] at hz ⊢;exact F.v hz) (fun i hi g5=>by
        show sumQ (cA p y i) k+(rowCoef (x.terms.take m) i:Rat) * atQ y k=sumQ (cA p y i) k+(rowCoef (x.terms.take (m+1)) i:Rat) * atQ y k;rw[Na HT.o,if_neg (by rw[HJ.o];omega)];simp))
     have a2:=Z (E.o.upd (Nb L bo l ⟨s8,p8,k8,X,e8,m8,n8⟩) d3.o.1);clear F;refine Jj rfl rfl (fun K J=>?_);go_simp;refine⟨fun h=>Bool.noConfusion h,J _ _ ?_⟩;clear J K;unfold setRat at I a2;dsimp only at I a2;generalize ((L.setCell _ _).setCell _ _).setCell _ _=W5 at I a2 ⊢;refine Jg ?_;clear f0 f1 f2 f3 f4 f5 C g1 g2 g3 g4;have e5:IntKind.i64.wrap ((m:Int)+1)=(m:Int)+1:=by rw[IntKind.wrap_i64];omega
     go_wp2_with fail;exact⟨⟨m+1,by go_num,by omega,I.o,a2.o⟩,by simp[RowKit.intOf];omega⟩
    ·obtain rfl:m=x.terms.length:=by omega
     go_wp2_with fail;clear y3;have d:=Z (show K6 w wr bp B bo b7 _ _ p.vars.length (fun j=>sumQ (cA p y j) (k+1)) (sumQ (cB p y) k) from⟨d.o.g,d.o.tp,d.o.t5,d.o.ro.congr fun j _=>(Xd HX.o j).symm,d.o.t7⟩);obtain⟨ts,z,a1⟩:=d.o.t7;have a6:=Z a1;have Y:=z.c0;have O:=z.c1;have d2:=z.c2;have d4:=E.o.c 4 rfl;have C:Gr wr wr.drew:=(Gr.refl _).drew;have f:=Z C;clear z a1;refine Jl [(0,true),(1,true),(2,true),(3,true),(4,true),(5,false),(6,false),(7,false),(8,false)] ?_;repeat(refine Jc C (h:=?_))
     refine Je (k:=Uu _ q c y 4 k (HY.o.grow (d.o.g.trans f.o))) (h:=?_);rintro r1 w1 g1 P;have f:=Z (f.o.trans g1);refine Je (k:=Ry _ x.bound r1 (atQ y k) _ 4 a3.o.2.2.2.1 P rfl (by decide)) (h:=?_);rintro r2 w2 g2 R;have f:=Z (f.o.trans g2);clear P;refine Je (k:=Pq _ _ _ _ _ (sumQ (cB p y) (k+1)) 80 80 (RatC.v (a6.o.grow f.o) (HC.o.b k (by omega))) (R.v (HC.o.t x.bound k a3.o.2.2.2.1)) (J2B HX.o).symm (by decide) (by decide)) (h:=?_);rintro r3 L g3 F;have f:=Z (f.o.trans g3);clear R;have d:=Z (d.o.grow f.o);obtain⟨s8,p8,k8,X,e8,m8,n8,rfl⟩:=F.agg;obtain⟨t1,z,-⟩:=d.o.t7;have f0:=z.load.1;have f1:=z.load.2.1;have f2:=z.load.2.2;have f3:=z.f0 0;have f4:=z.f0 1;have f5:=z.f0 2;have I:=Z (show K6 w (set3 L b7 (.bool s8) (.slice p8 k8 X) (.slice e8 m8 n8)) bp B bo b7 _ _ p.vars.length _ (sumQ (cB p y) (k+1)) from d.o.putB U.o (t:=⟨s8,p8,k8,X,e8,m8,n8⟩) F);clear F z Y O d2 d4;refine Jj rfl rfl (fun K J=>?_);go_simp;refine⟨fun h=>Bool.noConfusion h,J _ _ ?_⟩;clear J K;unfold set3 at I;generalize ((L.setCell _ _).setCell _ _).setCell _ _=W5 at I ⊢;refine Jg ?_;clear f0 f1 f2 f3 f4 f5 C g1 g2 g3;have e5:IntKind.i64.wrap ((k:Int)+1)=(k:Int)+1:=by rw[IntKind.wrap_i64];omega
     go_wp2_with fail;exact⟨⟨k+1,by go_num,by omega,I.o⟩,by simp[RowKit.intOf];omega⟩
  ·obtain rfl:k=p.rows.length:=by omega
   go_wp2_with fail;clear y1;obtain⟨ts,z,a1⟩:=d.o.t7;have a6:=Z a1;have Y:=z.c0;have O:=z.c1;have d2:=z.c2;have C:Gr wr wr.drew:=(Gr.refl _).drew;have f:=Z C;clear z a1;refine Jl [(0,true),(1,true),(2,true),(3,false)] ?_;generalize wr.drew=Wd at f C ⊢;repeat(refine Jc C (h:=?_))
   have D:=d.o.t5.grow f.o;have f0:=D.load.1;have f1:=D.load.2.1;have f2:=D.load.2.2;have f3:=D.f0 0;have f4:=D.f0 1;have f5:=D.f0 2;have H:=Z (show Gr w (set3 Wd B (.bool ts.n) (.slice ts.p ts.k ts.c) (.slice ts.q ts.m ts.e))∧Jn (set3 Wd B (.bool ts.n) (.slice ts.p ts.k ts.c) (.slice ts.q ts.m ts.e)) B (.bool ts.n) (.slice ts.p ts.k ts.c) (.slice ts.q ts.m ts.e)∧Jq (set3 Wd B (.bool ts.n) (.slice ts.p ts.k ts.c) (.slice ts.q ts.m ts.e)) bo p.vars.length (combA p y) 80∧RatC (set3 Wd B (.bool ts.n) (.slice ts.p ts.k ts.c) (.slice ts.q ts.m ts.e)) ts.v (combB p y) from
    ⟨Ks (d.o.g.trans f.o) U.o.c _ _ _,D.set _ _ _,(d.o.ro.grow f.o).upd D.noInt (upd3 _ _ _ _ _) U.o.o5.symm,(a6.o.grow f.o).upd D.noInt (upd3 _ _ _ _ _)⟩)
   clear D Y O d2;refine Jj rfl rfl (fun K J=>?_);go_simp;refine⟨fun h=>Bool.noConfusion h,J _ _ ?_⟩;clear J K;unfold set3 at H;generalize ((Wd.setCell _ _).setCell _ _).setCell _ _=W5 at H ⊢;refine Jg ?_;clear f0 f1 f2 f3 f4 f5 C;go_wp2_with fail;have d7:=H.o.2.1.load.1;have d8:=H.o.2.1.load.2.1;have d9:=H.o.2.1.load.2.2;refine bodyPost_ret (by simp[results,Tryz.results153,go_sem,d7,d8,d9];rfl) rfl ?_;exact⟨_,rfl,H.o.1,bo,ts.v,rfl,U.o.o,H.o.2.2.1,H.o.2.2.2⟩
structure Mj (w W:World)(bp b5 b7:Nat)(u0 u1:Value)(s:Rat):Prop where
 g:Gr w W
 tp:Ja W bp #[u0,u1]
 t5:Jn W b5 (.bool false) (.slice none 0 0) (.slice none 0 0)
 t7:J9 W b7 s
theorem Mj.grow {w W b:World}{bp c b7:Nat}{u0 u1:Value}{s:Rat}(h:Mj w W bp c b7 u0 u1 s)(g:Gr W b):Mj w b bp c b7 u0 u1 s:=
 ⟨h.g.trans g,h.tp.grow g,h.t5.grow g,h.t7.grow g⟩
theorem Mj.putB {w W:World}{bp b b7:Nat}{u0 u1:Value}{s s':Rat}(h:Mj w W bp b b7 u0 u1 s)(c:w.heap.size≤b∧w.heap.size≤b7∧bp≠b7∧b≠b7){t:RatM}(f:RatC W t.v s'):
  Mj w (set3 W b7 (.bool t.n) (.slice t.p t.k t.c) (.slice t.q t.m t.e)) bp b b7 u0 u1 s':=
 have d:=upd3 W b7 (.bool t.n) (.slice t.p t.k t.c) (.slice t.q t.m t.e)
 ⟨Ks h.g c.2.1 _ _ _,h.tp.upd d c.2.2.1,h.t5.upd d c.2.2.2,h.t7.put f⟩
theorem J0F (w:World)(v:Value)(p:Prg)(q:Option Addr)(c:Nat)(a:Nat→Rat)(hp:Js w v p)(ha:Kq w (.slice q p.vars.length c) p.vars.length a 80)(hk:Jo p)(hw:Whole p)
  (hz:∀ j,j≤p.vars.length→Sz 200 (sumQ (lTerm p.vars a) j)) (b3:∀ j,Sz 200 (lTerm p.vars a j)):
  Calls Tryz.prog 154 #[v,.slice q p.vars.length c] w (Ret w fun r w'=>(K7 p.vars∧r = .tuple #[.agg #[.bool false,.slice none 0 0,.slice none 0 0],.bool false])∨(¬ K7 p.vars∧∃ u,r = .tuple #[u,.bool true]∧RatC w' u (leastS p.vars a))):=by
 obtain⟨HA,HK,HW,HZ,HP⟩:=Z5 ha hk hw (And.intro hz b3) hp;have hn:=hk.1;clear ha hk hw hz b3;obtain⟨va,vc,vb,vd,rfl,hv,hr⟩:=hp;have HV:=Z hv;clear hv hr;obtain⟨g1,t0,t1⟩:=box23 w (.slice va p.vars.length vc) (.slice vb p.rows.length vd) (.bool false) (.slice none 0 0) (.slice none 0 0) 25 68;have F:=Z (show _∧Ja _ _ #[.slice va p.vars.length vc,.slice vb p.rows.length vd]∧_ from⟨g1,t0,t1⟩);have y0:=t0.load.1;have y1:=t0.load.2;unfold prgV at HP ⊢;clear g1 t0 t1;go_enter Tryz.func154,Tryz.ntmps154;go_wp2_with fail;clear y0 y1;generalize c5:w.heap.size+1=l at F ⊢;generalize c6:w.heap.size=bp at F ⊢;generalize (w.alloc _).alloc _=W at F ⊢;obtain⟨G,TP,m,a3⟩:=Z4 F.o.1 F.o.2.1 F.o.2.2 (show w.heap.size≤l∧w.heap.size≤bp∧bp≠l from by omega);clear F c5 c6;refine(J0E W _ p (HP.o.grow G.o) HW.o (by omega)).mono ?_;rintro _ y ⟨r1,rfl,g1,z⟩;obtain⟨G,TP,m⟩:=Z3 (G.o.trans g1) (TP.o.grow g1) (m.o.grow g1);rcases z.cases with⟨rfl,k1⟩|⟨rfl,k1⟩
 ·have HE:=Z k1;clear z k1 g1;have J:=m.o.load.1;have L:=m.o.load.2.1;have M:=m.o.load.2.2;have N:=m.o.f0 0;have O:=m.o.f0 1;have P:=m.o.f0 2;have B:=Z (show Gr w (set3 y l (.bool false) (.slice none 0 0) (.slice none 0 0))∧Jn (set3 y l (.bool false) (.slice none 0 0) (.slice none 0 0)) l (.bool false) (.slice none 0 0) (.slice none 0 0) from⟨Ks G.o a3.o.1 _ _ _,m.o.set _ _ _⟩);go_wp2_with fail;unfold set3 at B;generalize ((y.setCell _ _).setCell _ _).setCell _ _=W5 at B ⊢;clear J L M N O P;have a5:=B.o.2.load.1;have a6:=B.o.2.load.2.1;have a7:=B.o.2.load.2.2;refine bodyPost_ret (by simp[results,Tryz.results154,go_sem,a5,a6,a7];rfl) rfl ?_;exact⟨_,rfl,B.o.1,.inl ⟨HE.o,rfl⟩⟩
 ·have HE:=Z k1;clear z k1 g1;have X:=box3 y (.bool false) (.slice none 0 0) (.slice none 0 0) 68;have a2:=Z (show Mj w (y.alloc (.cells #[.bool false,.slice none 0 0,.slice none 0 0] 68)) bp l y.heap.size (.slice va p.vars.length vc) (.slice vb p.rows.length vd) 0 from
   ⟨G.o.trans X.1,TP.o.grow X.1,m.o.grow X.1,zeroRat,X.2,Sj _⟩)
  have a1:=Z (show w.heap.size≤l∧w.heap.size≤y.heap.size∧bp≠y.heap.size∧l≠y.heap.size from by
   have z:=TP.o.lt;have V:=m.o.lt;exact⟨a3.o.1,G.o.size,by omega,by omega⟩)
  clear X TP m G a3;go_wp2_with fail;generalize y.heap.size=U at a2 a1 ⊢;generalize y.alloc _=W2 at a2 ⊢;go_loopw [7] (fun i w9=>∃ k:Nat,i = .int .i64 (k:Int)∧k≤p.vars.length∧Mj w w9 bp l U (.slice va p.vars.length vc) (.slice vb p.rows.length vd) (sumQ (lTerm p.vars a) k)) (fun i _=>p.vars.length - (RowKit.intOf i).toNat)
  case atStart=>exact⟨0,rfl,Nat.zero_le _,a2.o⟩
  case round=>
   clear a2;obtain⟨k,rfl,hk,hq⟩:=hrel;have f:=Z hq;clear hq;have y0:=f.o.tp.at 0 rfl;by_cases c9:k < p.vars.length
   ·have d3:(k:Int) < (p.vars.length:Int):=by omega
    obtain⟨b,o,x,rfl,hx,hc⟩:=K5 HV.o rfl c9;obtain⟨c0,c1,c2,c3,c4⟩:=hc _ f.o.g;obtain⟨B,b1⟩:=Z2 hx (HK.o.2.2.1 _ (List.mem_of_getElem? hx));have b2:=(HW.o x (List.mem_of_getElem? hx)).2;rw[b2] at c2;have B9:=Ja.new wr #[.int .i64 x.lo,.int .i64 x.up,.bool false,.bool x.ig,.int .i64 x.cost] 62;have Y:=Z (show Mj w _ bp l U _ _ _∧Ja _ _ _ from⟨f.o.grow B9.1,B9.2⟩);clear hc hx b2 B9;go_wp2_with fail;clear c0 c1 c2 c3 c4 y0;generalize wr.heap.size=b9 at Y ⊢;generalize wr.alloc _=W9 at Y ⊢;obtain⟨T,f⟩:=Z2 (show Ja W9 b9 #[.int .i64 x.lo,.int .i64 x.up,.bool false,.bool x.ig,.int .i64 x.cost] from Y.o.2) Y.o.1;clear Y;refine(Rx W9 q p.vars.length c a 80 k (a k) (HA.o.grow f.o.g) (fun _ _=>by simp) (fun h=>absurd ⟨by omega,by omega⟩ h)).mono ?_;rintro _ w2 ⟨r,rfl,C,hr⟩;obtain⟨f,T,b8⟩:=Z3 (f.o.grow C) (T.o.grow C) hr;clear C hr;go_wp2_with fail;obtain⟨cs,a8⟩:∃ c,sgn (a k).num=c:=⟨_,rfl⟩
    refine(R4 w2 r (a k) cs 80 b8.o a8 (by decide)).mono ?_;rintro _ w3 ⟨_,rfl,g3,rfl⟩;obtain⟨f,T⟩:=Z2 (f.o.grow g3) (T.o.grow g3);have b0:=Z (Pa a8).1;clear g3 a8;by_cases a9:cs < 0
    ·have y1:=T.o.at 1 rfl;have y2:=T.o.at 2 rfl;have a4:=Z (show lTerm p.vars a k=(x.up:Rat) * a k from by
      unfold lTerm;rw[B.o];simp only[if_pos (b0.o.1 a9)])
     go_wp2_with fail;clear y1 y2;obtain⟨ts,d,E⟩:=f.o.t7;have a0:=Z E;have d0:=d.c0;have d1:=d.c1;have d2:=d.c2;have R:Gr w3 w3.drew:=(Gr.refl _).drew;have g:=Z R;clear d E;refine Jl [(0,true),(1,true),(2,true),(3,true),(4,false),(5,false),(6,false),(7,false)] ?_;repeat(refine Jc R (h:=?_))
     refine Je (k:=Rx _ q p.vars.length c a 80 k (a k) (HA.o.grow (f.o.g.trans g.o)) (fun _ _=>by simp) (fun h=>absurd ⟨by omega,by omega⟩ h)) (h:=?_);rintro r1 w4 g1 z;have g:=Z (g.o.trans g1);refine Je (k:=Ry _ (x.up) r1 (a k) (lTerm p.vars a k) 80 (b1.o.2.1) z a4.o.symm (by decide)) (h:=?_);rintro r2 w5 C V;have g:=Z (g.o.trans C);clear z;refine Je (k:=Pq _ _ _ _ _ (sumQ (lTerm p.vars a) (k+1)) 200 200 (RatC.v (a0.o.grow g.o) (HZ.o.1 k (by omega))) (V.v (HZ.o.2 k)) (Ls _ _).symm (by decide) (by decide)) (h:=?_);rintro r3 w6 g3 S;have g:=Z (g.o.trans g3);clear V;have f:=Z (f.o.grow g.o);obtain⟨s8,p8,k8,c8,e8,m8,n8,rfl⟩:=S.agg;obtain⟨t1,d,-⟩:=f.o.t7;have J:=d.load.1;have L:=d.load.2.1;have M:=d.load.2.2;have N:=d.f0 0;have O:=d.f0 1;have P:=d.f0 2;have H:=Z (show Mj w (set3 w6 U (.bool s8) (.slice p8 k8 c8) (.slice e8 m8 n8)) bp l U _ _ (sumQ (lTerm p.vars a) (k+1)) from f.o.putB a1.o (t:=⟨s8,p8,k8,c8,e8,m8,n8⟩) S);clear S d d0 d1 d2;refine Jj rfl rfl (fun K hK=>?_);go_simp;refine⟨fun h=>Bool.noConfusion h,hK _ _ ?_⟩;clear hK K;unfold set3 at H;generalize ((w6.setCell _ _).setCell _ _).setCell _ _=W5 at H ⊢;refine Jg ?_;clear J L M N O P R g1 C g3;have c7:IntKind.i64.wrap ((k:Int)+1)=(k:Int)+1:=by rw[IntKind.wrap_i64];omega
     go_wp2_with fail;exact⟨⟨k+1,by go_num,by omega,H.o⟩,by simp[RowKit.intOf];omega⟩
    ·have d4:0≤cs:=by omega
     have a4:=Z (show lTerm p.vars a k=(x.lo:Rat) * a k from by
      unfold lTerm;rw[B.o];simp only[if_neg (fun h=>a9 (b0.o.2 h))])
     clear a9;go_wp2_with fail;obtain⟨ts,d,E⟩:=f.o.t7;have a0:=Z E;have d0:=d.c0;have d1:=d.c1;have d2:=d.c2;have R:Gr w3 w3.drew:=(Gr.refl _).drew;have g:=Z R;clear d E;refine Jl [(0,true),(1,true),(2,true),(3,true),(4,false),(5,false),(6,false),(7,false)] ?_;repeat(refine Jc R (h:=?_))
     refine Je (k:=Rx _ q p.vars.length c a 80 k (a k) (HA.o.grow (f.o.g.trans g.o)) (fun _ _=>by simp) (fun h=>absurd ⟨by omega,by omega⟩ h)) (h:=?_);rintro r1 w4 g1 z;have g:=Z (g.o.trans g1);refine Je (k:=Ry _ (x.lo) r1 (a k) (lTerm p.vars a k) 80 (b1.o.1) z a4.o.symm (by decide)) (h:=?_);rintro r2 w5 C V;have g:=Z (g.o.trans C);clear z;refine Je (k:=Pq _ _ _ _ _ (sumQ (lTerm p.vars a) (k+1)) 200 200 (RatC.v (a0.o.grow g.o) (HZ.o.1 k (by omega))) (V.v (HZ.o.2 k)) (Ls _ _).symm (by decide) (by decide)) (h:=?_);rintro r3 w6 g3 S;have g:=Z (g.o.trans g3);clear V;have f:=Z (f.o.grow g.o);obtain⟨s8,p8,k8,c8,e8,m8,n8,rfl⟩:=S.agg;obtain⟨t1,d,-⟩:=f.o.t7;have J:=d.load.1;have L:=d.load.2.1;have M:=d.load.2.2;have N:=d.f0 0;have O:=d.f0 1;have P:=d.f0 2;have H:=Z (show Mj w (set3 w6 U (.bool s8) (.slice p8 k8 c8) (.slice e8 m8 n8)) bp l U _ _ (sumQ (lTerm p.vars a) (k+1)) from f.o.putB a1.o (t:=⟨s8,p8,k8,c8,e8,m8,n8⟩) S);clear S d d0 d1 d2;refine Jj rfl rfl (fun K hK=>?_);go_simp;refine⟨fun h=>Bool.noConfusion h,hK _ _ ?_⟩;clear hK K;unfold set3 at H;generalize ((w6.setCell _ _).setCell _ _).setCell _ _=W5 at H ⊢;refine Jg ?_;clear J L M N O P R g1 C g3;have c7:IntKind.i64.wrap ((k:Int)+1)=(k:Int)+1:=by rw[IntKind.wrap_i64];omega
     go_wp2_with fail;exact⟨⟨k+1,by go_num,by omega,H.o⟩,by simp[RowKit.intOf];omega⟩
   ·obtain rfl:k=p.vars.length:=by omega
    obtain⟨ts,d,E⟩:=f.o.t7;have a0:=Z E;have d0:=d.load.1;have d1:=d.load.2.1;have d2:=d.load.2.2;have D:=f.o.t5;have J:=D.load.1;have L:=D.load.2.1;have M:=D.load.2.2;have N:=D.f0 0;have O:=D.f0 1;have P:=D.f0 2;have I:=Z (show Gr w (set3 wr l (.bool ts.n) (.slice ts.p ts.k ts.c) (.slice ts.q ts.m ts.e))∧Jn (set3 wr l (.bool ts.n) (.slice ts.p ts.k ts.c) (.slice ts.q ts.m ts.e)) l (.bool ts.n) (.slice ts.p ts.k ts.c) (.slice ts.q ts.m ts.e)∧RatC (set3 wr l (.bool ts.n) (.slice ts.p ts.k ts.c) (.slice ts.q ts.m ts.e)) ts.v (leastS p.vars a) from
     ⟨Ks f.o.g a1.o.1 _ _ _,D.set _ _ _,a0.o.upd D.noInt (upd3 _ _ _ _ _)⟩)
    clear D d E;go_wp2_with fail;clear d0 d1 d2 J L M N O P;unfold set3 at I;generalize ((wr.setCell _ _).setCell _ _).setCell _ _=W5 at I ⊢;have a5:=I.o.2.1.load.1;have a6:=I.o.2.1.load.2.1;have a7:=I.o.2.1.load.2.2;refine bodyPost_ret (by simp[results,Tryz.results154,go_sem,a5,a6,a7];rfl) rfl ?_;exact⟨_,rfl,I.o.1,.inr ⟨HE.o,ts.v,rfl,I.o.2.2⟩⟩
theorem Sz.mono' {L M:Nat}{x:Rat}(h:Sz L x)(b:L≤M):Sz M x:=⟨Nat.le_trans h.1 b,Nat.le_trans h.2 b⟩
theorem Jq.negStep {w:World}{b n k:Nat}{A:Nat→Rat}{t:RatM}(h:Jq w b n (fun j=>if j < k then - A j else A j) 80)(c:k < n)(d:RatC w t.v (- A k))(f:Sz 80 (A k)):Jq (setRat w b k t) b n (fun j=>if j < k+1 then - A j else A j) 80:=
 h.set c (by
  show RatV w t.v (if k < k+1 then - A k else A k) 80;rw[if_pos (by omega)];exact d.v (No f)) fun i g l=>by
   show(if i < k then - A i else A i)=if i < k+1 then - A i else A i;by_cases h:i < k
   ·rw[if_pos h,if_pos (by omega)]
   ·rw[if_neg h,if_neg (by omega)]
structure O8 (w W:World)(bp bo b7:Nat)(u0 u1:Value)(n:Nat)(a:Nat→Rat)(s:Rat):Prop where
 g:Gr w W
 tp:Ja W bp #[u0,u1]
 ro:Jq W bo n a 80
 t7:J9 W b7 s
theorem O8.grow {w W b:World}{bp bo b7:Nat}{u0 u1:Value}{n:Nat}{a:Nat→Rat}{s:Rat}(h:O8 w W bp bo b7 u0 u1 n a s)(g:Gr W b):O8 w b bp bo b7 u0 u1 n a s:=
 ⟨h.g.trans g,h.tp.grow g,h.ro.grow g,h.t7.grow g⟩
theorem J0I (w:World)(v:Value)(p:Prg)(q:Option Addr)(c:Nat)(y:List Rat)(hp:Js w v p)(hy:L1 w (.slice q y.length c) y 4)(hc:Calm p y)(E:Jo p)(hw:Whole p):
  Calls Tryz.prog 101 #[v,.slice q y.length c] w (Ret w fun r _=>Jb (Lw p y) r):=by
 obtain⟨HY,g,HK,HW,D⟩:=Z5 hy hc E hw hp;have hn:=E.1;have hm:=E.2.1;clear hy hc E hw;obtain⟨T,V,U,X,rfl,hv,hr⟩:=hp;obtain⟨HV,HR⟩:=Z2 hv hr;obtain⟨_,_,_,c1,c2⟩:=SlL.parts hv;obtain⟨_,_,_,b8,c0⟩:=hr.parts;clear hv hr;have B0:=Ja.new w #[.slice T p.vars.length V,.slice U p.rows.length X] 25;have C:=Z B0;unfold prgV;clear B0;unfold prgV at D;go_enter Tryz.func101,Tryz.ntmps101;go_wp2_with fail;generalize w.heap.size=bp at C ⊢;generalize w.alloc _=W at C ⊢;obtain⟨G,d⟩:=Z2 C.o.1 C.o.2;clear C;refine(J0H W _ p q c y 4 (D.o.grow G.o) (HY.o.grow G.o) (by decide) (by omega)).mono ?_;rintro _ w1 ⟨r1,rfl,g1,O⟩;obtain⟨G,d⟩:=Z2 (G.o.trans g1) (d.o.grow g1);rcases O.cases with⟨rfl,F⟩|⟨rfl,F⟩;rotate_left
 ·have H:=Z (show ¬ Lw p y from fun h=>F h.1);clear O F g1;go_wp2_with fail;try rw[Exit.noGoto_ret]
  go_ret;exact⟨_,rfl,G.o,Jb.no H.o⟩
 have H1:=Z F;clear O F g1;have J:=d.o.at 0 rfl;have K:=d.o.at 1 rfl;go_wp2_with fail;clear J K;refine(J0E w1 _ p (D.o.grow G.o) HW.o (by omega)).mono ?_;rintro _ w2 ⟨r2,rfl,N,P⟩;obtain⟨G,d⟩:=Z2 (G.o.trans N) (d.o.grow N);rcases P.cases with⟨rfl,I⟩|⟨rfl,I⟩
 ·have H:=Z (show Lw p y from⟨H1.o,.inl I⟩);clear P I N;go_wp2_with fail;try rw[Exit.noGoto_ret]
  go_ret;exact⟨_,rfl,G.o,Jb.yes H.o⟩
 have H2:=Z I;clear P I N;have J:=d.o.at 0 rfl;have K:=d.o.at 1 rfl;go_wp2_with fail;clear J K;refine(J0D w2 _ p q c y (D.o.grow G.o) (HY.o.grow G.o) g.o HK.o).mono ?_;rintro _ x ⟨r3,rfl,g3,bo,u,rfl,b1,ho,S⟩;have HN:=Z (show w.heap.size≤bo∧bp≠bo from by
  have O:=G.o.size;have P:=d.o.lt;exact⟨by omega,by omega⟩)
 obtain⟨u0,rfl,S⟩:=N5 S;have m:=box3 x (.bool u0.n) (.slice u0.p u0.k u0.c) (.slice u0.q u0.m u0.e) 68;have l:=Z (show O8 w (x.alloc (.cells #[.bool u0.n,.slice u0.p u0.k u0.c,.slice u0.q u0.m u0.e] 68)) bp bo x.heap.size (.slice T p.vars.length V) (.slice U p.rows.length X) p.vars.length (combA p y) (combB p y) from
  ⟨(G.o.trans g3).trans m.1,(d.o.grow g3).grow m.1,ho.grow m.1,u0,m.2,S.grow m.1⟩)
 have a3:=Z (show x.heap.size≠bo from by have:=ho.lt;omega);clear S ho b1 g3 m d G;unfold RatM.v;go_wp2_with fail;generalize x.heap.size=b6 at l a3 ⊢;generalize x.alloc _=W3 at l ⊢;go_loopw [7] (fun i w9=>∃ k:Nat,i = .int .i64 (k:Int)∧k≤p.vars.length∧O8 w w9 bp bo b6 (.slice T p.vars.length V) (.slice U p.rows.length X) p.vars.length (fun j=>if j < k then - combA p y j else combA p y j) (combB p y)) (fun i _=>p.vars.length - (RowKit.intOf i).toNat)
 case atStart=>exact⟨0,rfl,Nat.zero_le _,l.o.g,l.o.tp,l.o.ro.congr fun j _=>by simp,l.o.t7⟩
 case round=>
  clear l;obtain⟨k,rfl,E,hq⟩:=hrel;have b:=Z hq;clear hq;by_cases a0:k < p.vars.length
  ·have b3:(k:Int) < (p.vars.length:Int):=by omega
   have b2:IntKind.i64.wrap ((k:Int)+1)=(k:Int)+1:=by rw[IntKind.wrap_i64];omega
   obtain⟨t0,a2,a6⟩:=b.o.ro.at a0;rw[show(if k < k then - combA p y k else combA p y k)=combA p y k from if_neg (by omega)] at a2;obtain⟨e0,e1,e2⟩:=a6 wr (Gr.refl _);have b0:=Z a2;clear a6 a2;go_wp2_with fail;clear e0 e1 e2;refine(Uz wr _ (combA p y k) _ 80 b0.o rfl (by decide)).mono ?_;rintro _ z ⟨r4,rfl,g4,f⟩;have b:=Z (b.o.grow g4);obtain⟨s8,p8,k8,c8,e8,m8,n8,rfl⟩:=f.agg;obtain⟨t1,-,a7⟩:=b.o.ro.at a0;obtain⟨f0,f1,f2⟩:=a7 z (Gr.refl _);have f3:=b.o.ro.f (k * 3);have f4:=b.o.ro.f (k * 3+1);have f5:=b.o.ro.f (k * 3+2);have L:=Z (show O8 w (setRat z bo k ⟨s8,p8,k8,c8,e8,m8,n8⟩) bp bo b6 (.slice T p.vars.length V) (.slice U p.rows.length X) p.vars.length (fun j=>if j < k+1 then - combA p y j else combA p y j) (combB p y) from
    ⟨Pi b.o.g HN.o.1 _ _,b.o.tp.upd (Nb _ _ _ _) HN.o.2,b.o.ro.negStep (t:=⟨s8,p8,k8,c8,e8,m8,n8⟩) a0 f (g.o.a p.rows.length k (Nat.le_refl _)),b.o.t7.upd b.o.ro.noInt (Nb _ _ _ _) a3.o⟩)
   clear f g4 a7;go_wp2_with fail;unfold setRat at L;dsimp only at L;generalize ((z.setCell _ _).setCell _ _).setCell _ _=W5 at L ⊢;exact⟨⟨k+1,by go_num,by omega,L.o⟩,by simp[RowKit.intOf];omega⟩
  ·obtain rfl:k=p.vars.length:=by omega
   have J:=b.o.tp.at 0 rfl;have K:=b.o.tp.at 1 rfl;have a9:=Z (show Kq wr (.slice (some ⟨bo,0,none⟩) p.vars.length p.vars.length) p.vars.length (fun j => - combA p y j) 80 from(b.o.ro.congr fun j hj=>by rw[if_pos hj]).read (by omega));go_wp2_with fail;clear J K;refine(J0F wr _ p _ _ (fun j => - combA p y j) (D.o.grow b.o.g) a9.o HK.o HW.o (fun j hj=>Sz.mono' (g.o.l j hj) (by decide)) (fun j=>Sz.mono' (g.o.l0 j) (by decide))).mono ?_;rintro _ z ⟨r4,rfl,g4,f⟩;have b:=Z (b.o.grow g4);rcases f with⟨h,_⟩|⟨_,u1,rfl,f⟩
   ·exact absurd h H2.o
   obtain⟨u2,rfl,f⟩:=N5 f;have B:=box3 z (.bool u2.n) (.slice u2.p u2.k u2.c) (.slice u2.q u2.m u2.e) 68;obtain⟨G,T8⟩:=Z2 (b.o.g.trans B.1) B.2;obtain⟨ts,R,a8⟩:=b.o.t7.grow B.1;have H8:=Z (f.grow B.1);have d0:=R.load.1;have d1:=R.load.2.1;have d2:=R.load.2.2;have a5:=Z a8;clear B f R a8 g4;unfold RatM.v;go_wp2_with fail;clear d0 d1 d2;generalize z.alloc _=W4 at G T8 H8 a5 ⊢;refine(Pq W4 _ _ (combB p y) (leastS p.vars (fun j => - combA p y j)) _ 80 80 (RatC.v a5.o (g.o.b _ (Nat.le_refl _))) (RatC.v H8.o (g.o.l _ (Nat.le_refl _))) rfl (by decide) (by decide)).mono ?_;rintro _ w5 ⟨r5,rfl,g5,h5⟩;obtain⟨G,H5⟩:=Z2 (G.o.trans g5) h5;clear h5 g5;go_wp2_with fail;obtain⟨M,Y⟩:∃ c,sgn (combB p y+leastS p.vars (fun j => - combA p y j)).num=c:=⟨_,rfl⟩
   refine(R4 w5 r5 _ M 80 (RatC.v H5.o g.o.bl) Y (by decide)).mono ?_;rintro _ w6 ⟨_,rfl,g6,rfl⟩;have G:=Z (G.o.trans g6);have a4:=Z (Pa Y).2;clear g6 Y;by_cases a1:0 < M
   ·have H:=Z (show Lw p y from⟨H1.o,.inr (a4.o.1 a1)⟩);go_wp2_with fail;go_ret;exact⟨_,rfl,G.o,Jb.yes H.o⟩
   ·have b5:M≤0:=by omega
    have H:=Z (show ¬ Lw p y from fun h=>by
     rcases h.2 with h|h
     ·exact H2.o h
     ·exact a1 (a4.o.2 h))
    clear a1;go_wp2_with fail;go_ret;exact⟨_,rfl,G.o,by rw[decide_eq_false (show ¬ 0 < M by omega)];exact Jb.no H.o⟩
theorem Uw (w:World)(v:Value)(p:Prg)(j:Int)(T:Js w v p):
  Calls Tryz.prog 260 #[v,.int .i64 j] w (Ret w fun r _=>Jb (Kb p j) r):=by
 obtain⟨U,X,V,Y,rfl,B,u⟩:=T;obtain⟨N,HR⟩:=Z2 B u;obtain⟨_,_,_,a4,a5⟩:=SlL.parts B;obtain⟨_,_,_,a2,a3⟩:=u.parts;clear B u;have E:=Ja.new w #[.slice U p.vars.length X,.slice V p.rows.length Y] 25;have c:=Z E;unfold prgV;clear E;by_cases F:j < 0
 ·go_enter Tryz.func260,Tryz.ntmps260;go_wp2_with fail;generalize w.heap.size=bp at c ⊢;generalize w.alloc _=W at c ⊢;obtain⟨G,O⟩:=Z2 c.o.1 c.o.2;clear c;go_ret;exact⟨_,rfl,G.o,Jb.no fun⟨x,h,_⟩=>by omega⟩
 have a0:0≤j:=by omega
 by_cases I:(p.vars.length:Int)≤j
 ·clear F;go_enter Tryz.func260,Tryz.ntmps260;go_wp2_with fail;generalize w.heap.size=bp at c ⊢;generalize w.alloc _=W at c ⊢;obtain⟨G,O⟩:=Z2 c.o.1 c.o.2;clear c;go_ret;exact⟨_,rfl,G.o,by simpa[I] using(Jb.no (P:=Kb p j) fun⟨x,h,l,_⟩=>by have:=(List.getElem?_eq_some_iff.1 l).1;omega)⟩
 have a1:j < (p.vars.length:Int):=by omega
 obtain⟨k,rfl⟩:∃ k:Nat,j=k:=⟨j.toNat,by omega⟩
 obtain⟨b,o,x,rfl,i,J⟩:=K5 N.o rfl (show k < p.vars.length by omega);obtain⟨c0,R,c2,c3,c4⟩:=J _ c.o.1;have HX:=Z i;obtain⟨L,m⟩:∃ b,x.ig=b:=⟨_,rfl⟩
 obtain⟨M,t⟩:∃ b,x.op=b:=⟨_,rfl⟩
 obtain⟨C,q⟩:∃ b,x.lo=b:=⟨_,rfl⟩
 obtain⟨D,y⟩:∃ b,x.up=b:=⟨_,rfl⟩
 rw[m] at c3;rw[t] at c2;rw[q] at c0;rw[y] at R;have d:=Z (show Kb p (k:Int)↔L=true∧M=false∧C=0∧D=1 from by
  subst m t q y;constructor
  ·intro ⟨z,_,K,l⟩;rw[Int.toNat_natCast,i] at K
   cases K
   exact l
  ·intro h;exact⟨x,by omega,by rw[Int.toNat_natCast];exact i,h⟩)
 clear i J m t q y F I
 cases L
 ·have H:=Z (show ¬ Kb p (k:Int) from fun h=>by have:=(d.o.1 h).1;cases this);go_enter Tryz.func260,Tryz.ntmps260;go_wp2_with fail;go_ret;exact⟨_,rfl,c.o.1,Jb.no H.o⟩
 cases M
 rotate_left
 ·have H:=Z (show ¬ Kb p (k:Int) from fun h=>by have:=(d.o.1 h).2.1;cases this);go_enter Tryz.func260,Tryz.ntmps260;go_wp2_with fail;go_ret;exact⟨_,rfl,c.o.1,Jb.no H.o⟩
 by_cases f:C=0
 ·subst f;by_cases g:D=1
  ·subst g;have H:=Z (show Kb p (k:Int) from d.o.2 ⟨rfl,rfl,rfl,rfl⟩);go_enter Tryz.func260,Tryz.ntmps260;go_wp2_with fail;go_ret;exact⟨_,rfl,c.o.1,Jb.yes H.o⟩
  ·have S:(D == 1)=false:=by simpa using g
   have H:=Z (show ¬ Kb p (k:Int) from fun h=>g (d.o.1 h).2.2.2);clear g;go_enter Tryz.func260,Tryz.ntmps260;go_wp2_with fail;go_ret;exact⟨_,rfl,c.o.1,Jb.no H.o⟩
 ·have S:(C == 0)=false:=by simpa using f
  have H:=Z (show ¬ Kb p (k:Int) from fun h=>f (d.o.1 h).2.2.1);clear f;go_enter Tryz.func260,Tryz.ntmps260;go_wp2_with fail;go_ret;exact⟨_,rfl,c.o.1,Jb.no H.o⟩
theorem R2:∀ (l:List Ji) (j:Nat),(∀ x ∈ l,x.v≠(j:Int))→rowCoef l j=0
 | [],_,_=>rfl
 | t :: l,j,h=>by
  rw[J5Z,if_neg (h t (List.mem_cons_self ..)),R2 l j fun x b=>h x (List.mem_cons_of_mem _ b)];rfl
theorem Rg {n:Nat}:∀ (l:List Ji) (c:Int) (k:Nat) (t:Ji),l[k]?=some t→Inc n c l→∀ x ∈ l.take k,x.v < t.v
 | y :: l,c,0,t,_,_,x,b=>by simp at b
 | y :: l,c,k+1,t,ht,h,x,b=>by
  have d:l[k]?=some t:=by simpa using ht
  rw[List.take_succ_cons] at b;rcases List.mem_cons.1 b with rfl|b
  ·exact(M5 l _ k t d h.2).1
  ·exact Rg l y.v k t d h.2 x b
theorem Mr {sg c:Int}(d:sg=1∨sg = -1)(h:In c):In (sg * c)∧IntKind.i64.wrap (sg * c)=sg * c:=by
 have b:In (sg * c):=by
  unfold In at h ⊢;rcases d with rfl|rfl<;>omega
 refine⟨b,?_⟩;rw[IntKind.wrap_i64];unfold In at b;omega
structure Oe (w W:World)(bp bo:Nat)(u0 u1:Value)(n:Nat)(a:Nat→Rat):Prop where
 g:Gr w W
 tp:Ja W bp #[u0,u1]
 ro:Jq W bo n a 80
theorem Oe.grow {w W b:World}{bp bo:Nat}{u0 u1:Value}{n:Nat}{a:Nat→Rat}(h:Oe w W bp bo u0 u1 n a)(g:Gr W b):Oe w b bp bo u0 u1 n a:=
 ⟨h.g.trans g,h.tp.grow g,h.ro.grow g⟩
theorem J0K (w:World)(v:Value)(p:Prg)(rk:Nat)(sg:Int)(rs:RowS)(hp:Js w v p)(Y:p.rows[rk]?=some rs)(a5:sg=1∨sg = -1)(F:Jo p):
  Calls Tryz.prog 263 #[v,.int .i64 (rk:Int),.int .i64 sg] w (Ret w fun r w'=>∃ b,r = .slice (some ⟨b,0,none⟩) p.vars.length p.vars.length∧w.heap.size≤b∧Jq w' b p.vars.length (fun j=>((sg * rowCoef rs.terms j:Int):Rat)) 80):=by
 obtain⟨HK,a8⟩:=Z2 F a5;have hn:=F.1;have hm:=F.2.1;have b3:=(List.getElem?_eq_some_iff.1 Y).1;clear F a5;obtain⟨va,vc,vb,vd,rfl,hv,X⟩:=hp;obtain⟨HV,HR⟩:=Z2 hv X;obtain⟨_,_,_,d2,d3⟩:=SlL.parts hv;obtain⟨_,_,_,c5,c6⟩:=X.parts;clear hv X;have B0:=Ja.new w #[.slice va p.vars.length vc,.slice vb p.rows.length vd] 25;have l:=Z B0;unfold prgV;clear B0;go_enter Tryz.func263,Tryz.ntmps263;go_wp2_with (at_make;refine Hold.hold ?_);generalize w.heap.size=bp at l ⊢;generalize w.alloc _=W at l ⊢;obtain⟨G,R⟩:=Z2 l.o.1 l.o.2;clear l;refine Hold.go ?_;refine Pv rfl _ _ 33 rfl (by kernel_rfl) p.vars.length _ rfl rfl rfl (by omega) ?_;intro W1 V g1;have B:=Z (show w.heap.size≤W.heap.size∧bp≠W.heap.size from by
  have h1:=R.o.lt;have E:=G.o.size;omega)
 generalize W.heap.size=bo at V B ⊢;obtain⟨b,o,x,rfl,H,T,hc⟩:=HR.o.at b3;obtain rfl:x.s=rs:=Option.some.inj (H.symm.trans Y);obtain⟨HX,a7,HC,O⟩:=Z4 H T hc (HK.o.2.2.2 _ (List.mem_of_getElem? H));have c9:=Lg.big T;have D:=Z (show Oe w W1 bp bo (.slice va p.vars.length vc) (.slice (some ⟨b,o,none⟩) p.rows.length vd) p.vars.length (fun _=>0) from⟨G.o.trans g1,R.o.grow g1,V⟩);have c7:(rk:Int) < (p.rows.length:Int):=by omega
 clear H T hc Y V g1 R G;go_wp2_with fail;go_loopw [8] (fun i w9=>∃ m:Nat,i = .int .i64 (m:Int)∧m≤x.terms.length∧Oe w w9 bp bo (.slice va p.vars.length vc) (.slice (some ⟨b,o,none⟩) p.rows.length vd) p.vars.length (fun j=>((sg * rowCoef (x.terms.take m) j:Int):Rat))) (fun i _=>x.terms.length - (RowKit.intOf i).toNat)
 case atStart=>exact⟨0,rfl,Nat.zero_le _,D.o.g,D.o.tp,D.o.ro.congr fun j _=>by simp[rowCoef]⟩
 case round=>
  clear D;obtain⟨m,rfl,c2,hq⟩:=hrel;have c:=Z hq;clear hq;have y1:=c.o.tp.at 1 rfl;obtain⟨-,-,-,c3,-⟩:=HC.o wr c.o.g;by_cases b2:m < x.terms.length
  ·have c1:(m:Int) < (x.terms.length:Int):=by omega
   obtain⟨bt,ot,g,a6,q,a3⟩:=O0 a7.o rfl b2;obtain⟨d0,d1⟩:=a3 _ c.o.g;rw[a6] at c3;obtain⟨HT,a1,a9,b0⟩:=Z4 q (Oo (Int.le_refl _) O.o.2.2.2.2.2 g (List.mem_of_getElem? q)) (M5 _ _ _ _ q O.o.2.2.2.2.2) (Rg _ _ _ _ q O.o.2.2.2.2.2);obtain⟨d,U⟩:∃ d:Nat,g.v=(d:Int):=⟨g.v.toNat,by have:=a1.o.1;omega⟩
   have a4:d < p.vars.length:=by have:=a1.o.2;omega
   have b8:(d:Int) < (p.vars.length:Int):=by omega
   have b6:(0:Int)≤(d:Int):=by omega
   rw[U] at d0;have N:=Z U;have M:=Ja.new wr #[.int .i64 (d:Int),.int .i64 g.c] 75;have f:=Z (show Oe w _ bp bo _ _ p.vars.length _∧Ja _ _ _ from⟨c.o.grow M.1,M.2⟩);clear q a3 U a6 M;go_wp2_with fail;clear d0 d1 c3 y1;generalize wr.heap.size=b9 at f ⊢;generalize wr.alloc _=W9 at f ⊢;have y0:=f.o.2.c 0 rfl;have y1:=f.o.2.c 1 rfl;have c:=Z f.o.1;have I:=Mr a8.o a9.o.2.2.2;have a0:=I.2;obtain⟨z,J⟩:∃ z,sg * g.c=z:=⟨_,rfl⟩
   rw[J] at I a0;obtain⟨P,b1⟩:=Z2 I.1 J;have b5:IntKind.i64.wrap (sg * g.c)=z:=by rw[J,a0]
   have S:Gr W9 W9.drew:=(Gr.refl _).drew;have u:=Z S;clear I a0 J f;refine Jl [(0,true),(1,true),(2,true),(3,true),(4,true),(5,true),(6,true),(7,false),(8,true),(9,false)] ?_;repeat(refine Jc S (h:=?_))
   refine Je (k:=R3 _ z (Kd P.o).1 (Kd P.o).2) (h:=?_);rintro r3 L g3 E;have u:=Z (u.o.trans g3);have g4:=u.o;repeat(refine Jc g4 (h:=?_))
   have c:=Z (c.o.grow u.o);obtain⟨s8,p8,k8,c8,e8,m8,n8,rfl⟩:=E.agg;obtain⟨t1,-,a2⟩:=c.o.ro.at a4;obtain⟨f0,f1,f2⟩:=a2 L (Gr.refl _);have f3:=c.o.ro.f (d * 3);have f4:=c.o.ro.f (d * 3+1);have f5:=c.o.ro.f (d * 3+2);clear y0 y1 a2 b5;have C:=Z (show Oe w (setRat L bo d ⟨s8,p8,k8,c8,e8,m8,n8⟩) bp bo _ _ p.vars.length (fun j=>((sg * rowCoef (x.terms.take (m+1)) j:Int):Rat)) from
    ⟨Pi c.o.g B.o.1 _ _,c.o.tp.upd (Nb _ _ _ _) B.o.2,c.o.ro.set a4 (t:=⟨s8,p8,k8,c8,e8,m8,n8⟩) (by
     have e:sg * rowCoef (x.terms.take (m+1)) d=z:=by
      rw[Na HT.o,if_pos N.o,R2 _ _ fun y hy=>by have:=b0.o y hy;rw[N.o] at this;omega,Int.zero_add,b1.o]
     show RatV L _ ((sg * rowCoef (x.terms.take (m+1)) d:Int):Rat) 80;rw[e];exact E.v (Sz.mono' (Km P.o) (by decide))) (fun i hi c4=>by
      show((sg * rowCoef (x.terms.take m) i:Int):Rat)=((sg * rowCoef (x.terms.take (m+1)) i:Int):Rat)
      rw[Na HT.o,if_neg (by rw[N.o];omega),Int.add_zero])⟩)
   clear E;refine Jj rfl rfl (fun K hK=>?_);go_simp;refine⟨fun h=>Bool.noConfusion h,hK _ _ ?_⟩;clear hK K;unfold setRat at C;dsimp only at C;generalize ((L.setCell _ _).setCell _ _).setCell _ _=W5 at C ⊢;refine Jg ?_;clear f0 f1 f2 f3 f4 f5 S g3 g4;have c0:IntKind.i64.wrap ((m:Int)+1)=(m:Int)+1:=by rw[IntKind.wrap_i64];omega
   go_wp2_with fail;exact⟨⟨m+1,by go_num,by omega,C.o⟩,by simp[RowKit.intOf];omega⟩
  ·obtain rfl:m=x.terms.length:=by omega
   go_wp2_with fail;go_ret;exact⟨_,rfl,c.o.g,bo,rfl,B.o.1,c.o.ro.congr fun j _=>by rw[List.take_length];rfl⟩
def J1W (z:Int)(r:Value):Prop:=∃ t:Bool,r = .tuple #[.int .i64 (if fits z then z else 0),.bool t]∧(t=true↔In z)
theorem J0L (w:World)(l:Value)(z:Int)(j:IntC w l z)(q:(digs z.natAbs).length≤4000):
  Calls Tryz.prog 262 #[l] w (Ret w fun r _=>J1W z r):=by
 have b:=Z j;obtain⟨v,u,c0,rfl⟩:=j.agg;clear j;have B:=box2 w (.bool (decide (z < 0))) (.slice v u c0) 66;go_enter Tryz.func262,Tryz.ntmps262;go_wp2_with fail;generalize w.alloc _=W at B ⊢;obtain⟨G,i⟩:=hidC2 B;clear B;generalize p:w.heap.size=m at i  ⊢;have x:=Z (show ¬ m < w.heap.size by omega);clear p;have b:=Z (b.o.grow G.o);obtain⟨t,k⟩:∃ t,fits z=t:=⟨_,rfl⟩
 refine(J5C W _ _ _ z t (Mx z) b.o q k).mono ?_;rintro _ y ⟨_,rfl,g1,rfl⟩;obtain⟨G,i,b⟩:=Z3 (G.o.trans g1) (i.o.grow g1) (b.o.grow g1);clear g1;have d:=Z (show fits z=t from k);clear k
 cases t
 ·go_wp2_with fail;go_ret2;refine⟨_,rfl,G.o,false,by rw[d.o];rfl,⟨(fun h=>by cases h),fun h=>?_⟩⟩;have:=d.o;unfold fits at this;have g:=of_decide_eq_false this;unfold In at h;omega
 ·by_cases f : -1099511627776≤z
  ·by_cases g:z≤1099511627776
   ·have c:=Z (show In z from⟨f,g⟩);go_wp2_with fail;go_ret2;exact⟨_,rfl,G.o,true,by simp[f,g,d.o],⟨fun _=>c.o,fun _=>rfl⟩⟩
   ·have c:=Z (show ¬ In z from fun h=>g h.2);go_wp2_with fail;go_ret2;exact⟨_,rfl,G.o,false,by simp[f,g,d.o],⟨(fun h=>by cases h),fun h=>absurd h c.o⟩⟩
  ·have c:=Z (show ¬ In z from fun h=>f h.1);go_wp2_with fail;go_ret2;exact⟨_,rfl,G.o,false,by simp[f,d.o],⟨(fun h=>by cases h),fun h=>absurd h c.o⟩⟩
theorem Yi:∀ (l:List Int) (b v:Int),IncI b l→(∀ x,l.getLast?=some x→x < v)→(l=[]→b < v)→IncI b (l ++ [v])
 | [],b,v,_,_,h2=>⟨h2 rfl,trivial⟩
 | x :: l,b,v,h,h1,h2=>⟨h.1,Yi l x v h.2 (fun y c=>h1 y (by cases l<;>simp_all)) (fun e=>h1 x (by subst e;rfl))⟩
theorem Yj:∀ (l:List Int) (c:Int) (k:Nat) (a b:Int),l[k]?=some a→l[k+1]?=some b→IncI c l→a < b
 | y :: z :: l,c,0,a,b,ha,hb,h=>by
  simp at ha hb;subst ha hb;exact h.2.1
 | y :: l,c,k+1,a,b,ha,hb,h=>Yj l y k a b (by simpa using ha) (by simpa using hb) h.2
def cutV (k:Int)(p:Option Addr)(m e:Nat)(row:Int)(q:Option Addr)(n f:Nat):Value:=.agg #[.int .i64 k,.slice p m e,.int .i64 row,.slice q n f]
theorem J5K (w:World)(v u:Value)(p:Prg)(c:CutS)(L:Nat)(hp:Js w v p)(hc:Lc w u c L)(hn:p.vars.length≤1000000)(hm:p.rows.length≤1000000)(c7:c.mult.length≤1000000)(c8:c.vars.length≤1000000):
  Calls Tryz.prog 209 #[v,u] w (Ret w fun r _=>Jb (Kf p c) r):=by
 have X:=Z hp;obtain⟨pm,nm,cm,pv,nv,cv,rfl,c5,b2,rfl,rfl⟩:=hc.parts;have a6:=Z b2;clear hc c5 b2;obtain⟨va,vc,vb,vd,rfl,hv,hr⟩:=hp;have B0:=Ja.new w #[.slice va p.vars.length vc,.slice vb p.rows.length vd] 25;have O:=Ja.new (w.alloc (.cells #[.slice va p.vars.length vc,.slice vb p.rows.length vd] 25)) #[.int .i64 c.kind,.slice pm c.mult.length cm,.int .i64 c.row,.slice pv c.vars.length cv] 45;simp only[World.size_alloc] at O;have f:=Z (show _∧Ja _ _ #[.slice va p.vars.length vc,.slice vb p.rows.length vd]∧Ja _ _ #[.int .i64 c.kind,.slice pm c.mult.length cm,.int .i64 c.row,.slice pv c.vars.length cv] from⟨B0.1.trans O.1,B0.2.grow O.1,O.2⟩);clear hv hr B0 O;unfold prgV at X ⊢;obtain⟨kd,a3⟩:∃ k,c.kind=k:=⟨_,rfl⟩
 have y:=Z a3;rw[a3] at f ⊢;clear a3;by_cases R:kd=0
 ·subst R;by_cases d:c.row=0
  ·by_cases C:c.vars.length=0
   ·by_cases J:c.mult.length≤p.rows.length
    ·have H:=Z (show Kf p c from .inl ⟨y.o,d,List.eq_nil_of_length_eq_zero C,J⟩);have K:(c.mult.length:Int)≤(p.rows.length:Int):=by omega
     rw[d,C] at f ⊢;clear d C J;go_enter Tryz.func209,Tryz.ntmps209;go_wp2_with fail;go_ret;exact⟨_,rfl,f.o.1,by simpa[K] using Jb.yes H.o⟩
    ·have H:=Z (show ¬ Kf p c from fun h=>by
      rcases h with h|h
      ·exact J h.2.2.2
      ·have:=h.1;rw[y.o] at this;omega)
     have K:¬ (c.mult.length:Int)≤(p.rows.length:Int):=by omega
     rw[d,C] at f ⊢;clear d C J;go_enter Tryz.func209,Tryz.ntmps209;go_wp2_with fail;go_ret;exact⟨_,rfl,f.o.1,by simpa[K] using Jb.no H.o⟩
   ·have H:=Z (show ¬ Kf p c from fun h=>by
     rcases h with h|h
     ·exact C (by rw[h.2.2.1];rfl)
     ·have:=h.1;rw[y.o] at this;omega)
    have S:((c.vars.length:Int) == 0)=false:=(beq_eq_false_iff_ne).2 (by omega);rw[d] at f ⊢;clear d C;go_enter Tryz.func209,Tryz.ntmps209;go_wp2_with fail;go_ret;exact⟨_,rfl,f.o.1,by simpa[S] using Jb.no H.o⟩
  ·have H:=Z (show ¬ Kf p c from fun h=>by
    rcases h with h|h
    ·exact d h.2.1
    ·have:=h.1;rw[y.o] at this;omega)
   have a1:(c.row == 0)=false:=by simpa using d
   clear d;go_enter Tryz.func209,Tryz.ntmps209;go_wp2_with fail;go_ret;exact⟨_,rfl,f.o.1,by simpa[a1] using Jb.no H.o⟩
 by_cases d:kd=1;rotate_left
 ·have H:=Z (show ¬ Kf p c from fun h=>by
   rcases h with h|h
   ·exact R (y.o.symm.trans h.1)
   ·exact d (y.o.symm.trans h.1))
  have c6:(kd == 0)=false:=by simpa using R
  have a1:(kd == 1)=false:=by simpa using d
  clear R d;go_enter Tryz.func209,Tryz.ntmps209;go_wp2_with fail;go_ret;exact⟨_,rfl,f.o.1,Jb.no H.o⟩
 subst d;clear R;have a0:=Z (show(¬ (c.mult=[]∧0≤c.row∧c.row < (p.rows.length:Int)∧c.vars≠[]))→¬ Kf p c from fun h k=>by
  rcases k with k|k
  ·have:=k.1;rw[y.o] at this;omega
  ·exact h ⟨k.2.1,k.2.2.1,k.2.2.2.1,k.2.2.2.2.1⟩)
 by_cases d:0 < c.mult.length
 ·have H:=Z (a0.o fun h=>by rw[h.1] at d;simp at d);have a1:(0:Int) < (c.mult.length:Int):=by omega
  go_enter Tryz.func209,Tryz.ntmps209;go_wp2_with fail;go_ret;exact⟨_,rfl,f.o.1,Jb.no H.o⟩
 have T:c.mult.length=0:=by omega
 by_cases C:c.row < 0
 ·have H:=Z (a0.o fun h=>by omega);rw[T] at f ⊢;clear d;go_enter Tryz.func209,Tryz.ntmps209;go_wp2_with fail;go_ret;exact⟨_,rfl,f.o.1,Jb.no H.o⟩
 by_cases J:(p.rows.length:Int)≤c.row
 ·have H:=Z (a0.o fun h=>by omega);have S:0≤c.row:=by omega
  rw[T] at f ⊢;clear d C;go_enter Tryz.func209,Tryz.ntmps209;go_wp2_with fail;go_ret;exact⟨_,rfl,f.o.1,Jb.no H.o⟩
 by_cases Y:c.vars.length=0
 ·have H:=Z (a0.o fun h=>h.2.2.2 (List.eq_nil_of_length_eq_zero Y));have S:0≤c.row:=by omega
  have K:c.row < (p.rows.length:Int):=by omega
  rw[T,Y] at f ⊢;clear d C J;go_enter Tryz.func209,Tryz.ntmps209;go_wp2_with fail;go_ret;exact⟨_,rfl,f.o.1,Jb.no H.o⟩
 have U:=Z (show c.mult=[]∧0≤c.row∧c.row < (p.rows.length:Int)∧c.vars≠[] from⟨List.eq_nil_of_length_eq_zero T,by omega,by omega,fun h=>Y (by rw[h];rfl)⟩);have S:0≤c.row:=by omega
 have K:c.row < (p.rows.length:Int):=by omega
 have b6:((c.vars.length:Int) == 0)=false:=(beq_eq_false_iff_ne).2 (by omega);rw[T] at f ⊢;clear d C J Y;go_enter Tryz.func209,Tryz.ntmps209;go_wp2_with fail;generalize w.heap.size+1=bc at f ⊢;generalize w.heap.size=bp at f ⊢;generalize (w.alloc _).alloc _=W at f ⊢;obtain⟨G,TP,TC⟩:=Z3 f.o.1 f.o.2.1 f.o.2.2;clear f S K b6;go_loopw [5] (fun i w9=>∃ k:Nat,i = .int .i64 (k:Int)∧k≤c.vars.length∧(∀ (j:Nat) (z:Int),j < k→c.vars[j]?=some z→Kb p z)∧IncI (-1) (c.vars.take k)∧Gr W w9) (fun i _=>c.vars.length - (RowKit.intOf i).toNat)
 case atStart=>exact⟨0,rfl,Nat.zero_le _,fun j z hj=>by omega,trivial,Gr.refl _⟩
 case round=>
  obtain⟨k,rfl,hk,hq,b1,hg⟩:=hrel;obtain⟨HQ,HI,t⟩:=Z3 hq b1 hg;clear hq b1 hg;have I:=(TC.o.grow t.o).at 3 rfl;by_cases a4:k < c.vars.length
  ·have d1:(k:Int) < (c.vars.length:Int):=by omega
   obtain⟨b,o,z,rfl,hz,a8⟩:=Lm a6.o rfl a4;have z0:=fun w' g=>a8 w' (G.o.trans (t.o.trans g));have F:=Z hz;have c9:IntKind.i64.wrap ((k:Int)+1)=(k:Int)+1:=by rw[IntKind.wrap_i64];omega
   clear a8 hz;go_wp2_with fail;clear I;have M:=(TP.o.grow t.o).c 0 rfl;have N:=(TP.o.grow t.o).c 1 rfl;have I:=(TC.o.grow t.o).c 3 rfl;have D:Gr wr wr.drew:=(Gr.refl _).drew;have l:=Z D;rcases Nat.eq_zero_or_pos k with a2|a2
   ·have c2:¬ (0:Int) < (k:Int):=by omega
    have c1:decide (0 < (k:Int))=false:=decide_eq_false c2;have d0:¬ 0 < k:=by omega
    have a5:=Z a2;clear a2;refine Jl [(0,true),(1,true),(2,true),(3,true),(4,true),(5,true),(6,false),(7,true),(8,true),(9,true),(10,true),(11,true),(12,true),(13,true),(14,true),(15,true),(16,true),(17,true),(18,true),(19,true),(20,true),(21,true),(22,true),(23,true),(24,true),(25,true)] ?_;repeat(refine Jc D (h:=?_))
    refine Je (k:=Uw _ _ p z (X.o.grow (G.o.trans (t.o.trans l.o)))) (h:=?_);rintro r1 w2 B d;have l:=Z (l.o.trans B);have g3:=l.o;rcases d.cases with⟨rfl,q⟩|⟨rfl,q⟩;rotate_left
    ·have H:=Z (show ¬ Kf p c from fun h=>by
      rcases h with h|h
      ·have:=h.1;rw[y.o] at this;omega
      ·exact q (h.2.2.2.2.2.2 z (List.mem_of_getElem? F.o)))
     clear d q;repeat(first|(refine Jw (h:=?_))|(refine Jc g3 (h:=?_)))
     refine Jg ?_;clear M N I z0 D g3 B;go_wp2_with fail;try rw[Exit.noGoto_ret]
     go_ret;exact⟨_,rfl,G.o.trans (t.o.trans l.o),Jb.no H.o⟩
    have P:=Z q;clear d q
    ·repeat(first|(refine Jw (h:=?_))|(refine Jc g3 (h:=?_)))
     refine Jg ?_;clear M N I z0 D g3 B;go_wp2_with fail;refine⟨⟨k+1,by go_num,by omega,?_,?_,t.o.trans l.o⟩,by simp[RowKit.intOf];omega⟩
     ·intro j x hj E;obtain rfl:j=k:=by have:=a5.o;omega
      rw[F.o] at E
      cases E
      exact P.o
     ·have e:c.vars.take (k+1)=[z]:=by
       rw[List.take_succ_eq_append_getElem a4,(List.getElem?_eq_some_iff.1 F.o).2,a5.o];rfl
      rw[e];exact⟨by have:=(Oi P.o).1;omega,trivial⟩
   ·obtain⟨m,b0⟩:∃ j,k=j+1:=⟨k - 1,by omega⟩
    have V:=Z b0;obtain⟨_,_,z1,b8,b3,a9⟩:=Lm a6.o rfl (show m < c.vars.length by omega)
    cases b8
    have z2:=fun w' g=>a9 w' (G.o.trans (t.o.trans g));have a7:=Z b3;have d3:IntKind.i64.wrap ((k:Int) - 1)=(m:Int):=by rw[IntKind.wrap_i64];omega
    have d2:(m:Int) < (c.vars.length:Int):=by omega
    have c0:(0:Int) < (k:Int):=by omega
    have c1:decide (0 < (k:Int))=true:=decide_eq_true c0;clear a9 b3 b0;by_cases c3:z≤z1
    ·have H:=Z (show ¬ Kf p c from fun h=>by
      rcases h with h|h
      ·have:=h.1;rw[y.o] at this;omega
      ·have:=Yj _ _ m z1 z a7.o (by rw[← V.o];exact F.o) h.2.2.2.2.2.1;omega)
     refine Jl [(0,true),(1,true),(2,true),(3,true),(4,true),(5,true),(6,false),(7,true),(8,true),(9,true),(10,true),(11,true),(12,true),(13,true),(14,true),(15,true),(16,true),(17,true),(18,true),(19,true),(20,true),(21,true),(22,true),(23,true),(24,true),(25,true)] ?_;repeat(refine Jc D (h:=?_))
     refine Je (k:=Uw _ _ p z (X.o.grow (G.o.trans (t.o.trans l.o)))) (h:=?_);rintro r1 w2 B d;have l:=Z (l.o.trans B);have g3:=l.o;rcases d.cases with⟨rfl,q⟩|⟨rfl,q⟩;rotate_left
     ·have H:=Z (show ¬ Kf p c from fun h=>by
       rcases h with h|h
       ·have:=h.1;rw[y.o] at this;omega
       ·exact q (h.2.2.2.2.2.2 z (List.mem_of_getElem? F.o)))
      clear d q;repeat(first|(refine Jw (h:=?_))|(refine Jc g3 (h:=?_)))
      refine Jg ?_;clear M N I z0 D g3 B;go_wp2_with fail;try rw[Exit.noGoto_ret]
      go_ret;exact⟨_,rfl,G.o.trans (t.o.trans l.o),Jb.no H.o⟩
     have P:=Z q;clear d q
     ·repeat(first|(refine Jw (h:=?_))|(refine Jc g3 (h:=?_)))
      refine Jg ?_;clear M N I z0 z2 D g3 B;go_wp2_with fail;try rw[Exit.noGoto_ret]
      go_ret;exact⟨_,rfl,G.o.trans (t.o.trans l.o),Jb.no H.o⟩
    ·have c4:z1 < z:=by omega
     have b5:=Z c4;clear c3;refine Jl [(0,true),(1,true),(2,true),(3,true),(4,true),(5,true),(6,false),(7,true),(8,true),(9,true),(10,true),(11,true),(12,true),(13,true),(14,true),(15,true),(16,true),(17,true),(18,true),(19,true),(20,true),(21,true),(22,true),(23,true),(24,true),(25,true)] ?_;repeat(refine Jc D (h:=?_))
     refine Je (k:=Uw _ _ p z (X.o.grow (G.o.trans (t.o.trans l.o)))) (h:=?_);rintro r1 w2 B d;have l:=Z (l.o.trans B);have g3:=l.o;rcases d.cases with⟨rfl,q⟩|⟨rfl,q⟩;rotate_left
     ·have H:=Z (show ¬ Kf p c from fun h=>by
       rcases h with h|h
       ·have:=h.1;rw[y.o] at this;omega
       ·exact q (h.2.2.2.2.2.2 z (List.mem_of_getElem? F.o)))
      clear d q;repeat(first|(refine Jw (h:=?_))|(refine Jc g3 (h:=?_)))
      refine Jg ?_;clear M N I z0 D g3 B;go_wp2_with fail;try rw[Exit.noGoto_ret]
      go_ret;exact⟨_,rfl,G.o.trans (t.o.trans l.o),Jb.no H.o⟩
     have P:=Z q;clear d q
     ·repeat(first|(refine Jw (h:=?_))|(refine Jc g3 (h:=?_)))
      refine Jg ?_;clear M N I z0 z2 D g3 B;go_wp2_with fail;refine⟨⟨k+1,by go_num,by omega,?_,?_,t.o.trans l.o⟩,by simp[RowKit.intOf];omega⟩
      ·intro j x hj E;by_cases e:j=k
       ·subst e;rw[F.o] at E
        cases E
        exact P.o
       ·exact HQ.o j x (by omega) E
      ·rw[List.take_succ_eq_append_getElem a4,(List.getElem?_eq_some_iff.1 F.o).2];refine Yi _ _ _ HI.o (fun x E=>?_) (fun e=>?_)
       ·rw[V.o,List.take_succ_eq_append_getElem (by have:=V.o;omega),List.getLast?_append,List.getLast?_singleton,(List.getElem?_eq_some_iff.1 a7.o).2] at E
        cases E
        exact b5.o
       ·have e2:=congrArg List.length e;rw[List.length_take,List.length_nil] at e2;have:=V.o;omega
  ·obtain rfl:k=c.vars.length:=by omega
   have H:=Z (show Kf p c from .inr ⟨y.o,U.o.1,U.o.2.1,U.o.2.2.1,U.o.2.2.2,by have:=HI.o;rwa [List.take_length] at this,fun z hz=>by
    obtain⟨i,hi,rfl⟩:=List.getElem_of_mem hz;exact HQ.o i _ hi (List.getElem?_eq_getElem hi)⟩)
   go_wp2_with fail;go_ret;exact⟨_,rfl,G.o.trans t.o,Jb.yes H.o⟩
end Prf
end Go.Proofs.YtcjgimlcefhhmaaGreatDoor
namespace Go.Proofs.YtcjgimlcefhhmaaGreatDoor
open Go.RowKit Go.Lib
def zcR:TypeId→Array Value:=fun _ => #[.bool false,.slice none 0 0,.slice none 0 0]
theorem Jy.three {T:TypeId}{b:Nat}{w:World}(h:Jy (zcR T) T b w):Jn w b (.bool false) (.slice none 0 0) (.slice none 0 0):=⟨T,h⟩
theorem allocR:O7 Tryz.prog 68 (zcR 68):=fun w=>by
 simp[go_sem];rfl
theorem RatC.keepR {w:World}{v:Value}{x:Rat}{b:Nat}{s:Bool}{p q:Option Addr}{k c m e:Nat}(h:RatC w v x)(t:Jn w b (.bool s) (.slice p k c) (.slice q m e))(d f g:Value):RatC (((w.setCell ⟨b,0,none⟩ d).setCell ⟨b,1,none⟩ f).setCell ⟨b,2,none⟩ g) v x:=
 h.upd t.noInt (upd3 _ _ _ _ _)
namespace Prf
theorem Ps {b:List VarM}{a:Nat→Int}(m:∀ v ∈ b,Ky v)(l:∀ j,In (a j))(p:b.length≤10):(∀ j,j≤b.length→Sz 200 (sumQ (lTerm b fun j=>(a j:Rat)) j))∧∀ j,Sz 200 (lTerm b (fun j=>(a j:Rat)) j):=by
 have g:∀ j,OnD 1 (1099511627776 * (1099511627776 * 1)) (lTerm b (fun j=>(a j:Rat)) j):=fun j=>by
  unfold lTerm
  cases c:b[j]? with
  | none=>exact Ow _ _
  | some v=>
   have k:=m v (List.mem_of_getElem? c);refine Ov ?_ (J4F 1 (Ll (l j)))
   split
   ·exact Ll k.2.1
   ·exact Ll k.1
 have h:∀ j,j≤10→OnD 1 (10 * (1099511627776 * (1099511627776 * 1))) (sumQ (lTerm b (fun j=>(a j:Rat))) j):=fun j c=>
  (Pk j fun i _=>g i).mono (Nat.mul_le_mul c (Nat.le_refl _))
 have d:(1:Nat)≤BB ^ 68:=Nat.pow_pos (by decide);have f:(1:Nat)≤BB ^ 64:=Nat.pow_pos (by decide);exact⟨fun j c=>Sz.mono' (Sr (K:=12089258196146291747061760) (U:=1) (by decide) d f (by decide) ((h j (by omega)).mono (by decide))) (by decide),fun j=>Sz.mono' (Sr (K:=12089258196146291747061760) (U:=1) (by decide) d f (by decide) ((g j).mono (by decide))) (by decide)⟩
theorem J14 {b:List VarM}{j:Nat}{x:VarM}(h:b[j]?=some x):setLow b (j:Int)=b.set j { x with lo:=1 }:=by
 refine List.ext_getElem? fun i=>?_;rw[J13];by_cases e:i=j
 ·subst e;rw[h,List.getElem?_set_self (List.getElem?_eq_some_iff.1 h).1];simp
 ·rw[List.getElem?_set_ne (by omega)]
  cases b[i]? with
  | none=>rfl
  | some u=>simp;omega
theorem Zb {b:List VarM}{l:List Int}{k:Nat}{v:Int}(h:l[k]?=some v):lowAll b (l.take (k+1))=setLow (lowAll b (l.take k)) v:=by
 have c:=(List.getElem?_eq_some_iff.1 h).1;rw[List.take_succ_eq_append_getElem c,(List.getElem?_eq_some_iff.1 h).2];unfold lowAll;rw[List.foldl_append];rfl
theorem Zc {c:List VarM}{l:List Int}{v:VarM}(h:v ∈ lowAll c l):∃ u ∈ c,v=u∨v={ u with lo:=1 }:=by
 obtain⟨i,d,rfl⟩:=List.getElem_of_mem h;have b:=Za l c i;rw[List.getElem?_eq_getElem d] at b
 cases h2:c[i]? with
 | none=>rw[h2] at b;cases b
 | some u=>
  rw[h2] at b;simp only[Option.map_some,Option.some.injEq] at b;refine⟨u,List.mem_of_getElem? h2,?_⟩;rw[b]
  split
  ·exact .inr rfl
  ·exact .inl rfl
theorem Mc {p:Prg}(l:List Int)(c:Jo p)(f:Whole p):Jo ⟨lowAll p.vars l,[]⟩∧Whole ⟨lowAll p.vars l,[]⟩:=by
 refine⟨⟨by simp only[Mb];exact c.1,Nat.zero_le _,fun v d=>?_,fun r g=>by cases g⟩,fun v d=>?_⟩
 ·obtain⟨u,b,rfl|rfl⟩:=Zc d
  ·exact c.2.2.1 _ b
  ·obtain⟨k,h,i,j⟩:=c.2.2.1 _ b;exact⟨(show In 1 by unfold In;decide),h,i,j⟩
 ·obtain⟨u,b,rfl|rfl⟩:=Zc d
  ·exact f _ b
  ·exact f u b
theorem Sa:(Tryz.prog.info? 62).map (fun i=>(i.zero,i.size,i.bytes))=some (some (.agg #[.int .i64 0,.int .i64 0,.bool false,.bool false,.int .i64 0]),5,32):=by kernel_rfl
theorem Q9:∀ x,∀ u ∈ encVar x,u.oneCell'=true:=fun x u b=>by
 simp[encVar] at b;rcases b with rfl|rfl|rfl|rfl|rfl<;>rfl
structure La (W w:World)(b7 bg n cap:Nat)(vs:List VarM):Prop where
 g:Gr W w
 tq:Ja w b7 #[.slice (some ⟨bg,0,none⟩) n cap,.slice none 0 0]
 ro:OwnL w W.heap.size 62 5 encVar (.slice (some ⟨bg,0,none⟩) n cap) vs
theorem La.grow {W w w':World}{b7 g n b:Nat}{c:List VarM}(h:La W w b7 g n b c)(k:Gr w w'):La W w' b7 g n b c:=⟨h.g.trans k,h.tq.grow k,h.ro.grow k⟩
theorem J0G (w:World)(a q:Option Addr)(c n d:Nat)(b:List VarM)(A:Nat→Int)(l:b.length=n)(m:K8 w (.slice a n c) b)(k:Kq w (.slice q n d) n (fun j=>(A j:Rat)) 80)(f:Jo ⟨b,[]⟩)(p:Whole ⟨b,[]⟩)
  (i:∀ j,In (A j)) (h:n≤10):
  Calls Tryz.prog 154 #[.agg #[.slice a n c,.slice none 0 0],.slice q n d] w (Ret w fun r w'=>(K7 b∧r = .tuple #[.agg #[.bool false,.slice none 0 0,.slice none 0 0],.bool false])∨(¬ K7 b∧∃ u,r = .tuple #[u,.bool true]∧RatC w' u (leastS b fun j=>(A j:Rat)))):=by
 subst l;have g:=Ps f.2.2.1 i h;exact J0F w _ ⟨b,[]⟩ q d _ ⟨a,c,none,0,rfl,m,[],SlL.nil w,rfl,by simp⟩ k f p g.1 g.2
theorem P7 {x y:Rat}{c:Int}(h:cmpQ x y=c):0 < c↔y < x:=by
 subst h;unfold cmpQ
 split
 ·rename_i k;exact⟨fun h=>absurd h (by decide),fun h=>by grind⟩
 ·rename_i k
  split
  ·rename_i b;subst b;exact⟨fun h=>absurd h (by decide),fun h=>absurd h k⟩
  ·rename_i b;exact⟨fun _=>by grind,fun _=>by decide⟩
theorem J5J (w:World)(v:Value)(p:Prg)(rk:Nat)(rs:RowS)(l:List Int)(pv:Option Addr)(cv:Nat)(hp:Js w v p)(c6:p.rows[rk]?=some rs)(hk:Jo p)(hw:Whole p)(hn:p.vars.length≤10)
  (hb:∀ v ∈ l,Kb p v) (hl:Mi w (.slice pv l.length cv) l) (c4:l≠[]) (f9:l.length≤1000000):
  Calls Tryz.prog 211 #[v,.int .i64 (rk:Int),.slice pv l.length cv] w (Ret w fun r _=>Jb (Lb p.vars rs l) r):=by
 obtain⟨Y,HW,HP,HL,e3,c9⟩:=Z6 hk hw hp hl hb c4;have hm:=hk.2.1;have f4:=(List.getElem?_eq_some_iff.1 c6).1;have h3:(rk:Int) < (p.rows.length:Int):=by omega
 have f1:0 < p.vars.length:=by
  cases l with
  | nil=>exact absurd rfl c4
  | cons a l=>
   have:=Oi (hb a (List.mem_cons_self ..));omega
 clear hk hw hl hb c4;obtain⟨va,vc,vb,vd,rfl,hv,hr⟩:=hp;obtain⟨HV,HR⟩:=Z2 hv hr;obtain⟨_,_,_,h4,h5⟩:=SlL.parts hv;obtain⟨_,_,_,h0,h2⟩:=hr.parts;clear hv hr;have B0:=Ja.new w #[.slice va p.vars.length vc,.slice vb p.rows.length vd] 25;have HB:=Z B0;unfold prgV;clear B0;unfold prgV at HP;go_enter Tryz.func211,Tryz.ntmps211;go_wp2_with (at_builtin;refine Hold.hold ?_);have a2:(w.alloc (.cells #[.slice va p.vars.length vc,.slice vb p.rows.length vd] 25)).heap.size=w.heap.size+1:=World.size_alloc ..;rw[← a2];clear a2;generalize w.heap.size=bp at HB ⊢;generalize w.alloc _=W at HB ⊢;obtain⟨G,TP⟩:=Z2 HB.o.1 HB.o.2;clear HB;refine Hold.go ?_;have c5:=OwnL.made0 (sz:=5) (enc:=encVar) W W.heap.size 62 (Nat.le_refl _);have g1:Gr W (W.alloc (.cells #[] 62)):=(Gr.refl _).alloc _;have e5:=Z (SlL.grow HV.o (G.o.trans g1));refine J6U rfl _ _ 22 62 _ 32 rfl Tryz.underlying22 Sa rfl (by decide) K0 Q9 W.heap.size _ _ [] p.vars rfl c5 rfl e5.o (by simp;omega) (by simp;omega) g1.size ?_;intro v2 W2 b1 k2;rw[List.nil_append] at b1;have F:=OwnL.gr c5 g1 k2;obtain⟨X,cg,rfl,d7,e6,f6,f7⟩:=b1.made f1;have B7:=Ja.new W2 #[.slice (some ⟨X,0,none⟩) p.vars.length cg,.slice none 0 0] 25;obtain⟨b0,b3⟩:=Z2 (show La W (W2.alloc (.cells #[.slice (some ⟨X,0,none⟩) p.vars.length cg,.slice none 0 0] 25)) W2.heap.size X p.vars.length cg p.vars from⟨F.trans B7.1,B7.2,b1.grow B7.1⟩) (show W2.heap.size≠X∧W.heap.size≤X from⟨by omega,d7⟩);clear c5 g1 b1 k2 F B7 d7 e6;go_wp2_with fail;generalize W2.heap.size=b7 at b0 b3 ⊢;generalize W2.alloc _=W3 at b0 ⊢;go_loopw [8] (fun i w9=>∃ k:Nat,i = .int .i64 (k:Int)∧k≤l.length∧La W w9 b7 X p.vars.length cg (lowAll p.vars (l.take k))) (fun i _=>l.length - (RowKit.intOf i).toNat)
 case atStart=>exact⟨0,rfl,Nat.zero_le _,b0.o⟩
 case round=>
  clear b0;obtain⟨k,rfl,hk,hq⟩:=hrel;have t:=Z hq;clear hq;by_cases f0:k < l.length
  ·have g4:(k:Int) < (l.length:Int):=by omega
   have f8:IntKind.i64.wrap ((k:Int)+1)=(k:Int)+1:=by rw[IntKind.wrap_i64];omega
   obtain⟨b,o,z,f3,N,d8⟩:=Lm HL.o rfl f0;have e4:=Z (e3.o z (List.mem_of_getElem? N));have e0:=Oi e4.o;obtain⟨zn,rfl⟩:∃ n:Nat,z=(n:Int):=⟨z.toNat,by omega⟩
   have d9:zn < (lowAll p.vars (l.take k)).length:=by rw[Mb];omega
   have h7:(zn:Int) < (p.vars.length:Int):=e0.2;have h9:zn < p.vars.length:=by omega
   obtain⟨x,hx⟩:∃ x,(lowAll p.vars (l.take k))[zn]?=some x:=⟨_,List.getElem?_eq_getElem d9⟩
   obtain⟨HZ,HX⟩:=Z2 N hx;have z0:=fun w' g=>d8 w' ((G.o.trans t.o.g).trans g);subst f3;clear e0 d9 N hx d8;go_wp2_with fail;have q0:=t.o.tq.c 0 rfl;have q:Gr wr wr.drew:=(Gr.refl _).drew;have t:=Z (t.o.grow q);refine Jl [(0,true),(1,true),(2,true),(3,true),(4,true),(5,true),(6,true),(7,true),(8,false)] ?_;generalize wr.drew=Wd at q t ⊢;repeat(refine Jc q (h:=?_))
   obtain⟨r1,r2,r3,r4,r5⟩:=OwnL.putS K0 t.o.ro { x with lo:=1 } 0 (.int .i64 1) HX.o (by decide) rfl;rw[Nat.add_zero] at r3 r4 r5;have f5:Wd.cell? ⟨X,zn * 5,none⟩=some (.int .i64 x.lo):=r3;have d6:=Z (show La W (Wd.setCell ⟨X,zn * 5,none⟩ (.int .i64 1)) b7 X p.vars.length cg (lowAll p.vars (l.take (k+1))) from
    ⟨Gr.set t.o.g (by have:=b3.o.2;omega) _,t.o.tq.upd (J5 _ _ _ _) b3.o.1,by rw[Zb HZ.o,J14 HX.o];exact r5⟩)
   clear r1 r2 r3 r5 q0 z0;refine Jj rfl rfl (fun K f=>?_);go_simp;refine⟨fun h=>Bool.noConfusion h,f _ _ ?_⟩;clear f K;generalize Wd.setCell _ _=W5 at d6 ⊢;refine Jg ?_;clear f5 r4 q;go_wp2_with fail;exact⟨⟨k+1,by go_num,by omega,d6.o⟩,by simp[RowKit.intOf];omega⟩
  ·obtain rfl:k=l.length:=by omega
   have t:=Z (show La W wr b7 X p.vars.length cg (lowAll p.vars l) from by have:=t.o;rwa [List.take_length] at this);obtain⟨b,o,x,rfl,hx,a4,hc⟩:=HR.o.at f4;obtain rfl:x.s=rs:=Option.some.inj (hx.symm.trans c6);obtain⟨a9,HX,HC⟩:=Z3 (Y.o.2.2.2 _ (List.mem_of_getElem? hx)) hx hc;clear hx a4 hc c6;obtain⟨-,-,c2,-,-⟩:=HC.o wr (G.o.trans t.o.g);have y1:=(TP.o.grow t.o.g).at 1 rfl;obtain⟨kd,c3⟩:∃ k,x.kind=k:=⟨_,rfl⟩
   rw[c3] at c2;have c7:=Z (show sgnR x.s=if kd=1 then -1 else 1 from by unfold sgnR;rw[show x.s.kind=kd from c3]);clear c3;by_cases h1:kd=1
   ·subst h1;have b6:=Z (show sgnR x.s = -1 from by rw[c7.o,if_pos rfl]);go_wp2_with fail;clear c2 y1;have q0:=t.o.tq.c 0 rfl;have q1:=t.o.tq.c 1 rfl;have p0:=(TP.o.grow t.o.g).c 0 rfl;have p1:=(TP.o.grow t.o.g).c 1 rfl;have q:Gr wr wr.drew:=(Gr.refl _).drew;have a4:=fun j=>(Mr (sg:=(-1)) (by decide) (J2.coefs a9.o j)).1;have a6:=Z a4;clear a4;refine O3 zcR 60 [ (0,1),(1,1),(2,1),(3,1),(4,0),(5,0),(6,1),(7,1),(8,1),(9,2),(10,0),(11,1)] (by kernel_rfl) (by kernel_rfl) rfl (by kernel_rfl) (fun _ _ d _ _ h=>by cases d<;>exact h) (fun _ _ d _ _ h=>by cases d<;>exact h) (by intro i hi;simp at hi;subst hi;exact⟨_,_,rfl,rfl,rfl,allocR⟩) ?_;repeat(refine J6 (v:=?_) q rfl rfl (fun w' U=>?_) (fun K f=>?_);rotate_left;(go_simp;rfl);go_simp;refine f _ _ ?_;clear f K)
    refine Ke rfl rfl (fun K f w1 g1=>?_);go_simp;refine(J0K w1 _ p rk (-1) x.s (HP.o.grow ((G.o.trans t.o.g).trans (q.trans g1))) HX.o (by decide) Y.o).mono ?_;rintro _ w2 ⟨_,rfl,F,bo,rfl,c1,a7⟩;refine⟨fun _=>F,f _ _ ?_⟩;clear f K;have b5:=Z (a7.read (by omega));have F:=(q.trans g1).trans F;clear g1 c1 a7;repeat(refine J6 (v:=?_) F rfl rfl (fun w' U=>?_) (fun K f=>?_);rotate_left;(go_simp;rfl);go_simp;refine f _ _ ?_;clear f K)
    refine Ke rfl rfl (fun K f w5 g5=>?_);go_simp;refine(J0G w5 _ _ _ _ _ (lowAll p.vars l) (fun j=>(-1) * rowCoef x.s.terms j) (Mb _ _) ((OwnL.read t.o.ro).grow (F.trans g5)) (b5.o.grow g5) (Mc l Y.o HW.o).1 (Mc l Y.o HW.o).2 a6.o hn).mono ?_;rintro _ w6 ⟨r6,rfl,g6,h6⟩;refine⟨fun _=>g6,f _ _ ?_⟩;clear f K;have M:=F.trans (g5.trans g6);clear F g5 g6;rcases h6 with⟨T,rfl⟩|⟨T,u,rfl,hu⟩
    ·obtain⟨y,H⟩:=Z2 (Sj w6) (show ¬ Lb p.vars x.s l from fun h=>h.1 T);clear T;repeat(refine J6 (v:=?_) M rfl rfl (fun w' U=>?_) (fun K f=>?_);rotate_left;(go_simp;rfl);go_simp;refine f _ _ ?_;clear f K)
     unfold zeroRat RatM.v at y;dsimp only at y;refine Mf rfl rfl (fun K w8 c0 B S V f=>f _ _ ?_);clear f K;have O:=S.three;clear S;refine Ke rfl rfl (fun K f E C=>?_);have m:=O.grow C;have d0:=m.c0 E (Gr.refl _);have d1:=m.c1 E (Gr.refl _);have d2:=m.c2 E (Gr.refl _);have d3:=m.f0 0;have R:=m.f0 1;have d5:=m.f0 2;go_simp;refine⟨fun h=>Bool.noConfusion h,f _ _ ?_⟩;clear f K;have D:=(M.trans (B.trans C)).three V (.bool false) (.slice none 0 0) (.slice none 0 0);have L:=m.set (.bool false) (.slice none 0 0) (.slice none 0 0);have y:=Z ((y.o.grow (B.trans C)).keepR m (.bool false) (.slice none 0 0) (.slice none 0 0));clear d0 d1 d2 d3 R d5 m O;generalize ((E.setCell _ _).setCell _ _).setCell _ _=P at D L y ⊢;repeat(refine J6 (v:=?_) D rfl rfl (fun w' U=>?_) (fun K f=>?_);rotate_left;(go_simp;rfl);go_simp;refine f _ _ ?_;clear f K)
     refine Nq ?_;have a0:=Z L;clear V M B C q L;have J:=Z (G.o.trans (t.o.g.trans D));clear q0 q1 p0 p1 D;go_wp2_with fail;have q:Gr P P.drew:=(Gr.refl _).drew;have J:=Z (J.o.trans q);refine Jl [(0,true),(1,true),(2,true),(3,true),(4,true),(5,true),(6,true),(7,true),(8,true),(9,true),(10,true),(11,true),(12,true),(13,true),(14,true),(15,true),(16,false),(17,false),(18,true),(19,true),(20,true)] ?_;repeat(first|(refine Jw (h:=?_))|(refine Jc q (h:=?_)))
     refine Jg ?_;clear q;go_wp2_with fail;go_ret;exact⟨_,rfl,J.o,Jb.no H.o⟩
    ·obtain⟨s8,p8,k8,c8,e8,m8,n8,rfl⟩:=hu.agg;obtain⟨y,HE⟩:=Z2 hu T;clear T hu;repeat(refine J6 (v:=?_) M rfl rfl (fun w' U=>?_) (fun K f=>?_);rotate_left;(go_simp;rfl);go_simp;refine f _ _ ?_;clear f K)
     refine Mf rfl rfl (fun K w8 c0 B S V f=>f _ _ ?_);clear f K;have O:=S.three;clear S;refine Ke rfl rfl (fun K f E C=>?_);have m:=O.grow C;have d0:=m.c0 E (Gr.refl _);have d1:=m.c1 E (Gr.refl _);have d2:=m.c2 E (Gr.refl _);have d3:=m.f0 0;have R:=m.f0 1;have d5:=m.f0 2;go_simp;refine⟨fun h=>Bool.noConfusion h,f _ _ ?_⟩;clear f K;have D:=(M.trans (B.trans C)).three V (.bool s8) (.slice p8 k8 c8) (.slice e8 m8 n8);have L:=m.set (.bool s8) (.slice p8 k8 c8) (.slice e8 m8 n8);have y:=Z ((y.o.grow (B.trans C)).keepR m (.bool s8) (.slice p8 k8 c8) (.slice e8 m8 n8));clear d0 d1 d2 d3 R d5 m O;generalize ((E.setCell _ _).setCell _ _).setCell _ _=P at D L y ⊢;repeat(refine J6 (v:=?_) D rfl rfl (fun w' U=>?_) (fun K f=>?_);rotate_left;(go_simp;rfl);go_simp;refine f _ _ ?_;clear f K)
     refine Nq ?_;have a0:=Z L;clear V M B C q L;have J:=Z (t.o.g.trans D);clear q0 q1 p0 p1 D;go_wp2_with fail;have e7:0 < l.length:=List.length_pos_iff.2 c9.o;have e9:(0:Int) < (l.length:Int):=by omega
     have t0:=a0.o.c0;have t1:=a0.o.c1;have t2:=a0.o.c2;have p1:=(TP.o.grow J.o).c 1 rfl;have R:=fun w' g=>(HC.o w' ((G.o.trans J.o).trans g)).2.2.2.2;have N:=Mr (sg:=(-1)) (by decide) a9.o.2.2.2.1;have a5:=N.2;obtain⟨z,a1⟩:∃ z,(-1) * x.s.bound=z:=⟨_,rfl⟩
     rw[a1] at N a5;obtain⟨HZ,b8⟩:=Z2 N.1 a1;have a8:IntKind.i64.wrap ((-1) * x.bound)=z:=by rw[show x.bound=x.s.bound from rfl,a1,a5]
     simp only[Int.neg_mul,Int.one_mul] at a8;have q:Gr P P.drew:=(Gr.refl _).drew;have I:=Z q;clear N a5 a1;refine Jl [(0,true),(1,true),(2,true),(3,true),(4,true),(5,true),(6,true),(7,true),(8,true),(9,true),(10,true),(11,true),(12,true),(13,true),(14,true),(15,true),(16,false),(17,false),(18,true),(19,true),(20,true)] ?_;repeat(refine Jc q (h:=?_))
     refine Je (k:=R3 _ z (Kd HZ.o).1 (Kd HZ.o).2) (h:=?_);rintro r8 w8 B h8;have I:=Z (I.o.trans B);obtain⟨cs,a3⟩:∃ c,cmpQ (leastS (lowAll p.vars l) fun j=>(((-1) * rowCoef x.s.terms j:Int):Rat)) (z:Rat)=c:=⟨_,rfl⟩
     have a2:=(Ps (Mc l Y.o HW.o).1.2.2.1 a6.o (by rw[Mb];exact hn)).1 _ (Nat.le_refl _);refine Je (k:=J0Y _ _ _ _ (z:Rat) cs 200 2 (RatC.v (y.o.grow I.o) a2) (h8.v (Km HZ.o)) a3 (by decide) (by decide) (by decide) (by decide)) (h:=?_);rintro _ w9 g9 rfl;have I:=Z (I.o.trans g9);have b2:=Z (show 0 < cs↔Lb p.vars x.s l from by
      rw[P7 a3];unfold Lb;rw[b6.o,b8.o];exact⟨fun h=>⟨HE.o,h⟩,fun h=>h.2⟩)
     have g3:=I.o;clear h8 a2 a3;repeat(refine Jc g3 (h:=?_))
     refine Jg ?_;clear q g3 B g9 t0 t1 t2 p1 R a8;go_wp2_with fail;go_ret;refine⟨_,rfl,(G.o.trans J.o).trans I.o,decide (0 < cs),rfl,?_⟩;rw[← b2.o];simp
   ·have e1:(kd == 1)=false:=by simpa using h1
    have b6:=Z (show sgnR x.s=1 from by rw[c7.o,if_neg h1]);clear h1;go_wp2_with fail;clear c2 y1 e1;have q0:=t.o.tq.c 0 rfl;have q1:=t.o.tq.c 1 rfl;have p0:=(TP.o.grow t.o.g).c 0 rfl;have p1:=(TP.o.grow t.o.g).c 1 rfl;have q:Gr wr wr.drew:=(Gr.refl _).drew;have a4:=fun j=>(Mr (sg:=1) (by decide) (J2.coefs a9.o j)).1;have a6:=Z a4;clear a4;refine O3 zcR 60 [ (0,1),(1,1),(2,1),(3,1),(4,0),(5,0),(6,1),(7,1),(8,1),(9,2),(10,0),(11,1)] (by kernel_rfl) (by kernel_rfl) rfl (by kernel_rfl) (fun _ _ d _ _ h=>by cases d<;>exact h) (fun _ _ d _ _ h=>by cases d<;>exact h) (by intro i hi;simp at hi;subst hi;exact⟨_,_,rfl,rfl,rfl,allocR⟩) ?_;repeat(refine J6 (v:=?_) q rfl rfl (fun w' U=>?_) (fun K f=>?_);rotate_left;(go_simp;rfl);go_simp;refine f _ _ ?_;clear f K)
    refine Ke rfl rfl (fun K f w1 g1=>?_);go_simp;refine(J0K w1 _ p rk 1 x.s (HP.o.grow ((G.o.trans t.o.g).trans (q.trans g1))) HX.o (by decide) Y.o).mono ?_;rintro _ w2 ⟨_,rfl,F,bo,rfl,c1,a7⟩;refine⟨fun _=>F,f _ _ ?_⟩;clear f K;have b5:=Z (a7.read (by omega));have F:=(q.trans g1).trans F;clear g1 c1 a7;repeat(refine J6 (v:=?_) F rfl rfl (fun w' U=>?_) (fun K f=>?_);rotate_left;(go_simp;rfl);go_simp;refine f _ _ ?_;clear f K)
    refine Ke rfl rfl (fun K f w5 g5=>?_);go_simp;refine(J0G w5 _ _ _ _ _ (lowAll p.vars l) (fun j=>1 * rowCoef x.s.terms j) (Mb _ _) ((OwnL.read t.o.ro).grow (F.trans g5)) (b5.o.grow g5) (Mc l Y.o HW.o).1 (Mc l Y.o HW.o).2 a6.o hn).mono ?_;rintro _ w6 ⟨r6,rfl,g6,h6⟩;refine⟨fun _=>g6,f _ _ ?_⟩;clear f K;have M:=F.trans (g5.trans g6);clear F g5 g6;rcases h6 with⟨T,rfl⟩|⟨T,u,rfl,hu⟩
    ·obtain⟨y,H⟩:=Z2 (Sj w6) (show ¬ Lb p.vars x.s l from fun h=>h.1 T);clear T;repeat(refine J6 (v:=?_) M rfl rfl (fun w' U=>?_) (fun K f=>?_);rotate_left;(go_simp;rfl);go_simp;refine f _ _ ?_;clear f K)
     unfold zeroRat RatM.v at y;dsimp only at y;refine Mf rfl rfl (fun K w8 c0 B S V f=>f _ _ ?_);clear f K;have O:=S.three;clear S;refine Ke rfl rfl (fun K f E C=>?_);have m:=O.grow C;have d0:=m.c0 E (Gr.refl _);have d1:=m.c1 E (Gr.refl _);have d2:=m.c2 E (Gr.refl _);have d3:=m.f0 0;have R:=m.f0 1;have d5:=m.f0 2;go_simp;refine⟨fun h=>Bool.noConfusion h,f _ _ ?_⟩;clear f K;have D:=(M.trans (B.trans C)).three V (.bool false) (.slice none 0 0) (.slice none 0 0);have L:=m.set (.bool false) (.slice none 0 0) (.slice none 0 0);have y:=Z ((y.o.grow (B.trans C)).keepR m (.bool false) (.slice none 0 0) (.slice none 0 0));clear d0 d1 d2 d3 R d5 m O;generalize ((E.setCell _ _).setCell _ _).setCell _ _=P at D L y ⊢;repeat(refine J6 (v:=?_) D rfl rfl (fun w' U=>?_) (fun K f=>?_);rotate_left;(go_simp;rfl);go_simp;refine f _ _ ?_;clear f K)
     refine Nq ?_;have a0:=Z L;clear V M B C q L;have J:=Z (G.o.trans (t.o.g.trans D));clear q0 q1 p0 p1 D;go_wp2_with fail;have q:Gr P P.drew:=(Gr.refl _).drew;have J:=Z (J.o.trans q);refine Jl [(0,true),(1,true),(2,true),(3,true),(4,true),(5,true),(6,true),(7,true),(8,true),(9,true),(10,true),(11,true),(12,true),(13,true),(14,true),(15,true),(16,false),(17,false),(18,true),(19,true),(20,true)] ?_;repeat(first|(refine Jw (h:=?_))|(refine Jc q (h:=?_)))
     refine Jg ?_;clear q;go_wp2_with fail;go_ret;exact⟨_,rfl,J.o,Jb.no H.o⟩
    ·obtain⟨s8,p8,k8,c8,e8,m8,n8,rfl⟩:=hu.agg;obtain⟨y,HE⟩:=Z2 hu T;clear T hu;repeat(refine J6 (v:=?_) M rfl rfl (fun w' U=>?_) (fun K f=>?_);rotate_left;(go_simp;rfl);go_simp;refine f _ _ ?_;clear f K)
     refine Mf rfl rfl (fun K w8 c0 B S V f=>f _ _ ?_);clear f K;have O:=S.three;clear S;refine Ke rfl rfl (fun K f E C=>?_);have m:=O.grow C;have d0:=m.c0 E (Gr.refl _);have d1:=m.c1 E (Gr.refl _);have d2:=m.c2 E (Gr.refl _);have d3:=m.f0 0;have R:=m.f0 1;have d5:=m.f0 2;go_simp;refine⟨fun h=>Bool.noConfusion h,f _ _ ?_⟩;clear f K;have D:=(M.trans (B.trans C)).three V (.bool s8) (.slice p8 k8 c8) (.slice e8 m8 n8);have L:=m.set (.bool s8) (.slice p8 k8 c8) (.slice e8 m8 n8);have y:=Z ((y.o.grow (B.trans C)).keepR m (.bool s8) (.slice p8 k8 c8) (.slice e8 m8 n8));clear d0 d1 d2 d3 R d5 m O;generalize ((E.setCell _ _).setCell _ _).setCell _ _=P at D L y ⊢;repeat(refine J6 (v:=?_) D rfl rfl (fun w' U=>?_) (fun K f=>?_);rotate_left;(go_simp;rfl);go_simp;refine f _ _ ?_;clear f K)
     refine Nq ?_;have a0:=Z L;clear V M B C q L;have J:=Z (t.o.g.trans D);clear q0 q1 p0 p1 D;go_wp2_with fail;have e7:0 < l.length:=List.length_pos_iff.2 c9.o;have e9:(0:Int) < (l.length:Int):=by omega
     have t0:=a0.o.c0;have t1:=a0.o.c1;have t2:=a0.o.c2;have p1:=(TP.o.grow J.o).c 1 rfl;have R:=fun w' g=>(HC.o w' ((G.o.trans J.o).trans g)).2.2.2.2;have N:=Mr (sg:=1) (by decide) a9.o.2.2.2.1;have a5:=N.2;obtain⟨z,a1⟩:∃ z,1 * x.s.bound=z:=⟨_,rfl⟩
     rw[a1] at N a5;obtain⟨HZ,b8⟩:=Z2 N.1 a1;have a8:IntKind.i64.wrap (1 * x.bound)=z:=by rw[show x.bound=x.s.bound from rfl,a1,a5]
     simp only[Int.neg_mul,Int.one_mul] at a8;have q:Gr P P.drew:=(Gr.refl _).drew;have I:=Z q;clear N a5 a1;refine Jl [(0,true),(1,true),(2,true),(3,true),(4,true),(5,true),(6,true),(7,true),(8,true),(9,true),(10,true),(11,true),(12,true),(13,true),(14,true),(15,true),(16,false),(17,false),(18,true),(19,true),(20,true)] ?_;repeat(refine Jc q (h:=?_))
     refine Je (k:=R3 _ z (Kd HZ.o).1 (Kd HZ.o).2) (h:=?_);rintro r8 w8 B h8;have I:=Z (I.o.trans B);obtain⟨cs,a3⟩:∃ c,cmpQ (leastS (lowAll p.vars l) fun j=>((1 * rowCoef x.s.terms j:Int):Rat)) (z:Rat)=c:=⟨_,rfl⟩
     have a2:=(Ps (Mc l Y.o HW.o).1.2.2.1 a6.o (by rw[Mb];exact hn)).1 _ (Nat.le_refl _);refine Je (k:=J0Y _ _ _ _ (z:Rat) cs 200 2 (RatC.v (y.o.grow I.o) a2) (h8.v (Km HZ.o)) a3 (by decide) (by decide) (by decide) (by decide)) (h:=?_);rintro _ w9 g9 rfl;have I:=Z (I.o.trans g9);have b2:=Z (show 0 < cs↔Lb p.vars x.s l from by
      rw[P7 a3];unfold Lb;rw[b6.o,b8.o];exact⟨fun h=>⟨HE.o,h⟩,fun h=>h.2⟩)
     have g3:=I.o;clear h8 a2 a3;repeat(refine Jc g3 (h:=?_))
     refine Jg ?_;clear q g3 B g9 t0 t1 t2 p1 R a8;go_wp2_with fail;go_ret;refine⟨_,rfl,(G.o.trans J.o).trans I.o,decide (0 < cs),rfl,?_⟩;rw[← b2.o];simp
end Prf
end Go.Proofs.YtcjgimlcefhhmaaGreatDoor
namespace Go.Proofs.YtcjgimlcefhhmaaGreatDoor
namespace Prf
open Go.RowKit Go.Lib
def moreZ (vs:List VarM)(u:Nat→Int):Nat→Int
 | 0=>0
 | k+1=>moreZ vs u k+match vs[k]? with|some v=>u k * v.lo|none=>0
theorem Uc {b:List VarM}{u:Nat→Int}{k:Nat}{v:VarM}(h:b[k]?=some v):moreZ b u (k+1)=moreZ b u k+u k * v.lo:=by
 show moreZ b u k+_=_;rw[h]
theorem Zj (b:List VarM)(u:Nat→Int):∀ k,sumQ (loT b (fun j=>(u j:Rat))) k=(moreZ b u k:Rat)
 | 0=>rfl
 | k+1=>by
  rw[Ls,Zj b u k];show _=((moreZ b u k+_:Int):Rat)
  unfold loT
  cases b[k]? with
  | none=>rw[Rat.intCast_add];rfl
  | some v=>rw[Rat.intCast_add,Rat.intCast_mul]
theorem Zk {b:List VarM}{u:Nat→Int}(c:∀ v ∈ b,Ky v):∀ k,(∀ j,j < k→In (u j))→(moreZ b u k).natAbs≤k * 1208925819614629174706176
 | 0,_=>by simp[moreZ]
 | k+1,h=>by
  have l:=Zk c k fun j i=>h j (by omega);have g:=Ll (h k (by omega));show(moreZ b u k+_:Int).natAbs≤_
  cases hx:b[k]? with
  | none=>simp only[];omega
  | some v=>
   have d:=Ll (c v (List.mem_of_getElem? hx)).1;have f:=Nat.mul_le_mul g d;rw[← Int.natAbs_mul] at f;simp only[];omega
theorem Zl {b:List VarM}{u:Nat→Int}{k:Nat}(d:∀ v ∈ b,Ky v)(h:∀ j,j < k→In (u j))(c:k≤10):(digs (moreZ b u k).natAbs).length≤3:=by
 refine Kj ?_;have f:=Zk d k h;have e:BB ^ 3=79228162514264337593543950336:=by decide
 rw[e];have:=Nat.mul_le_mul_right 1208925819614629174706176 c;omega
theorem Xf (p:Prg)(y:List Rat):cutBound p y=ceilQ (combB p y - sumQ (loT p.vars (combA p y)) p.vars.length)+moreZ p.vars (fun j=>ceilQ (combA p y j)) p.vars.length:=by
 unfold cutBound;rw[Zj,Rat.floor_intCast]
def J1Q (w:World)(b:Nat)(z:Int):Prop:=∃ n p k c,Two w b (.bool n) (.slice p k c)∧IntC w (.agg #[.bool n,.slice p k c]) z
theorem intZ (w:World):IntC w (.agg #[.bool false,.slice none 0 0]) 0:=by
 have e:digs (0:Int).natAbs=[]:=by decide +kernel
 unfold IntC;rw[e];exact⟨none,0,0,rfl,NatL.nil w⟩
def rowZ:Array Value:=#[.string ⟨#[]⟩,.int .i64 0,.int .i64 0,.slice none 0 0,.int .i64 0]
def rowT (tv:Value):Array Value:=#[.string ⟨cutName.toArray⟩,.int .i64 0,.int .i64 1,tv,.int .i64 0]
structure Lf (w W:World)(bp b4 bo b7 b9 b10:Nat)(u0 u1:Value)(n:Nat)(A:Nat→Rat)(s:Rat)(tv:Value)(ts:List Ji)(mz:Int):Prop where
 g:Gr w W
 tp:Ja W bp #[u0,u1]
 t4:Ja W b4 rowZ
 ro:Jq W bo n A 80
 t7:J9 W b7 s
 t9:Ja W b9 (rowT tv)
 tw:Ju W w.heap.size tv ts
 t10:J1Q W b10 mz
 ne:∀ b,tv.ownBlock=some b→b≠bp∧b≠b4∧b≠bo∧b≠b7∧b≠b9∧b≠b10
structure P1 (w:World)(bp b4 bo b7 b9 b10:Nat):Prop where
 n4:w.heap.size≤b4
 n7:w.heap.size≤b7
 n9:w.heap.size≤b9
 n10:w.heap.size≤b10
 p:bp≠b7∧bp≠b9∧bp≠b10∧bp≠b4
 x4:b4≠bo∧b4≠b7∧b4≠b9∧b4≠b10
 xo:bo≠b7∧bo≠b9∧bo≠b10
 x7:b7≠b9∧b7≠b10
 x9:b9≠b10
section
variable {w W:World}{bp b4 bo b7 b9 b10:Nat}{u0 u1:Value}{n:Nat}{A:Nat→Rat}{s:Rat}{tv:Value}{ts:List Ji}{mz:Int}
theorem Lf.grow {i:World}(h:Lf w W bp b4 bo b7 b9 b10 u0 u1 n A s tv ts mz)(g:Gr W i):Lf w i bp b4 bo b7 b9 b10 u0 u1 n A s tv ts mz:=by
 obtain⟨a,b,c,d,e,f⟩:=h.t10;exact⟨h.g.trans g,h.tp.grow g,h.t4.grow g,h.ro.grow g,h.t7.grow g,h.t9.grow g,h.tw.grow g,⟨a,b,c,d,e.grow g,f.grow g⟩,h.ne⟩
theorem L4 {w:World}{base b:Nat}{v:Value}{l:List Ji}(h:Ju w base v l)(c:∀ g,v.ownBlock=some g→g≠b):v.ownBlock≠some b:=fun e=>c b e rfl
theorem Lf.putB {s':Rat}{t:RatM}(h:Lf w W bp b4 bo b7 b9 b10 u0 u1 n A s tv ts mz)(j:P1 w bp b4 bo b7 b9 b10)(m:RatC W t.v s'):
  Lf w (set3 W b7 (.bool t.n) (.slice t.p t.k t.c) (.slice t.q t.m t.e)) bp b4 bo b7 b9 b10 u0 u1 n A s' tv ts mz:=by
 have i:=upd3 W b7 (.bool t.n) (.slice t.p t.k t.c) (.slice t.q t.m t.e);have k:=Dk.upd (J01 h.t7.noInt) i;obtain⟨a,b,c,d,e,f⟩:=h.t10;exact⟨Ks h.g j.n7 _ _ _,h.tp.upd i j.p.1,h.t4.upd i j.x4.2.1,h.ro.upd h.t7.noInt i j.xo.1,h.t7.put m,h.t9.upd i j.x7.1.symm,
  h.tw.same i (by simp[set3,World.setCell]) (L4 h.tw fun g l=>(h.ne g l).2.2.2.1) rfl rfl rfl,⟨a,b,c,d,e.upd i j.x7.2.symm,Rh f k⟩,h.ne⟩
theorem Lf.putM {q:Int}{m:Bool}{p:Option Addr}{l k:Nat}(h:Lf w W bp b4 bo b7 b9 b10 u0 u1 n A s tv ts mz)(i:P1 w bp b4 bo b7 b9 b10)(u:IntC W (.agg #[.bool m,.slice p l k]) q):
  Lf w (set2 W b10 (.bool m) (.slice p l k)) bp b4 bo b7 b9 b10 u0 u1 n A s tv ts q:=by
 obtain⟨a,b,c,d,e,f⟩:=h.t10;have j:=upd2 W b10 (.bool m) (.slice p l k);have r:=Dk.upd (J01 e.noInt) j;exact⟨Gr.set (Gr.set h.g (by have:=i.n10;omega) _) (by have:=i.n10;omega) _,h.tp.upd j i.p.2.2.1,h.t4.upd j i.x4.2.2.2,h.ro.upd e.noInt j i.xo.2.2,h.t7.upd e.noInt j i.x7.2,h.t9.upd j i.x9,
  h.tw.same j (by simp[set2,World.setCell]) (L4 h.tw fun g t=>(h.ne g t).2.2.2.2.2) rfl rfl rfl,⟨m,p,l,k,e.set _ _,Rh u r⟩,h.ne⟩
theorem J0U (tv:Value)(h:∀ z,tv≠Value.int .u32 z):∀ v ∈ rowT tv,∀ z,v≠Value.int .u32 z:=fun v b z=>by
 simp[rowT] at b;rcases b with rfl|rfl|rfl|rfl|rfl
 ·intro e;cases e
 ·intro e;cases e
 ·intro e;cases e
 ·exact h z
 ·intro e;cases e
theorem Li {w:World}{base:Nat}{v:Value}{l:List Ji}(h:Ju w base v l):∃ p c,v = .slice p l.length c:=by
 obtain⟨p,c,e,_⟩:=h.1.read.parts;exact⟨p,c,e⟩
theorem Lf.putT {j:World}{k:Value}{t:Ji}(h:Lf w W bp b4 bo b7 b9 b10 u0 u1 n A s tv ts mz)(m:P1 w bp b4 bo b7 b9 b10)(u:Ju j w.heap.size k (ts ++ [t]))(i:W.grownBy j tv.ownBlock)(v:Dk W j)
  (p:k.ownBlock=tv.ownBlock∨k.ownBlock=some W.heap.size):
  (j.cell? ⟨b9,3,none⟩=some tv∧j.frozen? ⟨b9,3,none⟩=false)∧Lf w (j.setCell ⟨b9,3,none⟩ k) bp b4 bo b7 b9 b10 u0 u1 n A s k (ts ++ [t]) mz:=by
 have r:∀ b F,Ja W b F→(∀ g,tv.ownBlock=some g→g≠b)→j.heap[b]?=W.heap[b]?:=fun b F H q=>i.block b H.lt (fun e=>q b e.symm rfl);obtain⟨a,b,c,d,e,f⟩:=h.t10;obtain⟨T,D,_⟩:=h.ro;obtain⟨M,E,I⟩:=h.t7;have L:=r b9 _ h.t9 fun g i=>(h.ne g i).2.2.2.2.1;have c9:=K3 h.t9 L;have G:Gr w j:=OwnL.gr h.tw.1 h.g i;have l:=J5 j b9 3 k;obtain⟨pt,N,K⟩:=Li h.tw;obtain⟨a0,O,R⟩:=Li u;have J:NoU j b9:=NoU.of c9 (J0U tv fun z e=>by rw[K] at e;cases e);have x:=Dk.upd J l;have P:=i.size;have q:∀ g,k.ownBlock=some g→g≠bp∧g≠b4∧g≠bo∧g≠b7∧g≠b9∧g≠b10:=fun g y=>by
  rcases p with p|p
  ·exact h.ne g (p ▸ y)
  ·rw[p] at y;obtain rfl:=Option.some.inj y;have S:=h.tp.lt;have U:=h.t4.lt;have V:=D.lt;have X:=E.lt;have Y:=h.t9.lt;have l6:=e.lt;exact⟨by omega,by omega,by omega,by omega,by omega,by omega⟩
 refine⟨⟨c9.at 3 rfl,c9.f 3⟩,⟨Gr.set G (by have:=m.n9;omega) _,?_,?_,?_,?_,?_,?_,?_,q⟩⟩
 ·exact(K3 h.tp (r bp _ h.tp fun g i=>(h.ne g i).1)).upd l m.p.2.1
 ·exact(K3 h.t4 (r b4 _ h.t4 fun g i=>(h.ne g i).2.1)).upd l m.x4.2.2.1
 ·exact Ru (Ru h.ro v (r bo _ D fun g i=>(h.ne g i).2.2.1)) x (l bo m.xo.2.1)
 ·exact⟨M,by
   obtain⟨ty,C⟩:=E;exact⟨ty,by rw[l b7 m.x7.1,i.block b7 (by have:=(Array.getElem?_eq_some_iff.1 C).1;exact this) (fun e=>(h.ne b7 e.symm).2.2.2.1 rfl)];exact C⟩,Pn (Pn I v) x⟩
 ·have:=c9.set 3 k;simpa[rowT] using this
 ·exact u.same l (by simp[World.setCell]) (L4 u fun g i=>(q g i).2.2.2.2.1) rfl rfl rfl
 ·exact⟨a,b,c,d,by
   obtain⟨ty,B⟩:=e;exact⟨ty,by rw[l b10 m.x9.symm,i.block b10 (Array.getElem?_eq_some_iff.1 B).1 (fun e=>(h.ne b10 e.symm).2.2.2.2.2 rfl)];exact B⟩,Rh (Rh f v) x⟩
end
end Prf
end Go.Proofs.YtcjgimlcefhhmaaGreatDoor
namespace Go.Proofs.YtcjgimlcefhhmaaGreatDoor
namespace Prf
open Go.RowKit Go.Lib
def Qx (p:Prg)(y:List Rat)(base:Nat)(r:Value)(w:World):Prop:=
 (Mz p y∧∃ x:RowM,r = .tuple #[rowV x,.int .i64 0]∧x.s=roundRow p y∧Ju w base (.slice x.tp x.terms.length x.tc) x.terms)∨(¬ Mz p y∧∃ e:Int,e≠0∧r = .tuple #[.agg rowZ,.int .i64 e])
section
variable {ops:Array Oper}{rest:List Oper}{o:Oper}{a:Act}{Q:Exit→Act→World→Prop}{w:World}
theorem Vo (k:o.guard=none)(s x:Operand)(q:o.op = .call { callee:=.builtin .append,args:=#[s,x],argTypes:=#[40,40] })(base:Nat)(v vx:Value)(l:List Ji)(t:Ji)
  (y:a.eval s=v) (r:Ju w base v l) (z:a.eval x=vx) (p:Lg w vx [t]) (m:l.length≤1000000) (j:base≤w.heap.size)
  (h:∀ b w',Ju w' base b (l ++ [t])→w.grownBy w' v.ownBlock→Dk w w'→(b.ownBlock=v.ownBlock∨b.ownBlock=some w.heap.size)→wpList Tryz.prog ops Q rest (a.put o.dst b) w'):wpList Tryz.prog ops Q (o :: rest) a w:=by
 obtain⟨b,w',u,c,d,f,g⟩:=V2 w base v vx l t o.type r p m j;refine wpList_plain k (fun K i=>?_);unfold Oper.wp execOp;simp only[q,resolve,invoke,builtin,Sem.run_bind,Sem.run_pure,Result.andThen_ok,List.map_toArray,List.map_cons,List.map_nil,y,z,u];exact i _ _ (h b w' c d f g)
end
theorem P5 {x:Rat}{L:Nat}(h:Sz L x):(digs (ceilQ x).natAbs).length≤L+1:=by
 have:=Tm (No h);unfold ceilQ
 rwa [Int.natAbs_neg]
theorem Xh (a:Nat→Rat):∀ k,(cutTerms a k).length≤k
 | 0=>Nat.le_refl _
 | k+1=>by
  rw[Oj,List.length_append];have:=Xh a k
  split<;>simp<;>omega
theorem J5Y {w W:World}{bp b4 bo b7 b9 b10:Nat}{u0 u1:Value}{n:Nat}{A:Nat→Rat}{s:Rat}{c:Option Addr}{b:Nat}{ts:List Ji}{mz:Int}
  (h:Lf w W bp b4 bo b7 b9 b10 u0 u1 n A s (.slice c ts.length b) ts mz) (f:P1 w bp b4 bo b7 b9 b10) (z:Int):
  Gr w (W.setCell ⟨b9,4,none⟩ (.int .i64 z))∧Ja (W.setCell ⟨b9,4,none⟩ (.int .i64 z)) b9 #[.string ⟨cutName.toArray⟩,.int .i64 0,.int .i64 1,.slice c ts.length b,.int .i64 z]∧Ja (W.setCell ⟨b9,4,none⟩ (.int .i64 z)) b4 rowZ∧
  Ju (W.setCell ⟨b9,4,none⟩ (.int .i64 z)) w.heap.size (.slice c ts.length b) ts∧∀ g,(Value.slice c ts.length b).ownBlock=some g→g≠b4:=by
 have i:=J5 W b9 4 (.int .i64 z);refine⟨Gr.set h.g (by have:=f.n9;omega) _,?_,h.t4.upd i f.x4.2.2.1,h.tw.same i (by simp[World.setCell]) (L4 h.tw fun g d=>(h.ne g d).2.2.2.2.1) rfl rfl rfl,fun g d=>(h.ne g d).2.1⟩;have:=h.t9.set 4 (.int .i64 z);simpa[rowT] using this
theorem J5L (w:World)(v:Value)(p:Prg)(q:Option Addr)(c:Nat)(y:List Rat)(hp:Js w v p)(hy:L1 w (.slice q y.length c) y 4)(hc:Calm p y)(hk:Jo p)(hw:Whole p)(hn:p.vars.length≤10):
  Calls Tryz.prog 210 #[v,.slice q y.length c] w (Ret w (Qx p y w.heap.size)):=by
 obtain⟨HY,HC,HK,HW,HP⟩:=Z5 hy hc hk hw hp;have hm:=hk.2.1;clear hy hc hk hw;obtain⟨va,vc,vb,vd,rfl,hv,hr⟩:=hp;have HV:=Z hv;have B0:=Ja.new w #[.slice va p.vars.length vc,.slice vb p.rows.length vd] 25;have B1:=Ja.new (w.alloc (.cells #[.slice va p.vars.length vc,.slice vb p.rows.length vd] 25)) rowZ 42;simp only[World.size_alloc] at B1;unfold rowZ at B1;have HB:=Z (show _∧Ja _ _ #[.slice va p.vars.length vc,.slice vb p.rows.length vd]∧Ja _ _ #[.string ⟨#[]⟩,.int .i64 0,.int .i64 0,.slice none 0 0,.int .i64 0] from⟨B0.1.trans B1.1,B0.2.grow B1.1,B1.2⟩);clear hv hr B0 B1;unfold prgV at HP ⊢;go_enter Tryz.func210,Tryz.ntmps210;go_wp2_with fail;generalize l0:w.heap.size+1=b4 at HB ⊢;generalize l7:w.heap.size=bp at HB ⊢;generalize (w.alloc _).alloc _=W at HB ⊢;obtain⟨G,TP,B,b0,k3⟩:=Z5 HB.o.1 HB.o.2.1 HB.o.2.2 (show w.heap.size≤b4 from by omega) (show bp≠b4 from by omega);clear HB l0 l7;refine(J0H W _ p q c y 4 (HP.o.grow G.o) (HY.o.grow G.o) (by decide) (by omega)).mono ?_;rintro _ w1 ⟨r1,rfl,g1,F⟩;obtain⟨G,TP,B⟩:=Z3 (G.o.trans g1) (TP.o.grow g1) (B.o.grow g1);rcases F.cases with⟨rfl,k1⟩|⟨rfl,k1⟩;rotate_left
 ·have H:=Z (show ¬ Mz p y from fun h=>k1 h.1);clear F k1 g1;have c0:=B.o.at 0 rfl;have c1:=B.o.at 1 rfl;have c2:=B.o.at 2 rfl;have c3:=B.o.at 3 rfl;have c4:=B.o.at 4 rfl;have N:=Ja.f (B.o) 0;have O:=Ja.f (B.o) 1;have P:=Ja.f (B.o) 2;have R:=Ja.f (B.o) 3;have X:=Ja.f (B.o) 4;have m:=Z (fill5 (.string ⟨#[]⟩) (.int .i64 0) (.int .i64 0) (.slice none 0 0) (.int .i64 0) (B.o) (G.o) b0.o);go_wp2_with fail;try rw[Exit.noGoto_ret]
  generalize ((((w1.setCell _ _).setCell _ _).setCell _ _).setCell _ _).setCell _ _=W5 at m ⊢;clear c0 c1 c2 c3 c4 N O P R X;have z0:=m.o.2.1.at 0 rfl;have z1:=m.o.2.1.at 1 rfl;have z2:=m.o.2.1.at 2 rfl;have z3:=m.o.2.1.at 3 rfl;have z4:=m.o.2.1.at 4 rfl;refine bodyPost_ret (by simp[results,Tryz.results210,go_sem,z0,z1,z2,z3,z4];rfl) rfl ?_;exact⟨_,rfl,m.o.1,.inr ⟨H.o,13,by decide,rfl⟩⟩
 have H1:=Z k1;clear F k1 g1;have y0:=TP.o.at 0 rfl;have y1:=TP.o.at 1 rfl;go_wp2_with fail;clear y0 y1;refine(J0D w1 _ p q c y (HP.o.grow G.o) (HY.o.grow G.o) HC.o HK.o).mono ?_;rintro _ U ⟨r3,rfl,g3,bo,u,rfl,l6,ho,hu⟩;have HN:=Z (show w.heap.size≤bo∧bp≠bo∧b4≠bo from by
  have F:=G.o.size;have h2:=TP.o.lt;have h3:=B.o.lt;exact⟨by omega,by omega,by omega⟩)
 obtain⟨u0,rfl,hu⟩:=N5 hu;have B7:=box3 U (.bool u0.n) (.slice u0.p u0.k u0.c) (.slice u0.q u0.m u0.e) 68;have D:=Z (show Gr w (U.alloc (.cells #[.bool u0.n,.slice u0.p u0.k u0.c,.slice u0.q u0.m u0.e] 68))∧Ja _ bp _∧Ja _ b4 _∧Jq _ bo p.vars.length (combA p y) 80∧J9 (U.alloc (.cells #[.bool u0.n,.slice u0.p u0.k u0.c,.slice u0.q u0.m u0.e] 68)) U.heap.size (combB p y) from
  ⟨(G.o.trans g3).trans B7.1,(TP.o.grow g3).grow B7.1,(B.o.grow g3).grow B7.1,ho.grow B7.1,u0,B7.2,hu.grow B7.1⟩)
 have f6:=Z (show U.heap.size≠bo∧bp≠U.heap.size∧b4≠U.heap.size∧w.heap.size≤U.heap.size from by
  have F:=ho.lt;have h2:=(TP.o.grow g3).lt;have h3:=(B.o.grow g3).lt;have h4:=(G.o.trans g3).size;exact⟨by omega,by omega,by omega,h4⟩)
 clear hu ho l6 g3 B7 TP B G;unfold RatM.v;go_wp2_with fail;generalize U.heap.size=b7 at D f6 ⊢;generalize U.alloc _=W3 at D ⊢;go_loopw [8] (fun i w9=>∃ k:Nat,i = .int .i64 (k:Int)∧k≤p.vars.length∧w9=W3) (fun i _=>p.vars.length - (RowKit.intOf i).toNat)
 case atStart=>exact⟨0,rfl,Nat.zero_le _,rfl⟩
 case round=>
  obtain⟨k,rfl,hk,rfl⟩:=hrel;by_cases a8:k < p.vars.length
  ·have l9:(k:Int) < (p.vars.length:Int):=by omega
   have l8:IntKind.i64.wrap ((k:Int)+1)=(k:Int)+1:=by rw[IntKind.wrap_i64];omega
   obtain⟨b,o,x,rfl,hx,a7⟩:=K5 HV.o rfl a8;obtain⟨-,-,-,c3,-⟩:=a7 _ D.o.1;rw[(HW.o x (List.mem_of_getElem? hx)).1] at c3;have y0:=D.o.2.1.at 0 rfl;clear hx a7;go_wp2_with fail;exact⟨⟨k+1,by go_num,by omega,by first|rfl|trivial⟩,by simp[RowKit.intOf];omega⟩
  ·obtain rfl:k=p.vars.length:=by omega
   have B9:=Ja.new wr (rowT (.slice none 0 0)) 42;have V:=box2 (wr.alloc (.cells (rowT (.slice none 0 0)) 42)) (.bool false) (.slice none 0 0) 66;simp only[World.size_alloc] at V;have a4:=Z (show Lf w _ bp b4 bo b7 wr.heap.size (wr.heap.size+1) (.slice va p.vars.length vc) (.slice vb p.rows.length vd) p.vars.length (combA p y) (combB p y - sumQ (loT p.vars (combA p y)) 0) (.slice none 0 0) (cutTerms (combA p y) 0) (moreZ p.vars (fun j=>ceilQ (combA p y j)) 0) from
    ⟨D.o.1.trans (B9.1.trans V.1),D.o.2.1.grow (B9.1.trans V.1),D.o.2.2.1.grow (B9.1.trans V.1),D.o.2.2.2.1.grow (B9.1.trans V.1),by
     rw[show combB p y - sumQ (loT p.vars (combA p y)) 0=combB p y from by show combB p y - 0=_;grind];exact D.o.2.2.2.2.grow (B9.1.trans V.1),B9.2.grow V.1,Ju.nil _ _,⟨false,none,0,0,V.2,intZ _⟩,fun b h=>by cases h⟩)
   have a0:=Z (show P1 w bp b4 bo b7 wr.heap.size (wr.heap.size+1) from by
    have l1:=D.o.2.1.lt;have l2:=D.o.2.2.1.lt;have l3:=D.o.2.2.2.1.lt;have l4:=D.o.2.2.2.2.lt;have l5:=D.o.1.size;have n1:=HN.o;have n2:=f6.o;have n3:=k3.o;exact⟨b0.o,n2.2.2.2,l5,by omega,⟨n2.2.1,by omega,by omega,n3⟩,⟨n1.2.2,n2.2.2.1,by omega,by omega⟩,⟨n2.1.symm,by omega,by omega⟩,⟨by omega,by omega⟩,by omega⟩)
   unfold rowT cutName at a4;clear B9 V D f6;go_wp2_with fail;generalize wr.heap.size+1=b10 at a4 a0 ⊢;generalize wr.heap.size=b9 at a4 a0 ⊢;generalize (wr.alloc _).alloc _=W4 at a4 ⊢;go_loopw [11] (fun i w9=>∃ (k:Nat) (tv:Value),i = .int .i64 (k:Int)∧k≤p.vars.length∧(∀ j,j < k→In (ceilQ (combA p y j)))∧Lf w w9 bp b4 bo b7 b9 b10 (.slice va p.vars.length vc) (.slice vb p.rows.length vd) p.vars.length (combA p y) (combB p y - sumQ (loT p.vars (combA p y)) k) tv (cutTerms (combA p y) k) (moreZ p.vars (fun j=>ceilQ (combA p y j)) k)) (fun i _=>p.vars.length - (RowKit.intOf i).toNat)
   case atStart=>exact⟨0,_,rfl,Nat.zero_le _,fun j hj=>by omega,a4.o⟩
   case round=>
    clear a4;obtain⟨k,tv,rfl,hk,hq,j6⟩:=hrel;obtain⟨HQ,d⟩:=Z2 hq j6;clear hq j6;by_cases a8:k < p.vars.length
    ·have l9:(k:Int) < (p.vars.length:Int):=by omega
     have l8:IntKind.i64.wrap ((k:Int)+1)=(k:Int)+1:=by rw[IntKind.wrap_i64];omega
     obtain⟨b,o,x,rfl,hx,a7⟩:=K5 HV.o rfl a8;obtain⟨HX,k0,d8⟩:=Z3 hx a7 (HK.o.2.2.1 x (List.mem_of_getElem? hx));obtain⟨c0,-,-,-,-⟩:=a7 _ d.o.g;have y0:=d.o.tp.at 0 rfl;clear hx a7;go_wp2_with fail;clear c0 y0;refine(Ut _ x.lo (Kd d8.o.1).1 (Kd d8.o.1).2).mono ?_;rintro _ w5 ⟨r5,rfl,g5,h5⟩;obtain⟨p5,k5,c5,rfl⟩:=h5.agg;obtain⟨s5,j5⟩:∃ s,decide (x.lo < 0)=s:=⟨_,rfl⟩
     rw[j5] at h5 ⊢;have i3:=Z (show w5.heap.size≠b7 from by have:=(d.o.grow g5).t7.lt;omega);have d7:=box2 w5 (.bool s5) (.slice p5 k5 c5) 66;obtain⟨d,E,J⟩:=Z3 ((d.o.grow g5).grow d7.1) d7.2 (h5.grow d7.1);clear g5 h5 j5 d7;go_wp2_with fail;generalize w5.heap.size=k7 at E i3 ⊢;generalize w5.alloc _=W6 at E d J ⊢;have t0:=E.o.c0;have t1:=E.o.c1;obtain⟨ts,r,d4⟩:=d.o.t7;have f7:=Z d4;have d0:=r.c0;have d1:=r.c1;have d2:=r.c2;obtain⟨ta,d6,a1⟩:=d.o.ro.at a8;have e0:=fun w' g=>(a1 w' g).1;have e1:=fun w' g=>(a1 w' g).2.1;have e2:=fun w' g=>(a1 w' g).2.2;have f9:=Z d6;have S:Gr W6 W6.drew:=(Gr.refl _).drew;have l:=Z S;clear r d4 d6 a1;refine Jl [(0,true),(1,true),(2,true),(3,true),(4,true),(5,true),(6,true),(7,false),(8,false),(9,false)] ?_;repeat(refine Jc S (h:=?_))
     refine Je (k:=J0Z _ _ _ (combA p y k) (x.lo:Rat) (loT p.vars (combA p y) k) 80 2 (f9.o.grow l.o) ((RatC.ofInt (J.o.grow l.o)).v (Km d8.o.1)) (by unfold loT;rw[HX.o]) (by decide) (by decide)) (h:=?_);rintro r7 w7 g7 r;have l:=Z (l.o.trans g7);refine Je (k:=J10 _ _ _ (combB p y - sumQ (loT p.vars (combA p y)) k) (loT p.vars (combA p y) k) (combB p y - sumQ (loT p.vars (combA p y)) (k+1)) 80 80 (RatC.v (f7.o.grow l.o) (HC.o.r k (by omega))) (r.v (HC.o.r0 k)) (by rw[Ls];grind) (by decide) (by decide) (by decide)) (h:=?_);rintro r8 w8 g8 h8;have l:=Z (l.o.trans g8);clear r;obtain⟨d,E,J⟩:=Z3 (d.o.grow l.o) (E.o.grow l.o) (J.o.grow l.o);obtain⟨s8,p8,k8,c8,e8,m8,n8,rfl⟩:=h8.agg;obtain⟨tb,r,-⟩:=d.o.t7;have N:=r.load.1;have O:=r.load.2.1;have P:=r.load.2.2;have R:=r.f0 0;have X:=r.f0 1;have f5:=r.f0 2;have I:=Z (d.o.putB a0.o (t:=⟨s8,p8,k8,c8,e8,m8,n8⟩) h8);have L:=Z (show Two (set3 w8 b7 (.bool s8) (.slice p8 k8 c8) (.slice e8 m8 n8)) k7 (.bool s5) (.slice p5 k5 c5)∧IntC (set3 w8 b7 (.bool s8) (.slice p8 k8 c8) (.slice e8 m8 n8)) (.agg #[.bool s5,.slice p5 k5 c5]) x.lo from
      ⟨E.o.upd (upd3 _ _ _ _ _) i3.o,J.o.upd r.noInt (upd3 _ _ _ _ _)⟩)
     clear h8 r d0 d1 d2 e0 e1 e2 t0 t1 d E J;refine Jj rfl rfl (fun K hK=>?_);go_simp;refine⟨fun h=>Bool.noConfusion h,hK _ _ ?_⟩;clear hK K;unfold set3 at I L;dsimp only at I;generalize ((w8.setCell _ _).setCell _ _).setCell _ _=W9 at I L ⊢;refine Jg ?_;clear N O P R X f5 S g7 g8;obtain⟨d,E,J⟩:=Z3 I.o L.o.1 L.o.2;obtain⟨-,-,-,c3,-⟩:=k0.o _ d.o.g;rw[(HW.o x (List.mem_of_getElem? HX.o)).1] at c3;have y0:=d.o.tp.at 0 rfl;obtain⟨n9,d6,a1⟩:=d.o.ro.at a8;obtain⟨e0,e1,e2⟩:=a1 W9 (Gr.refl _);have f9:=Z d6;clear d6 a1 I L;go_wp2_with fail;clear c3 y0 e0 e1 e2;refine(J0X _ _ (combA p y k) (ceilQ (combA p y k)) 80 f9.o rfl (by decide) (by decide)).mono ?_;rintro _ d9 ⟨n7,rfl,b5,c7⟩;have f8:=Z (show(digs (ceilQ (combA p y k)).natAbs).length≤81 from P5 (HC.o.a p.rows.length k (Nat.le_refl _)));obtain⟨C,g9⟩:∃ z,ceilQ (combA p y k)=z:=⟨_,rfl⟩
     have b3:=Z g9;rw[g9] at c7 f8;obtain⟨h9,h6,g2,rfl⟩:=c7.agg;obtain⟨i0,j3⟩:∃ s,decide (C < 0)=s:=⟨_,rfl⟩
     rw[j3] at c7 ⊢;have a3:=box2 d9 (.bool i0) (.slice h9 h6 g2) 66;have i4:=Z (show d9.heap.size≠b10 from by
      obtain⟨_,_,_,_,h,_⟩:=(d.o.grow b5).t10;have:=h.lt;omega)
     obtain⟨d,E,J,M,Y⟩:=Z5 ((d.o.grow b5).grow a3.1) ((E.o.grow b5).grow a3.1) ((J.o.grow b5).grow a3.1) a3.2 (c7.grow a3.1);clear b5 c7 j3 g9 a3;go_wp2_with fail;generalize d9.heap.size=k9 at M i4 ⊢;generalize d9.alloc _=i5 at E d J M Y ⊢;have t0:=E.o.c0;have t1:=E.o.c1;have t2:=M.o.c0;have t3:=M.o.c1;obtain⟨sm,pm,km,cm,a2,d3⟩:=d.o.t10;have t4:=a2.c0;have t5:=a2.c1;obtain⟨e7,e9⟩:=Z2 d3 (Zl (u:=fun j=>ceilQ (combA p y j)) HK.o.2.2.1 HQ.o (show k≤10 by omega));have S:Gr i5 i5.drew:=(Gr.refl _).drew;have l:=Z S;clear a2 d3;refine Jl [(0,true),(1,true),(2,true),(3,false),(4,false),(5,false)] ?_;repeat(refine Jc S (h:=?_))
     refine Je (k:=Q8 _ _ _ C x.lo (C * x.lo) 81 2 ((Y.o.grow l.o).v f8.o) ((J.o.grow l.o).v (Km d8.o.1).1) rfl (by decide) (by decide)) (h:=?_);rintro m1 m4 b6 c9;have l:=Z (l.o.trans b6);refine Je (k:=Q7 _ _ _ (moreZ p.vars (fun j=>ceilQ (combA p y j)) k) (C * x.lo) (moreZ p.vars (fun j=>ceilQ (combA p y j)) (k+1)) 3 84 ((e7.o.grow l.o).v e9.o) c9.2 (by rw[Uc HX.o,b3.o]) (by decide) (by decide)) (h:=?_);rintro m2 e3 b8 a6;obtain⟨l,e4⟩:=Z2 (l.o.trans b8) a6.1;obtain⟨j8,j7,i6,rfl⟩:=e4.o.agg;obtain⟨j9,j4⟩:∃ s,decide (moreZ p.vars (fun j=>ceilQ (combA p y j)) (k+1) < 0)=s:=⟨_,rfl⟩
     rw[j4] at e4 ⊢;clear c9 a6 j4;obtain⟨d,M,Y⟩:=Z3 (d.o.grow l.o) (M.o.grow l.o) (Y.o.grow l.o);obtain⟨sn,pn,kn,cn,a9,-⟩:=d.o.t10;have N:=a9.load.1;have O:=a9.load.2;have P:=a9.f0 0;have R:=a9.f0 1;have I:=Z (d.o.putM a0.o e4.o);have L:=Z (show Two (set2 e3 b10 (.bool j9) (.slice j8 j7 i6)) k9 (.bool i0) (.slice h9 h6 g2)∧IntC (set2 e3 b10 (.bool j9) (.slice j8 j7 i6)) (.agg #[.bool i0,.slice h9 h6 g2]) C from
      ⟨M.o.upd (upd2 _ _ _ _) i4.o,Y.o.upd a9.noInt (upd2 _ _ _ _)⟩)
     clear a9 t0 t1 t2 t3 t4 t5 d M Y E J;refine Jj rfl rfl (fun K hK=>?_);go_simp;refine⟨fun h=>Bool.noConfusion h,hK _ _ ?_⟩;clear hK K;unfold set2 at I L;generalize (e3.setCell _ _).setCell _ _=m5 at I L ⊢;refine Jg ?_;clear N O P R S b6 b8;obtain⟨d,M,Y⟩:=Z3 I.o L.o.1 L.o.2;have t0:=M.o.load.1;have t1:=M.o.load.2;clear I L;go_wp2_with fail;clear t0 t1;refine(J0L _ _ C Y.o (by have:=f8.o;omega)).mono ?_;rintro _ T ⟨m3,rfl,c6,tt,rfl,d5⟩;obtain⟨d,b2⟩:=Z2 (d.o.grow c6) d5;clear d5 c6
     cases tt
     ·have H:=Z (show ¬ Mz p y from fun h=>by
       have F:=h.2.1 k a8;rw[b3.o] at F;exact absurd (b2.o.2 F) (by decide))
      have f:=Z (show Ja T b4 #[.string ⟨#[]⟩,.int .i64 0,.int .i64 0,.slice none 0 0,.int .i64 0] from d.o.t4);generalize (if fits C=true then C else (0:Int))=nz;have c0:=f.o.at 0 rfl;have c1:=f.o.at 1 rfl;have c2:=f.o.at 2 rfl;have c3:=f.o.at 3 rfl;have c4:=f.o.at 4 rfl;have N:=Ja.f (f.o) 0;have O:=Ja.f (f.o) 1;have P:=Ja.f (f.o) 2;have R:=Ja.f (f.o) 3;have X:=Ja.f (f.o) 4;have m:=Z (fill5 (.string ⟨#[]⟩) (.int .i64 0) (.int .i64 0) (.slice none 0 0) (.int .i64 0) (f.o) (d.o.g) b0.o);go_wp2_with fail;try rw[Exit.noGoto_ret]
      generalize ((((T.setCell _ _).setCell _ _).setCell _ _).setCell _ _).setCell _ _=W5 at m ⊢;clear c0 c1 c2 c3 c4 N O P R X;have z0:=m.o.2.1.at 0 rfl;have z1:=m.o.2.1.at 1 rfl;have z2:=m.o.2.1.at 2 rfl;have z3:=m.o.2.1.at 3 rfl;have z4:=m.o.2.1.at 4 rfl;refine bodyPost_ret (by simp[results,Tryz.results210,go_sem,z0,z1,z2,z3,z4];rfl) rfl ?_;exact⟨_,rfl,m.o.1,.inr ⟨H.o,8,by decide,rfl⟩⟩
     ·have i2:=Z (b2.o.1 rfl);have i7:fits C=true:=by
       unfold fits;refine decide_eq_true ?_;have:=i2.o;unfold In at this;omega
      rw[i7];clear i7;have j0:=Z (show ∀ j,j < k+1→In (ceilQ (combA p y j)) from fun j hj=>by
       by_cases e:j=k
       ·subst e;rw[b3.o];exact i2.o
       ·exact HQ.o j (by omega))
      by_cases h0:C=0
      ·have e6:=Z (show cutTerms (combA p y) (k+1)=cutTerms (combA p y) k from by rw[Oj,b3.o,if_pos h0,List.append_nil]);subst h0;go_wp2_with fail;exact⟨⟨k+1,tv,by go_num,by omega,j0.o,by rw[e6.o];exact d.o⟩,by simp[RowKit.intOf];omega⟩
      ·have n0:(C != 0)=true:=by simpa using h0
       have e6:=Z (show cutTerms (combA p y) (k+1)=cutTerms (combA p y) k ++ [⟨(k:Int),C⟩] from by rw[Oj,b3.o,if_neg h0]);clear h0;have y3:=d.o.t9.at 3 rfl;dsimp only[rowT] at y3;go_wp2_with (at_builtin;refine Hold.hold ?_);clear y3;have BS:=SlL.new (enc:=encTerm) (sz:=2) T 75 Mm [⟨(k:Int),C⟩] #[.int .i64 (k:Int),.int .i64 C] 1 rfl rfl (by decide);obtain⟨b1,e5,k4⟩:=Z3 (d.o.grow BS.1) BS.2 (Xh (combA p y) k);clear BS;generalize T.heap.size=bs at e5 ⊢;generalize T.alloc _=m6 at b1 e5 ⊢;refine Hold.go ?_;refine Vo rfl _ _ rfl w.heap.size tv _ (cutTerms (combA p y) k) ⟨(k:Int),C⟩ rfl b1.o.tw rfl e5.o (by have:=k4.o;omega) b1.o.g.size ?_;intro o0 k6 F h2 h3 h4;obtain⟨⟨q1,q2⟩,q3⟩:=b1.o.putT a0.o F h2 h3 h4;obtain⟨pt,ct,j1⟩:=Li F;obtain⟨ln,i8⟩:∃ n,(cutTerms (combA p y) k ++ ([⟨(k:Int),C⟩]:List Ji)).length=n:=⟨_,rfl⟩
       rw[i8] at j1;subst j1;clear i8;obtain⟨n6,m9,j2⟩:=Li b1.o.tw;obtain⟨n5,i9⟩:∃ n,(cutTerms (combA p y) k).length=n:=⟨_,rfl⟩
       rw[i9] at j2;subst j2;clear i9;have I:=Z q3;clear F h2 h3 h4 q3;go_wp2_with fail;generalize k6.setCell _ _=m7 at I ⊢;exact⟨⟨k+1,_,by go_num,by omega,j0.o,by rw[e6.o];exact I.o⟩,by simp[RowKit.intOf];omega⟩
    ·obtain rfl:k=p.vars.length:=by omega
     go_wp2_with fail;obtain⟨ts,r,d4⟩:=d.o.t7;have f7:=Z d4;have d0:=r.c0;have d1:=r.c1;have d2:=r.c2;obtain⟨sm,pm,km,cm,a2,d3⟩:=d.o.t10;have t4:=a2.c0;have t5:=a2.c1;obtain⟨e7,e9⟩:=Z2 d3 (Zl (u:=fun j=>ceilQ (combA p y j)) HK.o.2.2.1 HQ.o hn);have S:Gr wr wr.drew:=(Gr.refl _).drew;have l:=Z S;clear r d4 a2 d3;refine Jl [(0,true),(2,true),(1,false),(3,false),(4,false),(5,true),(6,true),(7,true),(8,true),(9,true)] ?_;repeat(refine Jc S (h:=?_))
     refine Je (k:=J0X _ _ _ (ceilQ (combB p y - sumQ (loT p.vars (combA p y)) p.vars.length)) 80 (RatC.v (f7.o.grow l.o) (HC.o.r _ (Nat.le_refl _))) rfl (by decide) (by decide)) (h:=?_);rintro m1 m4 b6 c9;have l:=Z (l.o.trans b6);refine Je (k:=Q7 _ _ _ _ _ (cutBound p y) 81 3 (c9.v (P5 (HC.o.r _ (Nat.le_refl _)))) ((e7.o.grow l.o).v e9.o) (Xf p y).symm (by decide) (by decide)) (h:=?_);rintro m2 e3 b8 a6;have l:=Z (l.o.trans b8);refine Je (k:=J0L _ _ (cutBound p y) a6.1 (by have:=IntV.len a6.2;omega)) (h:=?_);rintro m3 T c6 ⟨tt,rfl,d5⟩;have l:=Z (l.o.trans c6);have g4:=l.o;have b2:=Z d5;obtain⟨nz,g6⟩:∃ z,(if fits (cutBound p y)=true then cutBound p y else (0:Int))=z:=⟨_,rfl⟩
     rw[g6];have k2:=Z g6;clear d5 c9 a6 g6;repeat(refine Jc g4 (h:=?_))
     refine Jg ?_;have d:=Z (d.o.grow l.o);clear d0 d1 d2 t4 t5 S g4 b6 b8 c6;have f:=Z (show Ja T b4 #[.string ⟨#[]⟩,.int .i64 0,.int .i64 0,.slice none 0 0,.int .i64 0] from d.o.t4)
     cases tt
     ·have H:=Z (show ¬ Mz p y from fun h=>absurd (b2.o.2 h.2.2) (by decide));have c0:=f.o.at 0 rfl;have c1:=f.o.at 1 rfl;have c2:=f.o.at 2 rfl;have c3:=f.o.at 3 rfl;have c4:=f.o.at 4 rfl;have N:=Ja.f (f.o) 0;have O:=Ja.f (f.o) 1;have P:=Ja.f (f.o) 2;have R:=Ja.f (f.o) 3;have X:=Ja.f (f.o) 4;have m:=Z (fill5 (.string ⟨#[]⟩) (.int .i64 0) (.int .i64 0) (.slice none 0 0) (.int .i64 0) (f.o) (d.o.g) b0.o);go_wp2_with fail;try rw[Exit.noGoto_ret]
      generalize ((((T.setCell _ _).setCell _ _).setCell _ _).setCell _ _).setCell _ _=W5 at m ⊢;clear c0 c1 c2 c3 c4 N O P R X;have z0:=m.o.2.1.at 0 rfl;have z1:=m.o.2.1.at 1 rfl;have z2:=m.o.2.1.at 2 rfl;have z3:=m.o.2.1.at 3 rfl;have z4:=m.o.2.1.at 4 rfl;refine bodyPost_ret (by simp[results,Tryz.results210,go_sem,z0,z1,z2,z3,z4];rfl) rfl ?_;exact⟨_,rfl,m.o.1,.inr ⟨H.o,8,by decide,rfl⟩⟩
     ·have i1:=Z (b2.o.1 rfl);have H:=Z (show Mz p y from⟨H1.o,HQ.o,i1.o⟩);obtain rfl:cutBound p y=nz:=by
       have F:=k2.o;rw[if_pos (by
        unfold fits;refine decide_eq_true ?_;have:=i1.o;unfold In at this;omega)] at F
       exact F
      obtain⟨pt,ct,rfl⟩:=Li d.o.tw;obtain⟨a5,m⟩:=Z2 (show Ja T b9 #[.string ⟨cutName.toArray⟩,.int .i64 0,.int .i64 1,.slice pt (cutTerms (combA p y) p.vars.length).length ct,.int .i64 0] from d.o.t9) (J5Y d.o a0.o (cutBound p y));have y0:=a5.o.at 0 rfl;have y1:=a5.o.at 1 rfl;have y2:=a5.o.at 2 rfl;have y3:=a5.o.at 3 rfl;have y4:=a5.o.at 4 rfl;have y5:=Ja.f a5.o 4;have c0:=f.o.at 0 rfl;have c1:=f.o.at 1 rfl;have c2:=f.o.at 2 rfl;have c3:=f.o.at 3 rfl;have c4:=f.o.at 4 rfl;have N:=Ja.f f.o 0;have O:=Ja.f f.o 1;have P:=Ja.f f.o 2;have R:=Ja.f f.o 3;have X:=Ja.f f.o 4;have m0:¬ b4=b9:=a0.o.x4.2.2.1;have n4:¬ b9=b4:=fun e=>m0 e.symm;go_wp2_with fail;clear c0 c1 c2 c3 c4 N O P R X y0 y1 y2 y3 y4 y5;generalize T.setCell ⟨b9,4,none⟩ (.int .i64 (cutBound p y))=Wb at m ⊢;have hf:=fill5 (.string ⟨cutName.toArray⟩) (.int .i64 0) (.int .i64 1) (.slice pt (cutTerms (combA p y) p.vars.length).length ct) (.int .i64 (cutBound p y)) m.o.2.2.1 m.o.1 b0.o;have HF:=Z (show _∧_∧Ju _ w.heap.size _ _ from⟨hf.1,hf.2.1,m.o.2.2.2.1.same hf.2.2 (by simp[World.setCell]) (L4 m.o.2.2.2.1 m.o.2.2.2.2) rfl rfl rfl⟩);clear hf;generalize ((((Wb.setCell _ _).setCell _ _).setCell _ _).setCell _ _).setCell _ _=W6 at HF ⊢;have z0:=HF.o.2.1.at 0 rfl;have z1:=HF.o.2.1.at 1 rfl;have z2:=HF.o.2.1.at 2 rfl;have z3:=HF.o.2.1.at 3 rfl;have z4:=HF.o.2.1.at 4 rfl;refine bodyPost_ret (by simp[results,Tryz.results210,go_sem,z0,z1,z2,z3,z4];rfl) rfl ?_;exact⟨_,rfl,HF.o.1,.inl ⟨H.o,⟨cutName,0,1,pt,ct,cutTerms (combA p y) p.vars.length,cutBound p y⟩,rfl,rfl,HF.o.2.2⟩⟩
end Prf
end Go.Proofs.YtcjgimlcefhhmaaGreatDoor

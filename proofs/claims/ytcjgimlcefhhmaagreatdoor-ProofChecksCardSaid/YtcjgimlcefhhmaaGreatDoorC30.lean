/- Texts: RsA. -/
import Derived.Test.YtcjgimlcefhhmaaGreatDoorC29
set_option linter.unusedVariables false
set_option linter.unusedSimpArgs false
set_option maxRecDepth 100000
set_option maxHeartbeats 12800000
namespace Go.Proofs.YtcjgimlcefhhmaaGreatDoor
namespace Prf
open Go.RowKit Go.Lib
theorem Sk.at {i w:World}{base:Nat}{pv:Value}{p:Prg}{r:RowS}(h:Sk i w base pv p r)(g:Gr i w):Js w pv (addRow p r):=by
 obtain⟨a,b,c,d,T,x,rfl,j,k,l,m,n,o⟩:=h.ex;refine⟨a,b,c,d,?_,j.read,T ++ [x],?_,?_,?_⟩
 ·show _=Value.agg #[.slice a p.vars.length b,.slice c (p.rows ++ [r]).length d];rw[List.length_append];rfl
 ·show SlL w 5 encRow (.slice c (p.rows ++ [r]).length d) (T ++ [x]);rw[List.length_append];exact k.read
 ·rw[List.map_append,l,List.map_singleton,n];rfl
 ·intro y f;rcases List.mem_append.1 f with f|f
  ·exact SlL.grow (m y f) g
  ·obtain rfl:=List.mem_singleton.1 f;exact o.1.read
theorem J5g {w:World}{x:Jr}{n:Jk}{L:Nat}(h:Kl w x n L):Jh x.kind x.var x.pos x.ck x.row x.mn x.cn x.vn↔Kg n:=by
 obtain⟨p,m,e,q,k,f,a,l,o,i,j⟩:=h.cut.parts;simp only[Jr.cutV,Value.agg.injEq,Array.mk.injEq,List.cons.injEq,Value.int.injEq,Value.slice.injEq,true_and,and_true] at a;obtain⟨b,⟨_,c,_⟩,d,_,g,_⟩:=a;unfold Kg;rw[h.kind,h.var,h.pos,h.mn,b,c,d,g,i,j]
def Nf (p:Prg)(N:List Jk)(r:Value)(w:World):Prop:=
 (∃ S q m c,Jm p N S∧r = .tuple #[.slice q m c,.bool true]∧m=S.length∧J1 w (.slice q m c) S 4)∨((∀ S,¬ Jm p N S)∧∃ q n c,r = .tuple #[.slice q n c,.bool false])
def J1U (k:Nat):Prop:=∀ (w:World) (v:Value) (p:Prg) (N:List Jk) (pt:Option Addr) (ct nt:Nat),N.length < k→nt=N.length→Js w v p→J1 w (.slice pt nt ct) N 4→PvP p N.length→(∀ n ∈ N,Kx n)→
 Calls Tryz.prog 53 #[v,.slice pt nt ct] w (Ret w fun r w'=>Nf p N r w')
theorem J5O:∀ k,J1U k:=by
 intro k
 induction k with
 | zero=>intro w v p N pt ct nt y;omega
 | succ k IH=>
  intro w v p N pt ct nt y d8 hp e3 f5 hf;obtain⟨c9,HP,A,HF,f9⟩:=Z5 IH hp f5 hf e3;obtain⟨va,vc,vb,vd,rfl,hv,hr⟩:=hp;unfold prgV at HP ⊢;have HV:=Z hv;clear IH hv hr f5 hf;have f:=Z (Ja.new w #[.slice va p.vars.length vc,.slice vb p.rows.length vd] 25)
  cases N with
  | nil=>
   obtain rfl:nt=0:=d8;clear e3;go_enter Tryz.func53,Tryz.ntmps53;go_wp2_with fail;try rw[Exit.noGoto_ret]
   refine bodyPost_ret (by simp[results,Tryz.results53,go_sem];rfl) rfl ?_;exact⟨_,rfl,f.o.1,.inr ⟨fun S h=>J5j h rfl,_,_,_,rfl⟩⟩
  | cons n N=>
   obtain⟨b,o,x,rfl,hx,hc,f6⟩:=Rn e3;obtain⟨HX,f3,l,a9,c8,f8,d1⟩:=Z7 hx f6 hc (HF.o n (List.mem_cons_self ..)) (fun m hm=>HF.o m (List.mem_cons_of_mem n hm)) d8 y;have g9:((nt:Int) == 0)=false:=by simp;simp at d8;omega
   obtain⟨kd,mp,mn,mc,M,e4,ck,cp,cn,cc,row,vp,vn,f7⟩:=x;obtain rfl:mn=n.mult.length:=HX.o.mn;have b5:=fun j u hj=>hc _ f.o.1 j u hj;have c0:=b5 0 _ rfl;have c1:=b5 1 _ rfl;have c2:=b5 2 _ rfl;have c3:=b5 3 _ rfl;have c4:=b5 4 _ rfl;have c5:=b5 5 _ rfl;have c6:=b5 6 _ rfl;have G:=b5 7 _ rfl;dsimp only at c0 c1 c2 c3 c4 c5 c6 G;rw[Nat.add_zero] at c0;have g4:0 < nt:=by simp at d8;omega
   have g6:(0:Int) < (nt:Int):=by omega
   have g8:(1:Int)≤(nt:Int):=by omega
   clear e3 hx hc f6 d8 y b5;go_enter Tryz.func53,Tryz.ntmps53;go_wp2_with fail;clear c0 c1 c2 c3 c4 c5 c6 G;generalize w.heap.size=bp at f ⊢;generalize w.alloc _=W at f ⊢;refine(J5P W kd M e4 ck row n.mult.length cn vn mp cp vp mc cc f7).mono ?_;rintro _ D ⟨r1,rfl,g1,O⟩;have f:=Z (show Gr w D∧Ja D bp _ from⟨f.o.1.trans g1,f.o.2.grow g1⟩);have e1:=J5g HX.o;dsimp only at e1;rcases O.cases with⟨rfl,P⟩|⟨rfl,P⟩;rotate_left
   ·have H:=Z (show ∀ S,¬ Jm p (n :: N) S from fun S h=>P (e1.2 (Mp h)));clear O g1 P e1;go_wp2_with fail;try rw[Exit.noGoto_ret]
    refine bodyPost_ret (by simp[results,Tryz.results53,go_sem];rfl) rfl ?_;exact⟨_,rfl,f.o.1,.inr ⟨H.o,_,_,_,rfl⟩⟩
   have b0:=Z (e1.1 P);clear O g1 P e1;have b2:=Z HX.o.kind;dsimp only at b2;have c0:=l.o D f.o.1 0 _ rfl;have c1:=l.o D f.o.1 1 _ rfl;have c2:=l.o D f.o.1 2 _ rfl;have c3:=l.o D f.o.1 3 _ rfl;have c4:=l.o D f.o.1 4 _ rfl;have c5:=l.o D f.o.1 5 _ rfl;have c6:=l.o D f.o.1 6 _ rfl;have G:=l.o D f.o.1 7 _ rfl;dsimp only at c0 c1 c2 c3 c4 c5 c6 G;rw[Nat.add_zero] at c0;have d:=Z (Ja.new D (nodeA ⟨kd,mp,n.mult.length,mc,M,e4,ck,cp,cn,cc,row,vp,vn,f7⟩) 47);unfold nodeA at d;dsimp only at d;have d0:=d.o.2.at 0 rfl;have b6:=Z (show nt - 1=N.length from by have:=f8.o;simp at this;omega);by_cases f4:ct=1
   ·subst f4;have HR:=Z (show J1 w (.slice (some ⟨b,o,none⟩) (nt - 1) 0) N 4 from(by have:=f3.o (some ⟨b,o,none⟩) (.inr rfl);exact this));rcases(Lp.1 b0.o) with⟨y,C⟩|⟨y,C⟩|⟨y,C⟩|⟨y,C⟩
    ·obtain rfl:kd=0:=b2.o.trans y;have X:=Z y;clear y C;go_wp2_with fail;clear c0 c1 c2 c3 c4 c5 c6 G d0;generalize D.heap.size=bn at d ⊢;generalize D.alloc _=i at d ⊢;have q:=Z (fun s=>Rq (p:=p) (n:=n) (t:=N) (s:=s) b0.o X.o);have T:=fun w' (g:Gr i w')=>(f.o.2.grow (d.o.1.trans g)).at 0 rfl;have U:=fun w' (g:Gr i w')=>(f.o.2.grow (d.o.1.trans g)).at 1 rfl;have Q:=fun w' (g:Gr i w')=>(d.o.2.grow g).at 1 rfl;have R:=fun w' (g:Gr i w')=>(d.o.2.grow g).at 2 rfl;have a:Gr i i.drew:=(Gr.refl _).drew;by_cases h:n.mult.length≤p.rows.length
     ·have e6:=Z h;have h':(n.mult.length:Int)≤(p.rows.length:Int):=by omega
      have e5:=Z (P4 a9.o.ms a9.o.m A.o.ok.2.2.2 A.o.ok.2.2.1 (by have:=A.o.m;omega) A.o.n);clear h;refine Jl [(0,true),(1,true),(2,true),(3,true),(4,true),(5,true),(6,true),(7,true),(8,true),(9,true),(10,true),(11,true),(12,true),(13,false),(14,true),(15,true),(16,true)] ?_;generalize i.drew=L at a ⊢;have c:=Z (f.o.1.trans (d.o.1.trans a));repeat(refine Jc a (h:=?_))
      refine L7 (args:=?_) rfl rfl rfl rfl rfl rfl (by kernel_rfl) (by kernel_rfl) ?_ (fun K F=>?_);rotate_left
      ·go_simp;rfl
      refine(J0I L _ p mp mc n.mult (HP.o.grow c.o) (HX.o.mult.grow c.o) e5.o A.o.ok A.o.wh).mono ?_;rintro _ E ⟨r3,rfl,g3,h3⟩;have c:=Z (c.o.trans g3);refine⟨_,rfl,g3,?_⟩;go_simp;refine F _ _ ?_;clear F K;replace a:=a.trans g3;clear g3;rcases h3.cases with⟨rfl,k3⟩|⟨rfl,k3⟩
      ·have H:=Z k3;clear h3 k3;repeat(first|(refine Jw (h:=?_))|(refine Jc a (h:=?_)))
       refine Jg ?_;clear T U Q R a;go_wp2_with fail;try rw[Exit.noGoto_ret]
       refine bodyPost_ret (by simp[results,Tryz.results53,go_sem];rfl) rfl ?_;exact⟨_,rfl,c.o,.inl ⟨N,_,_,_,(q.o N).2 ⟨⟨e6.o,H.o⟩,rfl⟩,rfl,b6.o,HR.o.grow c.o⟩⟩
      ·have H:=Z k3;clear h3 k3;repeat(first|(refine Jw (h:=?_))|(refine Jc a (h:=?_)))
       refine Jg ?_;clear T U Q R a;go_wp2_with fail;try rw[Exit.noGoto_ret]
       refine bodyPost_ret (by simp[results,Tryz.results53,go_sem];rfl) rfl ?_;exact⟨_,rfl,c.o,.inr ⟨fun S h=>H.o ((q.o S).1 h).1.2,_,_,_,rfl⟩⟩
     ·have H:=Z h;have h':¬ (n.mult.length:Int)≤(p.rows.length:Int):=by omega
      have h2:decide ((n.mult.length:Int)≤(p.rows.length:Int))=false:=decide_eq_false h';refine Jl [(0,true),(1,true),(2,true),(3,true),(4,true),(5,true),(6,true),(7,true),(8,true),(9,true),(10,true),(11,true),(12,true),(13,false),(14,true),(15,true),(16,true)] ?_;generalize i.drew=L at a ⊢;have c:=Z (f.o.1.trans (d.o.1.trans a));repeat(first|(refine Jw (h:=?_))|(refine Jc a (h:=?_)))
      refine Jg ?_;clear T U Q R a;go_wp2_with fail;try rw[Exit.noGoto_ret]
      refine bodyPost_ret (by simp[results,Tryz.results53,go_sem];rfl) rfl ?_;exact⟨_,rfl,c.o,.inr ⟨fun S h=>H.o ((q.o S).1 h).1.1,_,_,_,rfl⟩⟩
    ·obtain rfl:kd=1:=b2.o.trans y;have X:=Z y;clear y C;go_wp2_with fail;clear c0 c1 c2 c3 c4 c5 c6 G d0;generalize D.heap.size=bn at d ⊢;generalize D.alloc _=i at d ⊢;obtain⟨q,a4⟩:=Z2 (fun s=>Rr (p:=p) (n:=n) (t:=N) (s:=s) b0.o X.o) (show M=n.var from HX.o.var);have T:=fun w' (g:Gr i w')=>(f.o.2.grow (d.o.1.trans g)).at 0 rfl;have U:=fun w' (g:Gr i w')=>(f.o.2.grow (d.o.1.trans g)).at 1 rfl;have Q:=fun w' (g:Gr i w')=>(d.o.2.grow g).at 1 rfl;have R:=fun w' (g:Gr i w')=>(d.o.2.grow g).at 2 rfl;have a:Gr i i.drew:=(Gr.refl _).drew;by_cases h0:0≤M
     ·by_cases O:M < (p.vars.length:Int)
      ·obtain⟨jn,rfl⟩:∃ j:Nat,M=(j:Int):=⟨M.toNat,by omega⟩
       have hj:jn < p.vars.length:=by omega
       obtain⟨bv,ov,u,rfl,hu,hc⟩:=K5 HV.o rfl hj;have HU:=Z hu;have c0:=fun w' (g:Gr i w')=>(hc w' (f.o.1.trans (d.o.1.trans g))).1;have c1:=fun w' (g:Gr i w')=>(hc w' (f.o.1.trans (d.o.1.trans g))).2.1;clear hc hu h0 O;have h0:(0:Int)≤(jn:Int):=by omega
       have O:(jn:Int) < (p.vars.length:Int):=by omega
       by_cases h2:u.up < u.lo
       ·have H:=Z (show Lv p n.var from⟨by rw[← a4.o];omega,u,by rw[← a4.o,Int.toNat_natCast];exact HU.o,h2⟩);refine Jl [(0,true),(1,true),(2,true),(3,true),(4,true),(5,true),(6,true),(7,true),(8,true),(9,true),(10,true),(11,true),(12,true),(13,true),(14,true),(15,true),(16,true),(17,true),(18,true),(19,true),(20,true),(21,true),(22,true),(23,true),(24,true),(25,true),(26,true),(27,true),(28,true),(29,true),(30,true),(31,true)] ?_;generalize i.drew=L at a ⊢;have c:=Z (f.o.1.trans (d.o.1.trans a));repeat(first|(refine Jw (h:=?_))|(refine Jc a (h:=?_)))
        refine Jg ?_;clear T U Q R a;go_wp2_with fail;try rw[Exit.noGoto_ret]
        refine bodyPost_ret (by simp[results,Tryz.results53,go_sem];rfl) rfl ?_;exact⟨_,rfl,c.o,.inl ⟨N,_,_,_,(q.o N).2 ⟨H.o,rfl⟩,rfl,b6.o,HR.o.grow c.o⟩⟩
       ·have e2:decide (u.up < u.lo)=false:=decide_eq_false h2;have a5:=Z h2;have H:=Z (show ¬ Lv p n.var from fun h=>by(obtain⟨-,z,C,hl⟩:=h;rw[← a4.o,Int.toNat_natCast,HU.o] at C;cases C;exact a5.o hl));refine Jl [(0,true),(1,true),(2,true),(3,true),(4,true),(5,true),(6,true),(7,true),(8,true),(9,true),(10,true),(11,true),(12,true),(13,true),(14,true),(15,true),(16,true),(17,true),(18,true),(19,true),(20,true),(21,true),(22,true),(23,true),(24,true),(25,true),(26,true),(27,true),(28,true),(29,true),(30,true),(31,true)] ?_;generalize i.drew=L at a ⊢;have c:=Z (f.o.1.trans (d.o.1.trans a));repeat(first|(refine Jw (h:=?_))|(refine Jc a (h:=?_)))
        refine Jg ?_;clear T U Q R a;go_wp2_with fail;try rw[Exit.noGoto_ret]
        refine bodyPost_ret (by simp[results,Tryz.results53,go_sem];rfl) rfl ?_;exact⟨_,rfl,c.o,.inr ⟨fun S h=>H.o ((q.o S).1 h).1,_,_,_,rfl⟩⟩
      ·have e2:decide (M < (p.vars.length:Int))=false:=decide_eq_false O;have a5:=Z O;have H:=Z (show ¬ Lv p n.var from fun h=>by(obtain⟨h0,z,C,hl⟩:=h;rw[← a4.o] at C;have:=(List.getElem?_eq_some_iff.1 C).1;have:=a5.o;omega));refine Jl [(0,true),(1,true),(2,true),(3,true),(4,true),(5,true),(6,true),(7,true),(8,true),(9,true),(10,true),(11,true),(12,true),(13,true),(14,true),(15,true),(16,true),(17,true),(18,true),(19,true),(20,true),(21,true),(22,true),(23,true),(24,true),(25,true),(26,true),(27,true),(28,true),(29,true),(30,true),(31,true)] ?_;generalize i.drew=L at a ⊢;have c:=Z (f.o.1.trans (d.o.1.trans a));repeat(first|(refine Jw (h:=?_))|(refine Jc a (h:=?_)))
       refine Jg ?_;clear T U Q R a;go_wp2_with fail;try rw[Exit.noGoto_ret]
       refine bodyPost_ret (by simp[results,Tryz.results53,go_sem];rfl) rfl ?_;exact⟨_,rfl,c.o,.inr ⟨fun S h=>H.o ((q.o S).1 h).1,_,_,_,rfl⟩⟩
     ·have e2:decide (0≤M)=false:=decide_eq_false h0;have a5:=Z h0;have H:=Z (show ¬ Lv p n.var from fun h=>a5.o (by rw[a4.o];exact h.1));refine Jl [(0,true),(1,true),(2,true),(3,true),(4,true),(5,true),(6,true),(7,true),(8,true),(9,true),(10,true),(11,true),(12,true),(13,true),(14,true),(15,true),(16,true),(17,true),(18,true),(19,true),(20,true),(21,true),(22,true),(23,true),(24,true),(25,true),(26,true),(27,true),(28,true),(29,true),(30,true),(31,true)] ?_;generalize i.drew=L at a ⊢;have c:=Z (f.o.1.trans (d.o.1.trans a));repeat(first|(refine Jw (h:=?_))|(refine Jc a (h:=?_)))
      refine Jg ?_;clear T U Q R a;go_wp2_with fail;try rw[Exit.noGoto_ret]
      refine bodyPost_ret (by simp[results,Tryz.results53,go_sem];rfl) rfl ?_;exact⟨_,rfl,c.o,.inr ⟨fun S h=>H.o ((q.o S).1 h).1,_,_,_,rfl⟩⟩
    ·obtain rfl:kd=2:=b2.o.trans y;have X:=Z y;clear y C;obtain rfl:M=n.var:=HX.o.var;obtain rfl:e4=n.pos:=HX.o.pos;have q:=Z (fun s=>Uo (p:=p) (n:=n) (t:=N) (s:=s) b0.o X.o);have q0:=(f.o.2.grow d.o.1).at 0 rfl;have q1:=(f.o.2.grow d.o.1).at 1 rfl;have d2:=d.o.2.at 2 rfl;have d3:=d.o.2.at 3 rfl;go_wp2_with fail;clear c0 c1 c2 c3 c4 c5 c6 G d0 d2 d3 q0 q1;generalize D.heap.size=bn at d ⊢;generalize D.alloc _=i at d ⊢;have c:=Z (f.o.1.trans d.o.1);refine(J0M i _ p n.var n.pos (HP.o.grow c.o) A.o.ok A.o.wh A.o.n (by have:=A.o.m;omega)).mono ?_;rintro _ E ⟨r3,rfl,g3,h3⟩;have c:=Z (c.o.trans g3);rcases h3 with⟨d9,a3,b3,rfl,ha,hb⟩|⟨a8,e,a6,rfl⟩;rotate_left
     ·have e8:(e == 0)=false:=by simpa using a6
      obtain⟨H,GA⟩:=Z2 (show ∀ S,¬ Jm p (n :: N) S from fun S h=>a8 (by obtain⟨P,k2,-⟩:=(q.o S).1 h;exact⟨P,k2⟩)) (c.o.trans ((Gr.refl E).alloc (.cells #[.slice none 0 0,.slice none 0 0] 25)));have GB:=Z (GA.o.trans ((Gr.refl _).alloc (.cells #[.slice none 0 0,.slice none 0 0] 25)));clear a8 a6 g3;go_wp2_with fail;try rw[Exit.noGoto_ret]
      refine bodyPost_ret (by simp[results,Tryz.results53,go_sem];rfl) rfl ?_;exact⟨_,rfl,GB.o,.inr ⟨H.o,_,_,_,rfl⟩⟩
     obtain⟨b4,HA,b1⟩:=Z3 (show(0≤n.var∧n.var < (p.vars.length:Int))∧(-1099511627776≤n.pos∧n.pos < 1099511627776) from d9) (ha.at g3) (hb.at g3);obtain⟨xa,ya,xb,yb,rfl,-,-⟩:=ha.at g3;obtain⟨e9,f1,f0,f2,rfl,-,-⟩:=hb.at g3;unfold prgV at HA b1 ⊢;clear d9 ha hb g3;go_wp2_with fail;have B7:=Ja.new E #[.slice xa (lowPart p n.var n.pos).vars.length ya,.slice xb (lowPart p n.var n.pos).rows.length yb] 25;have B8:=Ja.new (E.alloc (.cells #[.slice xa (lowPart p n.var n.pos).vars.length ya,.slice xb (lowPart p n.var n.pos).rows.length yb] 25)) #[.slice e9 (highPart p n.var n.pos).vars.length f1,.slice f0 (highPart p n.var n.pos).rows.length f2] 25;rw[World.size_alloc] at B8;have l:=Z (show Gr E _∧Ja _ _ _∧Ja _ _ _ from⟨B7.1.trans B8.1,B7.2.grow B8.1,B8.2⟩);clear B7 B8;generalize E.heap.size+1=b8 at l ⊢;generalize E.heap.size=b7 at l ⊢;generalize (E.alloc _).alloc _=I at l ⊢;have c:=Z (c.o.trans l.o.1);have a0:=fun w' (g:Gr I w')=>(l.o.2.1.grow g).at 0 rfl;have a1:=fun w' (g:Gr I w')=>(l.o.2.1.grow g).at 1 rfl;have a:Gr I I.drew:=(Gr.refl _).drew;refine Jl [(0,true),(1,true),(2,true),(3,false),(4,true),(5,true),(6,true),(7,true),(8,true)] ?_;generalize I.drew=L at a ⊢;repeat(refine Jc a (h:=?_))
     refine L7 (args:=?_) rfl rfl rfl rfl rfl rfl (by kernel_rfl) (by kernel_rfl) ?_ (fun K F=>?_);rotate_left
     ·go_simp;rfl
     refine(c9.o L _ (lowPart p n.var n.pos) N (some ⟨b,o,none⟩) 0 (nt - 1) (by have:=d1.o;simp at this;omega) b6.o (HA.o.grow (l.o.1.trans a)) (HR.o.grow (c.o.trans a)) ((A.o.low b4.o.2).less (Nat.le_succ _)) c8.o).mono ?_;rintro _ w5 ⟨r5,rfl,B,h5⟩;rcases h5 with⟨Y,V,_,c5,a2,rfl,rfl,J⟩|⟨J,V,m5,c5,rfl⟩;rotate_left
     ·have H:=Z (show ∀ S,¬ Jm p (n :: N) S from fun S h=>by
       obtain⟨-,-,S',k,-⟩:=(q.o S).1 h;exact J S' k)
      refine⟨_,rfl,B,?_⟩;go_simp;refine F _ _ ?_;clear F K;replace a:=a.trans B;clear B J;repeat(first|(refine Jw (h:=?_))|(refine Jc a (h:=?_)))
      refine Jg ?_;have c:=Z (c.o.trans a);clear a0 a1 a;go_wp2_with fail;try rw[Exit.noGoto_ret]
      refine bodyPost_ret (by simp[results,Tryz.results53,go_sem];rfl) rfl ?_;exact⟨_,rfl,c.o,.inr ⟨H.o,_,_,_,rfl⟩⟩
     obtain⟨H5,e7,b9⟩:=Z3 a2 J (Uq a2);refine⟨_,rfl,B,?_⟩;go_simp;refine F _ _ ?_;clear F K;replace a:=a.trans B;clear B a2 J;repeat(first|(refine Jw (h:=?_))|(refine Jc a (h:=?_)))
     refine Jg ?_;obtain⟨c,b1⟩:=Z2 (c.o.trans a) (b1.o.grow (l.o.1.trans a));have z0:=(l.o.2.2.grow a).at 0 rfl;have z1:=(l.o.2.2.grow a).at 1 rfl;clear a0 a1 a;go_wp2_with fail;clear z0 z1;refine(c9.o w5 _ (highPart p n.var n.pos) Y V c5 Y.length (by have O:=d1.o;have h2:=b9.o.1;simp at O;omega) rfl b1.o e7.o ((A.o.high b4.o.2).less (Nat.le_trans b9.o.1 (Nat.le_succ _))) (fun x hx=>c8.o x (b9.o.2 x hx))).mono ?_;rintro _ w7 ⟨r7,rfl,g7,h7⟩;have c:=Z (c.o.trans g7);rcases h7 with⟨S7,q7,_,G,e0,rfl,rfl,a7⟩|⟨a7,q7,m7,G,rfl⟩
     ·have H:=Z (show Nf p (n :: N) (.tuple #[.slice q7 S7.length G,.bool true]) w7 from .inl ⟨S7,q7,_,G,(q.o S7).2 ⟨b4.o.1,b4.o.2,Y,H5.o,e0⟩,rfl,rfl,a7⟩);clear e0 a7 g7;go_wp2_with fail;try rw[Exit.noGoto_ret]
      refine bodyPost_ret (by simp[results,Tryz.results53,go_sem];rfl) rfl ?_;exact⟨_,rfl,c.o,H.o⟩
     ·have H:=Z (show Nf p (n :: N) (.tuple #[.slice q7 m7 G,.bool false]) w7 from .inr ⟨fun S h=>by
       obtain⟨-,-,S',k,k'⟩:=(q.o S).1 h;rw[← Pm H5.o k] at k';exact a7 S k',q7,m7,G,rfl⟩)
      clear a7 g7;go_wp2_with fail;try rw[Exit.noGoto_ret]
      refine bodyPost_ret (by simp[results,Tryz.results53,go_sem];rfl) rfl ?_;exact⟨_,rfl,c.o,H.o⟩
    ·obtain rfl:kd=3:=b2.o.trans y;have X:=Z y;clear y C;have q:=Z (fun s=>Up (p:=p) (n:=n) (t:=N) (s:=s) b0.o X.o);have q0:=(f.o.2.grow d.o.1).at 0 rfl;have q1:=(f.o.2.grow d.o.1).at 1 rfl;have d4:=d.o.2.at 4 rfl;have d5:=d.o.2.at 5 rfl;have d6:=d.o.2.at 6 rfl;have d7:=d.o.2.at 7 rfl;go_wp2_with fail;clear c0 c1 c2 c3 c4 c5 c6 G d0 d4 d5 d6 d7 q0 q1;generalize D.heap.size=bn at d ⊢;generalize D.alloc _=i at d ⊢;have c:=Z (f.o.1.trans d.o.1);refine(J0J i _ _ p n.cut (HP.o.grow c.o) (HX.o.cut.grow c.o) a9.o.c a9.o.cs a9.o.v A.o.ok A.o.wh A.o.n (by have:=A.o.m;omega)).mono ?_;rintro _ E ⟨r3,rfl,g3,h3⟩;have c:=Z (c.o.trans g3);rcases h3 with⟨rs,pv,hd,rfl,hq⟩|⟨a8,e,a6,rfl⟩;rotate_left
     ·have e8:(e == 0)=false:=by simpa using a6
      have H:=Z (show ∀ S,¬ Jm p (n :: N) S from fun S h=>by
       obtain⟨r,P,-⟩:=(q.o S).1 h;exact a8 r P)
      have GA:=Z (c.o.trans ((Gr.refl E).alloc (.cells #[.slice none 0 0,.slice none 0 0] 25)));clear a8 a6 g3;go_wp2_with fail;try rw[Exit.noGoto_ret]
      refine bodyPost_ret (by simp[results,Tryz.results53,go_sem];rfl) rfl ?_;exact⟨_,rfl,GA.o,.inr ⟨H.o,_,_,_,rfl⟩⟩
     obtain⟨HD,HA⟩:=Z2 hd (hq.at g3);obtain⟨xa,ya,xb,yb,rfl,-,-⟩:=hq.at g3;unfold prgV at HA ⊢;clear hd hq g3;go_wp2_with fail;have B7:=Ja.new E #[.slice xa (addRow p rs).vars.length ya,.slice xb (addRow p rs).rows.length yb] 25;have l:=Z B7;clear B7;generalize E.heap.size=b7 at l ⊢;generalize E.alloc _=I at l ⊢;have c:=Z (c.o.trans l.o.1);have a0:=fun w' (g:Gr I w')=>(l.o.2.grow g).at 0 rfl;have a1:=fun w' (g:Gr I w')=>(l.o.2.grow g).at 1 rfl;have a:Gr I I.drew:=(Gr.refl _).drew;refine Jl [(0,true),(1,true),(2,true),(3,false),(4,true),(5,true),(6,true),(7,true)] ?_;generalize I.drew=L at a ⊢;repeat(refine Jc a (h:=?_))
     refine L7 (args:=?_) rfl rfl rfl rfl rfl rfl (by kernel_rfl) (by kernel_rfl) ?_ (fun K F=>?_);rotate_left
     ·go_simp;rfl
     refine(c9.o L _ (addRow p rs) N (some ⟨b,o,none⟩) 0 (nt - 1) (by have:=d1.o;simp at this;omega) b6.o (HA.o.grow (l.o.1.trans a)) (HR.o.grow (c.o.trans a)) (A.o.add HD.o) c8.o).mono ?_;rintro _ w5 ⟨r5,rfl,B,h5⟩;rcases h5 with⟨Y,V,_,c5,a2,rfl,rfl,J⟩|⟨J,V,m5,c5,rfl⟩
     ·have H:=Z (show Nf p (n :: N) (.tuple #[.slice V Y.length c5,.bool true]) w5 from .inl ⟨Y,V,_,c5,(q.o Y).2 ⟨rs,HD.o,a2⟩,rfl,rfl,J⟩);refine⟨_,rfl,B,?_⟩;go_simp;refine F _ _ ?_;clear F K;replace a:=a.trans B;clear B a2 J;repeat(first|(refine Jw (h:=?_))|(refine Jc a (h:=?_)))
      refine Jg ?_;have c:=Z (c.o.trans a);clear a0 a1 a;go_wp2_with fail;try rw[Exit.noGoto_ret]
      refine bodyPost_ret (by simp[results,Tryz.results53,go_sem];rfl) rfl ?_;exact⟨_,rfl,c.o,H.o⟩
     ·have H:=Z (show Nf p (n :: N) (.tuple #[.slice V m5 c5,.bool false]) w5 from .inr ⟨fun S h=>by
       obtain⟨r,P,k2⟩:=(q.o S).1 h;rw[← Q5 HD.o P] at k2;exact J S k2,V,m5,c5,rfl⟩)
      refine⟨_,rfl,B,?_⟩;go_simp;refine F _ _ ?_;clear F K;replace a:=a.trans B;clear B J;repeat(first|(refine Jw (h:=?_))|(refine Jc a (h:=?_)))
      refine Jg ?_;have c:=Z (c.o.trans a);clear a0 a1 a;go_wp2_with fail;try rw[Exit.noGoto_ret]
      refine bodyPost_ret (by simp[results,Tryz.results53,go_sem];rfl) rfl ?_;exact⟨_,rfl,c.o,H.o⟩
   ·have g2:(ct == 1)=false:=by simpa using f4
    have HR:=Z (show J1 w (.slice (some ⟨b,o+8,none⟩) (nt - 1) (ct - 1)) N 4 from(f3.o _ (.inl rfl)));rcases(Lp.1 b0.o) with⟨y,C⟩|⟨y,C⟩|⟨y,C⟩|⟨y,C⟩
    ·obtain rfl:kd=0:=b2.o.trans y;have X:=Z y;clear y C;go_wp2_with fail;clear c0 c1 c2 c3 c4 c5 c6 G d0;generalize D.heap.size=bn at d ⊢;generalize D.alloc _=i at d ⊢;have q:=Z (fun s=>Rq (p:=p) (n:=n) (t:=N) (s:=s) b0.o X.o);have T:=fun w' (g:Gr i w')=>(f.o.2.grow (d.o.1.trans g)).at 0 rfl;have U:=fun w' (g:Gr i w')=>(f.o.2.grow (d.o.1.trans g)).at 1 rfl;have Q:=fun w' (g:Gr i w')=>(d.o.2.grow g).at 1 rfl;have R:=fun w' (g:Gr i w')=>(d.o.2.grow g).at 2 rfl;have a:Gr i i.drew:=(Gr.refl _).drew;by_cases h:n.mult.length≤p.rows.length
     ·have e6:=Z h;have h':(n.mult.length:Int)≤(p.rows.length:Int):=by omega
      have e5:=Z (P4 a9.o.ms a9.o.m A.o.ok.2.2.2 A.o.ok.2.2.1 (by have:=A.o.m;omega) A.o.n);clear h;refine Jl [(0,true),(1,true),(2,true),(3,true),(4,true),(5,true),(6,true),(7,true),(8,true),(9,true),(10,true),(11,true),(12,true),(13,false),(14,true),(15,true),(16,true)] ?_;generalize i.drew=L at a ⊢;have c:=Z (f.o.1.trans (d.o.1.trans a));repeat(refine Jc a (h:=?_))
      refine L7 (args:=?_) rfl rfl rfl rfl rfl rfl (by kernel_rfl) (by kernel_rfl) ?_ (fun K F=>?_);rotate_left
      ·go_simp;rfl
      refine(J0I L _ p mp mc n.mult (HP.o.grow c.o) (HX.o.mult.grow c.o) e5.o A.o.ok A.o.wh).mono ?_;rintro _ E ⟨r3,rfl,g3,h3⟩;have c:=Z (c.o.trans g3);refine⟨_,rfl,g3,?_⟩;go_simp;refine F _ _ ?_;clear F K;replace a:=a.trans g3;clear g3;rcases h3.cases with⟨rfl,k3⟩|⟨rfl,k3⟩
      ·have H:=Z k3;clear h3 k3;repeat(first|(refine Jw (h:=?_))|(refine Jc a (h:=?_)))
       refine Jg ?_;clear T U Q R a;go_wp2_with fail;try rw[Exit.noGoto_ret]
       refine bodyPost_ret (by simp[results,Tryz.results53,go_sem];rfl) rfl ?_;exact⟨_,rfl,c.o,.inl ⟨N,_,_,_,(q.o N).2 ⟨⟨e6.o,H.o⟩,rfl⟩,rfl,b6.o,HR.o.grow c.o⟩⟩
      ·have H:=Z k3;clear h3 k3;repeat(first|(refine Jw (h:=?_))|(refine Jc a (h:=?_)))
       refine Jg ?_;clear T U Q R a;go_wp2_with fail;try rw[Exit.noGoto_ret]
       refine bodyPost_ret (by simp[results,Tryz.results53,go_sem];rfl) rfl ?_;exact⟨_,rfl,c.o,.inr ⟨fun S h=>H.o ((q.o S).1 h).1.2,_,_,_,rfl⟩⟩
     ·have H:=Z h;have h':¬ (n.mult.length:Int)≤(p.rows.length:Int):=by omega
      have h2:decide ((n.mult.length:Int)≤(p.rows.length:Int))=false:=decide_eq_false h';refine Jl [(0,true),(1,true),(2,true),(3,true),(4,true),(5,true),(6,true),(7,true),(8,true),(9,true),(10,true),(11,true),(12,true),(13,false),(14,true),(15,true),(16,true)] ?_;generalize i.drew=L at a ⊢;have c:=Z (f.o.1.trans (d.o.1.trans a));repeat(first|(refine Jw (h:=?_))|(refine Jc a (h:=?_)))
      refine Jg ?_;clear T U Q R a;go_wp2_with fail;try rw[Exit.noGoto_ret]
      refine bodyPost_ret (by simp[results,Tryz.results53,go_sem];rfl) rfl ?_;exact⟨_,rfl,c.o,.inr ⟨fun S h=>H.o ((q.o S).1 h).1.1,_,_,_,rfl⟩⟩
    ·obtain rfl:kd=1:=b2.o.trans y;have X:=Z y;clear y C;go_wp2_with fail;clear c0 c1 c2 c3 c4 c5 c6 G d0;generalize D.heap.size=bn at d ⊢;generalize D.alloc _=i at d ⊢;obtain⟨q,a4⟩:=Z2 (fun s=>Rr (p:=p) (n:=n) (t:=N) (s:=s) b0.o X.o) (show M=n.var from HX.o.var);have T:=fun w' (g:Gr i w')=>(f.o.2.grow (d.o.1.trans g)).at 0 rfl;have U:=fun w' (g:Gr i w')=>(f.o.2.grow (d.o.1.trans g)).at 1 rfl;have Q:=fun w' (g:Gr i w')=>(d.o.2.grow g).at 1 rfl;have R:=fun w' (g:Gr i w')=>(d.o.2.grow g).at 2 rfl;have a:Gr i i.drew:=(Gr.refl _).drew;by_cases h0:0≤M
     ·by_cases O:M < (p.vars.length:Int)
      ·obtain⟨jn,rfl⟩:∃ j:Nat,M=(j:Int):=⟨M.toNat,by omega⟩
       have hj:jn < p.vars.length:=by omega
       obtain⟨bv,ov,u,rfl,hu,hc⟩:=K5 HV.o rfl hj;have HU:=Z hu;have c0:=fun w' (g:Gr i w')=>(hc w' (f.o.1.trans (d.o.1.trans g))).1;have c1:=fun w' (g:Gr i w')=>(hc w' (f.o.1.trans (d.o.1.trans g))).2.1;clear hc hu h0 O;have h0:(0:Int)≤(jn:Int):=by omega
       have O:(jn:Int) < (p.vars.length:Int):=by omega
       by_cases h2:u.up < u.lo
       ·have H:=Z (show Lv p n.var from⟨by rw[← a4.o];omega,u,by rw[← a4.o,Int.toNat_natCast];exact HU.o,h2⟩);refine Jl [(0,true),(1,true),(2,true),(3,true),(4,true),(5,true),(6,true),(7,true),(8,true),(9,true),(10,true),(11,true),(12,true),(13,true),(14,true),(15,true),(16,true),(17,true),(18,true),(19,true),(20,true),(21,true),(22,true),(23,true),(24,true),(25,true),(26,true),(27,true),(28,true),(29,true),(30,true),(31,true)] ?_;generalize i.drew=L at a ⊢;have c:=Z (f.o.1.trans (d.o.1.trans a));repeat(first|(refine Jw (h:=?_))|(refine Jc a (h:=?_)))
        refine Jg ?_;clear T U Q R a;go_wp2_with fail;try rw[Exit.noGoto_ret]
        refine bodyPost_ret (by simp[results,Tryz.results53,go_sem];rfl) rfl ?_;exact⟨_,rfl,c.o,.inl ⟨N,_,_,_,(q.o N).2 ⟨H.o,rfl⟩,rfl,b6.o,HR.o.grow c.o⟩⟩
       ·have e2:decide (u.up < u.lo)=false:=decide_eq_false h2;have a5:=Z h2;have H:=Z (show ¬ Lv p n.var from fun h=>by(obtain⟨-,z,C,hl⟩:=h;rw[← a4.o,Int.toNat_natCast,HU.o] at C;cases C;exact a5.o hl));refine Jl [(0,true),(1,true),(2,true),(3,true),(4,true),(5,true),(6,true),(7,true),(8,true),(9,true),(10,true),(11,true),(12,true),(13,true),(14,true),(15,true),(16,true),(17,true),(18,true),(19,true),(20,true),(21,true),(22,true),(23,true),(24,true),(25,true),(26,true),(27,true),(28,true),(29,true),(30,true),(31,true)] ?_;generalize i.drew=L at a ⊢;have c:=Z (f.o.1.trans (d.o.1.trans a));repeat(first|(refine Jw (h:=?_))|(refine Jc a (h:=?_)))
        refine Jg ?_;clear T U Q R a;go_wp2_with fail;try rw[Exit.noGoto_ret]
        refine bodyPost_ret (by simp[results,Tryz.results53,go_sem];rfl) rfl ?_;exact⟨_,rfl,c.o,.inr ⟨fun S h=>H.o ((q.o S).1 h).1,_,_,_,rfl⟩⟩
      ·have e2:decide (M < (p.vars.length:Int))=false:=decide_eq_false O;have a5:=Z O;have H:=Z (show ¬ Lv p n.var from fun h=>by(obtain⟨h0,z,C,hl⟩:=h;rw[← a4.o] at C;have:=(List.getElem?_eq_some_iff.1 C).1;have:=a5.o;omega));refine Jl [(0,true),(1,true),(2,true),(3,true),(4,true),(5,true),(6,true),(7,true),(8,true),(9,true),(10,true),(11,true),(12,true),(13,true),(14,true),(15,true),(16,true),(17,true),(18,true),(19,true),(20,true),(21,true),(22,true),(23,true),(24,true),(25,true),(26,true),(27,true),(28,true),(29,true),(30,true),(31,true)] ?_;generalize i.drew=L at a ⊢;have c:=Z (f.o.1.trans (d.o.1.trans a));repeat(first|(refine Jw (h:=?_))|(refine Jc a (h:=?_)))
       refine Jg ?_;clear T U Q R a;go_wp2_with fail;try rw[Exit.noGoto_ret]
       refine bodyPost_ret (by simp[results,Tryz.results53,go_sem];rfl) rfl ?_;exact⟨_,rfl,c.o,.inr ⟨fun S h=>H.o ((q.o S).1 h).1,_,_,_,rfl⟩⟩
     ·have e2:decide (0≤M)=false:=decide_eq_false h0;have a5:=Z h0;have H:=Z (show ¬ Lv p n.var from fun h=>a5.o (by rw[a4.o];exact h.1));refine Jl [(0,true),(1,true),(2,true),(3,true),(4,true),(5,true),(6,true),(7,true),(8,true),(9,true),(10,true),(11,true),(12,true),(13,true),(14,true),(15,true),(16,true),(17,true),(18,true),(19,true),(20,true),(21,true),(22,true),(23,true),(24,true),(25,true),(26,true),(27,true),(28,true),(29,true),(30,true),(31,true)] ?_;generalize i.drew=L at a ⊢;have c:=Z (f.o.1.trans (d.o.1.trans a));repeat(first|(refine Jw (h:=?_))|(refine Jc a (h:=?_)))
      refine Jg ?_;clear T U Q R a;go_wp2_with fail;try rw[Exit.noGoto_ret]
      refine bodyPost_ret (by simp[results,Tryz.results53,go_sem];rfl) rfl ?_;exact⟨_,rfl,c.o,.inr ⟨fun S h=>H.o ((q.o S).1 h).1,_,_,_,rfl⟩⟩
    ·obtain rfl:kd=2:=b2.o.trans y;have X:=Z y;clear y C;obtain rfl:M=n.var:=HX.o.var;obtain rfl:e4=n.pos:=HX.o.pos;have q:=Z (fun s=>Uo (p:=p) (n:=n) (t:=N) (s:=s) b0.o X.o);have q0:=(f.o.2.grow d.o.1).at 0 rfl;have q1:=(f.o.2.grow d.o.1).at 1 rfl;have d2:=d.o.2.at 2 rfl;have d3:=d.o.2.at 3 rfl;go_wp2_with fail;clear c0 c1 c2 c3 c4 c5 c6 G d0 d2 d3 q0 q1;generalize D.heap.size=bn at d ⊢;generalize D.alloc _=i at d ⊢;have c:=Z (f.o.1.trans d.o.1);refine(J0M i _ p n.var n.pos (HP.o.grow c.o) A.o.ok A.o.wh A.o.n (by have:=A.o.m;omega)).mono ?_;rintro _ E ⟨r3,rfl,g3,h3⟩;have c:=Z (c.o.trans g3);rcases h3 with⟨d9,a3,b3,rfl,ha,hb⟩|⟨a8,e,a6,rfl⟩;rotate_left
     ·have e8:(e == 0)=false:=by simpa using a6
      obtain⟨H,GA⟩:=Z2 (show ∀ S,¬ Jm p (n :: N) S from fun S h=>a8 (by obtain⟨P,k2,-⟩:=(q.o S).1 h;exact⟨P,k2⟩)) (c.o.trans ((Gr.refl E).alloc (.cells #[.slice none 0 0,.slice none 0 0] 25)));have GB:=Z (GA.o.trans ((Gr.refl _).alloc (.cells #[.slice none 0 0,.slice none 0 0] 25)));clear a8 a6 g3;go_wp2_with fail;try rw[Exit.noGoto_ret]
      refine bodyPost_ret (by simp[results,Tryz.results53,go_sem];rfl) rfl ?_;exact⟨_,rfl,GB.o,.inr ⟨H.o,_,_,_,rfl⟩⟩
     obtain⟨b4,HA,b1⟩:=Z3 (show(0≤n.var∧n.var < (p.vars.length:Int))∧(-1099511627776≤n.pos∧n.pos < 1099511627776) from d9) (ha.at g3) (hb.at g3);obtain⟨xa,ya,xb,yb,rfl,-,-⟩:=ha.at g3;obtain⟨e9,f1,f0,f2,rfl,-,-⟩:=hb.at g3;unfold prgV at HA b1 ⊢;clear d9 ha hb g3;go_wp2_with fail;have B7:=Ja.new E #[.slice xa (lowPart p n.var n.pos).vars.length ya,.slice xb (lowPart p n.var n.pos).rows.length yb] 25;have B8:=Ja.new (E.alloc (.cells #[.slice xa (lowPart p n.var n.pos).vars.length ya,.slice xb (lowPart p n.var n.pos).rows.length yb] 25)) #[.slice e9 (highPart p n.var n.pos).vars.length f1,.slice f0 (highPart p n.var n.pos).rows.length f2] 25;rw[World.size_alloc] at B8;have l:=Z (show Gr E _∧Ja _ _ _∧Ja _ _ _ from⟨B7.1.trans B8.1,B7.2.grow B8.1,B8.2⟩);clear B7 B8;generalize E.heap.size+1=b8 at l ⊢;generalize E.heap.size=b7 at l ⊢;generalize (E.alloc _).alloc _=I at l ⊢;have c:=Z (c.o.trans l.o.1);have a0:=fun w' (g:Gr I w')=>(l.o.2.1.grow g).at 0 rfl;have a1:=fun w' (g:Gr I w')=>(l.o.2.1.grow g).at 1 rfl;have a:Gr I I.drew:=(Gr.refl _).drew;refine Jl [(0,true),(1,true),(2,true),(3,false),(4,true),(5,true),(6,true),(7,true),(8,true)] ?_;generalize I.drew=L at a ⊢;repeat(refine Jc a (h:=?_))
     refine L7 (args:=?_) rfl rfl rfl rfl rfl rfl (by kernel_rfl) (by kernel_rfl) ?_ (fun K F=>?_);rotate_left
     ·go_simp;rfl
     refine(c9.o L _ (lowPart p n.var n.pos) N (some ⟨b,o+8,none⟩) (ct - 1) (nt - 1) (by have:=d1.o;simp at this;omega) b6.o (HA.o.grow (l.o.1.trans a)) (HR.o.grow (c.o.trans a)) ((A.o.low b4.o.2).less (Nat.le_succ _)) c8.o).mono ?_;rintro _ w5 ⟨r5,rfl,B,h5⟩;rcases h5 with⟨Y,V,_,c5,a2,rfl,rfl,J⟩|⟨J,V,m5,c5,rfl⟩;rotate_left
     ·have H:=Z (show ∀ S,¬ Jm p (n :: N) S from fun S h=>by
       obtain⟨-,-,S',k,-⟩:=(q.o S).1 h;exact J S' k)
      refine⟨_,rfl,B,?_⟩;go_simp;refine F _ _ ?_;clear F K;replace a:=a.trans B;clear B J;repeat(first|(refine Jw (h:=?_))|(refine Jc a (h:=?_)))
      refine Jg ?_;have c:=Z (c.o.trans a);clear a0 a1 a;go_wp2_with fail;try rw[Exit.noGoto_ret]
      refine bodyPost_ret (by simp[results,Tryz.results53,go_sem];rfl) rfl ?_;exact⟨_,rfl,c.o,.inr ⟨H.o,_,_,_,rfl⟩⟩
     obtain⟨H5,e7,b9⟩:=Z3 a2 J (Uq a2);refine⟨_,rfl,B,?_⟩;go_simp;refine F _ _ ?_;clear F K;replace a:=a.trans B;clear B a2 J;repeat(first|(refine Jw (h:=?_))|(refine Jc a (h:=?_)))
     refine Jg ?_;obtain⟨c,b1⟩:=Z2 (c.o.trans a) (b1.o.grow (l.o.1.trans a));have z0:=(l.o.2.2.grow a).at 0 rfl;have z1:=(l.o.2.2.grow a).at 1 rfl;clear a0 a1 a;go_wp2_with fail;clear z0 z1;refine(c9.o w5 _ (highPart p n.var n.pos) Y V c5 Y.length (by have O:=d1.o;have h2:=b9.o.1;simp at O;omega) rfl b1.o e7.o ((A.o.high b4.o.2).less (Nat.le_trans b9.o.1 (Nat.le_succ _))) (fun x hx=>c8.o x (b9.o.2 x hx))).mono ?_;rintro _ w7 ⟨r7,rfl,g7,h7⟩;have c:=Z (c.o.trans g7);rcases h7 with⟨S7,q7,_,G,e0,rfl,rfl,a7⟩|⟨a7,q7,m7,G,rfl⟩
     ·have H:=Z (show Nf p (n :: N) (.tuple #[.slice q7 S7.length G,.bool true]) w7 from .inl ⟨S7,q7,_,G,(q.o S7).2 ⟨b4.o.1,b4.o.2,Y,H5.o,e0⟩,rfl,rfl,a7⟩);clear e0 a7 g7;go_wp2_with fail;try rw[Exit.noGoto_ret]
      refine bodyPost_ret (by simp[results,Tryz.results53,go_sem];rfl) rfl ?_;exact⟨_,rfl,c.o,H.o⟩
     ·have H:=Z (show Nf p (n :: N) (.tuple #[.slice q7 m7 G,.bool false]) w7 from .inr ⟨fun S h=>by
       obtain⟨-,-,S',k,k'⟩:=(q.o S).1 h;rw[← Pm H5.o k] at k';exact a7 S k',q7,m7,G,rfl⟩)
      clear a7 g7;go_wp2_with fail;try rw[Exit.noGoto_ret]
      refine bodyPost_ret (by simp[results,Tryz.results53,go_sem];rfl) rfl ?_;exact⟨_,rfl,c.o,H.o⟩
    ·obtain rfl:kd=3:=b2.o.trans y;have X:=Z y;clear y C;have q:=Z (fun s=>Up (p:=p) (n:=n) (t:=N) (s:=s) b0.o X.o);have q0:=(f.o.2.grow d.o.1).at 0 rfl;have q1:=(f.o.2.grow d.o.1).at 1 rfl;have d4:=d.o.2.at 4 rfl;have d5:=d.o.2.at 5 rfl;have d6:=d.o.2.at 6 rfl;have d7:=d.o.2.at 7 rfl;go_wp2_with fail;clear c0 c1 c2 c3 c4 c5 c6 G d0 d4 d5 d6 d7 q0 q1;generalize D.heap.size=bn at d ⊢;generalize D.alloc _=i at d ⊢;have c:=Z (f.o.1.trans d.o.1);refine(J0J i _ _ p n.cut (HP.o.grow c.o) (HX.o.cut.grow c.o) a9.o.c a9.o.cs a9.o.v A.o.ok A.o.wh A.o.n (by have:=A.o.m;omega)).mono ?_;rintro _ E ⟨r3,rfl,g3,h3⟩;have c:=Z (c.o.trans g3);rcases h3 with⟨rs,pv,hd,rfl,hq⟩|⟨a8,e,a6,rfl⟩;rotate_left
     ·have e8:(e == 0)=false:=by simpa using a6
      have H:=Z (show ∀ S,¬ Jm p (n :: N) S from fun S h=>by
       obtain⟨r,P,-⟩:=(q.o S).1 h;exact a8 r P)
      have GA:=Z (c.o.trans ((Gr.refl E).alloc (.cells #[.slice none 0 0,.slice none 0 0] 25)));clear a8 a6 g3;go_wp2_with fail;try rw[Exit.noGoto_ret]
      refine bodyPost_ret (by simp[results,Tryz.results53,go_sem];rfl) rfl ?_;exact⟨_,rfl,GA.o,.inr ⟨H.o,_,_,_,rfl⟩⟩
     obtain⟨HD,HA⟩:=Z2 hd (hq.at g3);obtain⟨xa,ya,xb,yb,rfl,-,-⟩:=hq.at g3;unfold prgV at HA ⊢;clear hd hq g3;go_wp2_with fail;have B7:=Ja.new E #[.slice xa (addRow p rs).vars.length ya,.slice xb (addRow p rs).rows.length yb] 25;have l:=Z B7;clear B7;generalize E.heap.size=b7 at l ⊢;generalize E.alloc _=I at l ⊢;have c:=Z (c.o.trans l.o.1);have a0:=fun w' (g:Gr I w')=>(l.o.2.grow g).at 0 rfl;have a1:=fun w' (g:Gr I w')=>(l.o.2.grow g).at 1 rfl;have a:Gr I I.drew:=(Gr.refl _).drew;refine Jl [(0,true),(1,true),(2,true),(3,false),(4,true),(5,true),(6,true),(7,true)] ?_;generalize I.drew=L at a ⊢;repeat(refine Jc a (h:=?_))
     refine L7 (args:=?_) rfl rfl rfl rfl rfl rfl (by kernel_rfl) (by kernel_rfl) ?_ (fun K F=>?_);rotate_left
     ·go_simp;rfl
     refine(c9.o L _ (addRow p rs) N (some ⟨b,o+8,none⟩) (ct - 1) (nt - 1) (by have:=d1.o;simp at this;omega) b6.o (HA.o.grow (l.o.1.trans a)) (HR.o.grow (c.o.trans a)) (A.o.add HD.o) c8.o).mono ?_;rintro _ w5 ⟨r5,rfl,B,h5⟩;rcases h5 with⟨Y,V,_,c5,a2,rfl,rfl,J⟩|⟨J,V,m5,c5,rfl⟩
     ·have H:=Z (show Nf p (n :: N) (.tuple #[.slice V Y.length c5,.bool true]) w5 from .inl ⟨Y,V,_,c5,(q.o Y).2 ⟨rs,HD.o,a2⟩,rfl,rfl,J⟩);refine⟨_,rfl,B,?_⟩;go_simp;refine F _ _ ?_;clear F K;replace a:=a.trans B;clear B a2 J;repeat(first|(refine Jw (h:=?_))|(refine Jc a (h:=?_)))
      refine Jg ?_;have c:=Z (c.o.trans a);clear a0 a1 a;go_wp2_with fail;try rw[Exit.noGoto_ret]
      refine bodyPost_ret (by simp[results,Tryz.results53,go_sem];rfl) rfl ?_;exact⟨_,rfl,c.o,H.o⟩
     ·have H:=Z (show Nf p (n :: N) (.tuple #[.slice V m5 c5,.bool false]) w5 from .inr ⟨fun S h=>by
       obtain⟨r,P,k2⟩:=(q.o S).1 h;rw[← Q5 HD.o P] at k2;exact J S k2,V,m5,c5,rfl⟩)
      refine⟨_,rfl,B,?_⟩;go_simp;refine F _ _ ?_;clear F K;replace a:=a.trans B;clear B J;repeat(first|(refine Jw (h:=?_))|(refine Jc a (h:=?_)))
      refine Jg ?_;have c:=Z (c.o.trans a);clear a0 a1 a;go_wp2_with fail;try rw[Exit.noGoto_ret]
      refine bodyPost_ret (by simp[results,Tryz.results53,go_sem];rfl) rfl ?_;exact⟨_,rfl,c.o,H.o⟩
end Prf
end Go.Proofs.YtcjgimlcefhhmaaGreatDoor

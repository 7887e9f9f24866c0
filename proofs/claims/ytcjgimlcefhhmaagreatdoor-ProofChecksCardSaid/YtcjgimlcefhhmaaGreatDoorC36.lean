/- Texts: RatW. -/
import Derived.Test.YtcjgimlcefhhmaaGreatDoorC17
set_option linter.unusedVariables false
set_option linter.unusedSimpArgs false
set_option maxRecDepth 100000
set_option maxHeartbeats 12800000
namespace Go.Proofs.YtcjgimlcefhhmaaGreatDoor
open Go.RowKit Go.Lib
theorem IntC.validC (z:Int):(decide (trimL (digs z.natAbs)=digs z.natAbs) && !(decide (z < 0) && (digs z.natAbs).isEmpty))=true:=by
 have b:trimL (digs z.natAbs)=digs z.natAbs:=by rw[Lh,Jf]
 rw[b];by_cases d:z < 0
 ·have c:(digs z.natAbs).isEmpty=false:=by
   cases h:digs z.natAbs with
   | nil=>
    have:=Jf z.natAbs;rw[h] at this;simp[nval] at this;omega
   | cons a l=>rfl
  simp[c]
 ·simp[d]
theorem J6F {b:Bool}{a:List UInt8}(h:okI b a=true)(c:a.length≤200):(digs (valI b a).natAbs).length≤200:=by
 unfold okI at h;simp only[Bool.and_eq_true] at h;have e:(valI b a).natAbs=decVal a:=by unfold valI;cases b<;>simp
 rw[e];exact P9 (okT h.1).1 c
def Sl (bs xs cs:List UInt8)(ok:Bool):Prop:=(ok=true∧bs=xs ++ 47 :: cs∧∀ c ∈ xs,c≠47)∨(ok=false∧bs=xs∧cs=[]∧∀ c ∈ xs,c≠47)
theorem Yp:∀ (xs b:List UInt8),(∀ c ∈ xs,c≠47)→indexByte (xs ++ 47 :: b) 47=xs.length
 | [],b,_=>rfl
 | a :: xs,b,h=>by
  have i:=Yp xs b (fun c f=>h c (List.mem_cons_of_mem _ f));have d:(a == 47)=false:=by simpa using h a List.mem_cons_self
  show(if a == 47 then (0:Int) else if indexByte (xs ++ 47 :: b) 47 == -1 then -1 else indexByte (xs ++ 47 :: b) 47+1)=_;rw[d,i];have g:((xs.length:Int) == -1)=false:=by simp
  rw[g];simp
theorem Yq:∀ (xs:List UInt8),(∀ c ∈ xs,c≠47)→indexByte xs 47 = -1
 | [],_=>rfl
 | a :: xs,h=>by
  have f:=Yq xs (fun c d=>h c (List.mem_cons_of_mem _ d));have b:(a == 47)=false:=by simpa using h a List.mem_cons_self
  show(if a == 47 then (0:Int) else if indexByte xs 47 == -1 then -1 else indexByte xs 47+1)=_;rw[b,f];rfl
theorem J2C {b xs a:List UInt8}{c:Bool}(h:Sl b xs a c):Lib.cut b [47]=(xs,a,c):=by
 unfold Lib.cut;rw[index_one];rcases h with⟨rfl,rfl,h⟩|⟨rfl,rfl,rfl,h⟩
 ·rw[Yp xs a h,if_pos (by omega)];simp
 ·rw[Yq _ h,if_neg (by decide)]
theorem J6h (w:World)(a xs b:List UInt8)(c:Bool)(f:Sl a xs b c)(g:a.length≤200)(m:Int)(d:w.cell? ⟨2,0,none⟩=some (.int .i64 m)):
  Calls Tryz.prog 171 #[.string ⟨a.toArray⟩,.string ⟨#[47]⟩] w (Ret w fun r w'=>r = .tuple #[.string ⟨xs.toArray⟩,.string ⟨b.toArray⟩,.bool c]):=by
 refine(Tryz.strings_Cut ⟨a.toArray⟩ ⟨#[47]⟩ m w (by show a.toArray.size < _;simp;omega) d).mono ?_;rintro e w' ⟨rfl,n,rfl⟩;refine⟨_,rfl,(Gr.refl w).drewN n,?_⟩;have e:=J2C f;show Value.tuple #[.string ⟨(Lib.cut a.toArray.toList [47]).1.toArray⟩,.string ⟨(Lib.cut a.toArray.toList [47]).2.1.toArray⟩,.bool (Lib.cut a.toArray.toList [47]).2.2]=_;rw[show a.toArray.toList=a by simp,e]
def okQ (z:Int)(okz:Bool)(cs:List UInt8)(ok:Bool):Bool:=okz && (!ok || (okText cs && (decide (2≤decVal cs) && decide (Nat.gcd z.natAbs (decVal cs)=1))))
def valQ (z:Int)(cs:List UInt8)(ok:Bool):Rat:=if ok then mkRat z (decVal cs) else (z:Rat)
def Lz (t:Bool)(x:Rat)(r:Value)(w':World):Prop:=
 if t then ∃ v,r = .tuple #[v,.int .i64 0]∧RatC w' v x else r = .tuple #[.agg #[.bool false,.slice none 0 0,.slice none 0 0],.int .i64 3]
theorem Lz.bad {t:Bool}{x:Rat}{w:World}(h:t=false):Lz t x (.tuple #[.agg #[.bool false,.slice none 0 0,.slice none 0 0],.int .i64 3]) w:=by
 subst h;rfl
theorem Lz.good {t:Bool}{x:Rat}{v:Value}{w:World}(h:t=true)(a:RatC w v x):Lz t x (.tuple #[v,.int .i64 0]) w:=by
 subst h;exact⟨v,rfl,a⟩
theorem J47 {z:Int}{q:Nat}(a:q≠0)(h:Nat.gcd z.natAbs q=1):(mkRat z q).num=z∧(mkRat z q).den=q:=by
 rw[Qe z q a,Oq z q a,h];simp
theorem J0w (w:World)(bs xs K:List UInt8)(ok V:Bool)(L:List UInt8)(hs:Sl bs xs K ok)(hc:Cuts xs V L)(hl:bs.length≤200)(m:Int)(hm:w.cell? ⟨2,0,none⟩=some (.int .i64 m)):
  Calls Tryz.prog 116 #[.string ⟨bs.toArray⟩] w (Ret w fun r w'=>Lz (okQ (valI V L) (okI V L) K ok) (valQ (valI V L) K ok) r w'):=by
 obtain⟨HS,HC,HM⟩:=Z3 hs hc hm;have b2:xs.length≤200:=by
  rcases hs with⟨_,rfl,_⟩|⟨_,rfl,_,_⟩
  ·simp at hl;omega
  ·exact hl
 have c1:K.length≤200:=by
  rcases hs with⟨_,rfl,_⟩|⟨_,rfl,rfl,_⟩
  ·simp at hl;omega
  ·simp
 have c2:L.length≤200:=by
  rcases hc with⟨_,rfl⟩|⟨_,rfl,_⟩
  ·simp at b2;omega
  ·exact b2
 clear hs hc hm;have B:=box3 w (.bool false) (.slice none 0 0) (.slice none 0 0) 68;go_enter Tryz.func116,Tryz.ntmps116;go_wp2_with fail;generalize w.alloc _=W at B ⊢;obtain⟨G,a⟩:=hidC2 B;clear B;generalize b9:w.heap.size=F at a  ⊢;have X:=Z (show ¬ F < w.heap.size by omega);clear b9;refine(J6h W bs xs K ok HS.o hl m (G.o.cell HM.o)).mono ?_;rintro _ w1 ⟨_,rfl,g1,rfl⟩;obtain⟨G,a⟩:=Z2 (G.o.trans g1) (a.o.grow g1);clear g1;go_wp2_with fail;refine(J3K w1 xs V L HC.o (by omega)).mono ?_;rintro _ H ⟨r2,rfl,g2,E⟩;obtain⟨G,a⟩:=Z2 (G.o.trans g2) (a.o.grow g2);clear g2;obtain⟨z,hz⟩:∃ z,valI V L=z:=⟨_,rfl⟩
 have Hz:=Z hz;by_cases T:okI V L=true
 ·unfold Ly at E;rw[if_pos T,hz] at E;obtain⟨x,rfl,hx⟩:=E;obtain⟨b,b4,O⟩:=Z3 hx (show(digs z.natAbs).length≤200 by rw[← hz];exact J6F T c2) T;obtain⟨p,k,c,rfl⟩:=hx.agg;obtain⟨s,a7⟩:∃ s,decide (z < 0)=s:=⟨_,rfl⟩
  rw[a7] at b ⊢;have a9:=Z a7;clear hx T hz a7;have B:=box2 H (.bool s) (.slice p k c) 66
  cases ok
  ·have A:=Z (RatC.ofInt b.o);have f0:=(a.o.grow B.1).f0 0;have f1:=(a.o.grow B.1).f0 1;have f2:=(a.o.grow B.1).f0 2;have a6:F≠H.heap.size:=by have:=a.o.lt;omega
   have j:=Z B.1;have f:=(a.o.grow B.1).load.1;have g:=(a.o.grow B.1).load.2.1;have i:=(a.o.grow B.1).load.2.2;have d:=Z B.2;have C:=B.2.load.1;have D:=B.2.load.2;clear B;go_wp2_with fail;clear f0 f1 f2 a6;clear f g i C D;generalize H.heap.size=b1 at d ⊢;generalize H.alloc _=S at j d ⊢;obtain⟨G,a,b,A⟩:=Z4 (G.o.trans j.o) (a.o.grow j.o) (b.o.grow j.o) (A.o.grow j.o);have l:=upd3 S F (.bool s) (.slice p k c) (.slice none 0 0);obtain⟨b,A,a,G⟩:=Z4 (b.o.upd a.o.noInt l) (A.o.upd a.o.noInt l) (a.o.set (.bool s) (.slice p k c) (.slice none 0 0)) (G.o.three X.o (.bool s) (.slice p k c) (.slice none 0 0));clear l;generalize ((S.setCell _ _).setCell _ _).setCell _ _=W9 at G a b A ⊢;have f:=a.o.load.1;have g:=a.o.load.2.1;have i:=a.o.load.2.2;refine bodyPost_ret (by simp[results,Tryz.results116,go_sem,f,g,i];rfl) rfl ?_;exact⟨_,rfl,G.o,Lz.good (by unfold okQ;rw[O.o];rfl) (by show RatC _ _ (valQ _ _ false);rw[Hz.o];exact A.o)⟩
  ·have j:=Z B.1;have f:=(a.o.grow B.1).load.1;have g:=(a.o.grow B.1).load.2.1;have i:=(a.o.grow B.1).load.2.2;have d:=Z B.2;have C:=B.2.load.1;have D:=B.2.load.2;clear B;go_wp2_with fail;clear f g i C D;generalize H.heap.size=b1 at d ⊢;generalize H.alloc _=S at j d ⊢;obtain⟨G,a,b⟩:=Z3 (G.o.trans j.o) (a.o.grow j.o) (b.o.grow j.o);refine(Zt S K (by omega)).mono ?_;rintro _ N ⟨r4,rfl,g4,Y⟩;obtain⟨G,a,d,b⟩:=Z4 (G.o.trans g4) (a.o.grow g4) (d.o.grow g4) (b.o.grow g4);clear g4;by_cases U:okText K=true
   ·unfold Kw at Y;rw[if_pos U] at Y;obtain⟨y,rfl,hy⟩:=Y;obtain⟨q,hq⟩:∃ q,decVal K=q:=⟨_,rfl⟩
    rw[hq] at hy;obtain⟨u,a8,Hq,a0⟩:=Z4 hy (show(digs q).length≤200 by rw[← hq];exact P9 (okT U).1 c1) hq U;obtain⟨p',k',c',rfl,-⟩:=hy.slice;clear hy U hq;have o:=Z (show RatL N (.agg #[.bool s,.slice p k c,.slice p' k' c']) s (digs z.natAbs) (digs q) from⟨_,_,_,_,_,_,rfl,b.o.mag,u.o⟩);have B:=box3 N (.bool s) (.slice p k c) (.slice p' k' c') 68;have t0:=d.o.load.1;have t1:=d.o.load.2;have j:=Z B.1;have f:=(a.o.grow B.1).load.1;have g:=(a.o.grow B.1).load.2.1;have i:=(a.o.grow B.1).load.2.2;have C:=(d.o.grow B.1).load.1;have D:=(d.o.grow B.1).load.2;have n:=Z B.2;have P:=B.2.load.1;have Q:=B.2.load.2.1;have R:=B.2.load.2.2;clear B;go_wp2_with fail;clear t0 t1;clear f g i C D P Q R;generalize N.heap.size=b8 at n ⊢;generalize N.alloc _=W5 at j n ⊢;obtain⟨G,a,d,b,u,o⟩:=Z6 (G.o.trans j.o) (a.o.grow j.o) (d.o.grow j.o) (b.o.grow j.o) (u.o.grow j.o) (o.o.grow j.o);refine(Mn W5 2 (by decide)).mono ?_;rintro _ w6 ⟨r6,rfl,M,h6⟩;obtain⟨G,a,d,n,b,u,o⟩:=Z7 (G.o.trans M) (a.o.grow M) (d.o.grow M) (n.o.grow M) (b.o.grow M) (u.o.grow M) (o.o.grow M);clear M;have v:=Z h6;clear h6;obtain⟨cz,a5⟩:∃ c,cmpZ (q:Int) ((2:Nat):Int)=c:=⟨_,rfl⟩
    go_wp2_with fail;refine(Qf w6 _ _ q 2 200 1 cz (u.o.v a8.o) (v.o.v (by decide +kernel)) a5 (by decide) (by decide)).mono ?_;rintro _ w7 ⟨_,rfl,I,rfl⟩;obtain⟨G,a,d,n,b,u,o,v⟩:=Z8 (G.o.trans I) (a.o.grow I) (d.o.grow I) (n.o.grow I) (b.o.grow I) (u.o.grow I) (o.o.grow I) (v.o.grow I);clear I;by_cases E:2≤q
    ·have c0:¬ cz < 0:=by rw[← a5];unfold cmpZ;split<;>(try split)<;>omega
     obtain⟨t,ht⟩:∃ t,decide (Nat.gcd z.natAbs q=1)=t:=⟨_,rfl⟩
     obtain⟨HT,a4⟩:=Z2 ht E;have b3:=Z (show validQ s (digs z.natAbs) (digs q)=t from by
      rw[← ht,← a9.o];unfold validQ;have e1:=IntC.validC z;rw[e1,Vc,Jf,Jf];have e2:(digs q).isEmpty=false:=by
       cases h:digs q with
       | nil=>rw[Ka] at h;omega
       | cons _ _=>rfl
      rw[e2,decide_eq_true (show 1 < q by omega)];simp)
     clear a5 E;have f:=a.o.load.1;have g:=a.o.load.2.1;have i:=a.o.load.2.2;have C:=d.o.load.1;have D:=d.o.load.2;have P:=n.o.load.1;have Q:=n.o.load.2.1;have R:=n.o.load.2.2;go_wp2_with fail;refine(J0x w7 _ s _ _ t 200 o.o b4.o a8.o (by decide) b3.o).mono ?_;rintro _ w8 ⟨_,rfl,J,rfl⟩;clear f g i C D P Q R;obtain⟨G,a,d,n,b,u,o,v⟩:=Z8 (G.o.trans J) (a.o.grow J) (d.o.grow J) (n.o.grow J) (b.o.grow J) (u.o.grow J) (o.o.grow J) (v.o.grow J);clear J
     cases t
     ·clear ht;have f:=a.o.load.1;have a1:=a.o.f0 0;have g:=a.o.load.2.1;have a2:=a.o.f0 1;have i:=a.o.load.2.2;have a3:=a.o.f0 2;go_wp2_with fail;clear f a1 g a2 i a3;have l:=upd3 w8 F (.bool false) (.slice none 0 0) (.slice none 0 0);obtain⟨b,u,o,v,a,G⟩:=Z6 (b.o.upd a.o.noInt l) (u.o.upd a.o.noInt l) (o.o.upd a.o.noInt l) (v.o.upd a.o.noInt l) (a.o.set (.bool false) (.slice none 0 0) (.slice none 0 0)) (G.o.three X.o (.bool false) (.slice none 0 0) (.slice none 0 0));clear l;generalize ((w8.setCell _ _).setCell _ _).setCell _ _=W9 at G a b u o v ⊢;have f:=a.o.load.1;have g:=a.o.load.2.1;have i:=a.o.load.2.2;refine bodyPost_ret (by simp[results,Tryz.results116,go_sem,f,g,i];rfl) rfl ?_;exact⟨_,rfl,G.o,Lz.bad (by unfold okQ;rw[O.o,a0.o,Hq.o,Hz.o,HT.o];simp)⟩
     ·have hg:=of_decide_eq_true ht;have A:=Z (show RatC w8 (.agg #[.bool s,.slice p k c,.slice p' k' c']) (mkRat z q) by
       obtain⟨e1,e2⟩:=J47 (z:=z) (q:=q) (by have:=a4.o;omega) hg;unfold RatC;rw[e1,e2,a9.o];unfold dd;rw[if_neg (by have:=a4.o;omega)];exact o.o)
      clear ht hg;have f:=a.o.load.1;have a1:=a.o.f0 0;have g:=a.o.load.2.1;have a2:=a.o.f0 1;have i:=a.o.load.2.2;have a3:=a.o.f0 2;have P:=n.o.load.1;have b5:=n.o.f0 0;have Q:=n.o.load.2.1;have b6:=n.o.f0 1;have R:=n.o.load.2.2;have b7:=n.o.f0 2;go_wp2_with fail;clear f a1 g a2 i a3 P b5 Q b6 R b7;have l:=upd3 w8 F (.bool s) (.slice p k c) (.slice p' k' c');obtain⟨A,a,G⟩:=Z3 (A.o.upd a.o.noInt l) (a.o.set (.bool s) (.slice p k c) (.slice p' k' c')) (G.o.three X.o (.bool s) (.slice p k c) (.slice p' k' c'));clear l;generalize ((w8.setCell _ _).setCell _ _).setCell _ _=W9 at G a A ⊢;have f:=a.o.load.1;have g:=a.o.load.2.1;have i:=a.o.load.2.2;refine bodyPost_ret (by simp[results,Tryz.results116,go_sem,f,g,i];rfl) rfl ?_;exact⟨_,rfl,G.o,Lz.good (by unfold okQ;rw[O.o,a0.o,Hq.o,Hz.o,HT.o,decide_eq_true a4.o];rfl) (by show RatC _ _ (valQ _ _ true);unfold valQ;rw[Hz.o,Hq.o];exact A.o)⟩
    ·have c0:cz < 0:=by rw[← a5];unfold cmpZ;split<;>(try split)<;>omega
     have a4:=Z E;clear a5 E;have f:=a.o.load.1;have a1:=a.o.f0 0;have g:=a.o.load.2.1;have a2:=a.o.f0 1;have i:=a.o.load.2.2;have a3:=a.o.f0 2;go_wp2_with fail;clear f a1 g a2 i a3;have l:=upd3 w7 F (.bool false) (.slice none 0 0) (.slice none 0 0);obtain⟨b,u,o,v,a,G⟩:=Z6 (b.o.upd a.o.noInt l) (u.o.upd a.o.noInt l) (o.o.upd a.o.noInt l) (v.o.upd a.o.noInt l) (a.o.set (.bool false) (.slice none 0 0) (.slice none 0 0)) (G.o.three X.o (.bool false) (.slice none 0 0) (.slice none 0 0));clear l;generalize ((w7.setCell _ _).setCell _ _).setCell _ _=W9 at G a b u o v ⊢;have f:=a.o.load.1;have g:=a.o.load.2.1;have i:=a.o.load.2.2;refine bodyPost_ret (by simp[results,Tryz.results116,go_sem,f,g,i];rfl) rfl ?_;exact⟨_,rfl,G.o,Lz.bad (by unfold okQ;rw[O.o,a0.o,Hq.o,decide_eq_false a4.o];simp)⟩
   ·unfold Kw at Y;rw[if_neg U] at Y;subst Y;have a0:=Z U;clear U;have B:=box3 N (.bool s) (.slice p k c) (.slice none 0 0) 68;have f0:=(a.o.grow B.1).f0 0;have f1:=(a.o.grow B.1).f0 1;have f2:=(a.o.grow B.1).f0 2;have a6:F≠N.heap.size:=by have:=a.o.lt;omega
    have t0:=d.o.load.1;have t1:=d.o.load.2;have j:=Z B.1;have f:=(a.o.grow B.1).load.1;have g:=(a.o.grow B.1).load.2.1;have i:=(a.o.grow B.1).load.2.2;have C:=(d.o.grow B.1).load.1;have D:=(d.o.grow B.1).load.2;have n:=Z B.2;have P:=B.2.load.1;have Q:=B.2.load.2.1;have R:=B.2.load.2.2;clear B;go_wp2_with fail;clear f0 f1 f2 a6 t0 t1;clear f g i C D P Q R;generalize N.heap.size=b8 at n ⊢;generalize N.alloc _=W5 at j n ⊢;obtain⟨G,a,d,b⟩:=Z4 (G.o.trans j.o) (a.o.grow j.o) (d.o.grow j.o) (b.o.grow j.o);have l:=upd3 W5 F (.bool false) (.slice none 0 0) (.slice none 0 0);obtain⟨b,a,G⟩:=Z3 (b.o.upd a.o.noInt l) (a.o.set (.bool false) (.slice none 0 0) (.slice none 0 0)) (G.o.three X.o (.bool false) (.slice none 0 0) (.slice none 0 0));clear l;generalize ((W5.setCell _ _).setCell _ _).setCell _ _=W9 at G a b ⊢;have f:=a.o.load.1;have g:=a.o.load.2.1;have i:=a.o.load.2.2;refine bodyPost_ret (by simp[results,Tryz.results116,go_sem,f,g,i];rfl) rfl ?_;exact⟨_,rfl,G.o,Lz.bad (by unfold okQ;rw[O.o,Bool.eq_false_iff.2 a0.o];rfl)⟩
 ·unfold Ly at E;rw[if_neg T] at E;subst E;have O:=Z T;clear T;have B:=box2 H (.bool false) (.slice none 0 0) 66;have f0:=(a.o.grow B.1).f0 0;have f1:=(a.o.grow B.1).f0 1;have f2:=(a.o.grow B.1).f0 2;have a6:F≠H.heap.size:=by have:=a.o.lt;omega
  have j:=Z B.1;have f:=(a.o.grow B.1).load.1;have g:=(a.o.grow B.1).load.2.1;have i:=(a.o.grow B.1).load.2.2;have d:=Z B.2;have C:=B.2.load.1;have D:=B.2.load.2;clear B;go_wp2_with fail;clear f0 f1 f2 a6;clear f g i C D;generalize H.heap.size=b1 at d ⊢;generalize H.alloc _=S at j d ⊢;obtain⟨G,a⟩:=Z2 (G.o.trans j.o) (a.o.grow j.o);have l:=upd3 S F (.bool false) (.slice none 0 0) (.slice none 0 0);obtain⟨a,G⟩:=Z2 (a.o.set (.bool false) (.slice none 0 0) (.slice none 0 0)) (G.o.three X.o (.bool false) (.slice none 0 0) (.slice none 0 0));clear l;generalize ((S.setCell _ _).setCell _ _).setCell _ _=W9 at G a ⊢;have f:=a.o.load.1;have g:=a.o.load.2.1;have i:=a.o.load.2.2;refine bodyPost_ret (by simp[results,Tryz.results116,go_sem,f,g,i];rfl) rfl ?_;exact⟨_,rfl,G.o,Lz.bad (by unfold okQ;rw[Bool.eq_false_iff.2 O.o];rfl)⟩
end Go.Proofs.YtcjgimlcefhhmaaGreatDoor

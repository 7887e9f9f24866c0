/- Texts: RatW. -/
import Derived.Lib.IndexBytes
import Derived.Lib.IndexMore
import Derived.Test.YtcjgimlcefhhmaaGreatDoorU16
import Derived.Test.YtcjgimlcefhhmaaGreatDoorU18
import Derived.Test.YtcjgimlcefhhmaaGreatDoorU26
set_option linter.unusedVariables false
set_option linter.unusedSimpArgs false
set_option maxRecDepth 100000
set_option maxHeartbeats 12800000
namespace Go.Proofs.YtcjgimlcefhhmaaGreatDoor
open Go.RowKit Go.Lib
theorem IntC.validC (z:Int):(decide (trimL (digs z.natAbs)=digs z.natAbs) && !(decide (z < 0) && (digs z.natAbs).isEmpty))=true:=by
 have h1:trimL (digs z.natAbs)=digs z.natAbs:=by rw[K7,Je]
 rw[h1]
 by_cases hz:z < 0
 ·have h2:(digs z.natAbs).isEmpty=false:=by
   cases h:digs z.natAbs with
   | nil=>
    have:=Je z.natAbs
    rw[h] at this
    simp[nval] at this
    omega
   | cons a l=>rfl
  simp[h2]
 ·simp[hz]
theorem J6v {neg:Bool}{cs:List UInt8}(h:okI neg cs=true)(hl:cs.length≤200):(digs (valI neg cs).natAbs).length≤200:=by
 unfold okI at h
 simp only[Bool.and_eq_true] at h
 have e:(valI neg cs).natAbs=decVal cs:=by unfold valI;cases neg<;>simp
 rw[e]
 exact Pj (okT h.1).1 hl
def Sl (bs xs cs:List UInt8)(ok:Bool):Prop:=(ok=true∧bs=xs ++ 47 :: cs∧∀ c ∈ xs,c≠47)∨(ok=false∧bs=xs∧cs=[]∧∀ c ∈ xs,c≠47)
theorem X6:∀ (xs cs:List UInt8),(∀ c ∈ xs,c≠47)→indexByte (xs ++ 47 :: cs) 47=xs.length
 | [],cs,_=>rfl
 | a :: xs,cs,h=>by
  have ih:=X6 xs cs (fun c hc=>h c (List.mem_cons_of_mem _ hc))
  have ha:(a == 47)=false:=by simpa using h a List.mem_cons_self
  show(if a == 47 then (0:Int) else if indexByte (xs ++ 47 :: cs) 47 == -1 then -1 else indexByte (xs ++ 47 :: cs) 47+1)=_
  rw[ha,ih]
  have hn:((xs.length:Int) == -1)=false:=by simp
  rw[hn];simp
theorem X7:∀ (xs:List UInt8),(∀ c ∈ xs,c≠47)→indexByte xs 47 = -1
 | [],_=>rfl
 | a :: xs,h=>by
  have ih:=X7 xs (fun c hc=>h c (List.mem_cons_of_mem _ hc))
  have ha:(a == 47)=false:=by simpa using h a List.mem_cons_self
  show(if a == 47 then (0:Int) else if indexByte xs 47 == -1 then -1 else indexByte xs 47+1)=_
  rw[ha,ih];rfl
theorem J27 {bs xs cs:List UInt8}{ok:Bool}(h:Sl bs xs cs ok):Lib.cut bs [47]=(xs,cs,ok):=by
 unfold Lib.cut
 rw[index_one]
 rcases h with⟨rfl,rfl,h⟩|⟨rfl,rfl,rfl,h⟩
 ·rw[X6 xs cs h,if_pos (by omega)]
  simp
 ·rw[X7 _ h,if_neg (by decide)]
theorem J69 (w:World)(bs xs cs:List UInt8)(ok:Bool)(hs:Sl bs xs cs ok)(hl:bs.length≤200)(m:Int)(hm:w.cell? ⟨2,0,none⟩=some (.int .i64 m)):
  Calls Tryz.prog 171 #[.string ⟨bs.toArray⟩,.string ⟨#[47]⟩] w (Ret w fun r w'=>r = .tuple #[.string ⟨xs.toArray⟩,.string ⟨cs.toArray⟩,.bool ok]):=by
 refine(Tryz.strings_Cut ⟨bs.toArray⟩ ⟨#[47]⟩ m w (by show bs.toArray.size < _;simp;omega) hm).mono ?_
 rintro e w' ⟨rfl,n,rfl⟩
 refine⟨_,rfl,(Gr.refl w).drewN n,?_⟩
 have e:=J27 hs
 show Value.tuple #[.string ⟨(Lib.cut bs.toArray.toList [47]).1.toArray⟩,.string ⟨(Lib.cut bs.toArray.toList [47]).2.1.toArray⟩,.bool (Lib.cut bs.toArray.toList [47]).2.2]=_
 rw[show bs.toArray.toList=bs by simp,e]
def okQ (z:Int)(okz:Bool)(cs:List UInt8)(ok:Bool):Bool:=okz && (!ok || (okText cs && (decide (2≤decVal cs) && decide (Nat.gcd z.natAbs (decVal cs)=1))))
def valQ (z:Int)(cs:List UInt8)(ok:Bool):Rat:=if ok then mkRat z (decVal cs) else (z:Rat)
def Le (t:Bool)(x:Rat)(r:Value)(w':World):Prop:=
 if t then ∃ v,r = .tuple #[v,.int .i64 0]∧RatC w' v x else r = .tuple #[.agg #[.bool false,.slice none 0 0,.slice none 0 0],.int .i64 3]
theorem Le.bad {t:Bool}{x:Rat}{w:World}(h:t=false):Le t x (.tuple #[.agg #[.bool false,.slice none 0 0,.slice none 0 0],.int .i64 3]) w:=by
 subst h;rfl
theorem Le.good {t:Bool}{x:Rat}{v:Value}{w:World}(h:t=true)(hv:RatC w v x):Le t x (.tuple #[v,.int .i64 0]) w:=by
 subst h;exact⟨v,rfl,hv⟩
theorem J3R {z:Int}{q:Nat}(hq:q≠0)(h:Nat.gcd z.natAbs q=1):(mkRat z q).num=z∧(mkRat z q).den=q:=by
 rw[Po z q hq,N7 z q hq,h];simp
theorem J08 (w:World)(bs xs cs:List UInt8)(ok neg:Bool)(ds:List UInt8)(hs:Sl bs xs cs ok)(hc:Cuts xs neg ds)(hl:bs.length≤200)(m:Int)(hm:w.cell? ⟨2,0,none⟩=some (.int .i64 m)):
  Calls Tryz.prog 116 #[.string ⟨bs.toArray⟩] w (Ret w fun r w'=>Le (okQ (valI neg ds) (okI neg ds) cs ok) (valQ (valI neg ds) cs ok) r w'):=by
 have HS:=ξ hs
 have HC:=ξ hc
 have HM:=ξ hm
 have hal:xs.length≤200:=by
  rcases hs with⟨_,rfl,_⟩|⟨_,rfl,_,_⟩
  ·simp at hl;omega
  ·exact hl
 have hcl:cs.length≤200:=by
  rcases hs with⟨_,rfl,_⟩|⟨_,rfl,rfl,_⟩
  ·simp at hl;omega
  ·simp
 have hdl:ds.length≤200:=by
  rcases hc with⟨_,rfl⟩|⟨_,rfl,_⟩
  ·simp at hal;omega
  ·exact hal
 clear hs hc hm
 have B:=box3 w (.bool false) (.slice none 0 0) (.slice none 0 0) 68
 go_enter Tryz.func116,Tryz.ntmps116
 go_wp2_with fail
 generalize w.alloc _=W at B ⊢
 obtain⟨G0,t0⟩:=B
 generalize hb0:w.heap.size=b0 at t0  ⊢
 have Hb0:=ξ (show ¬ b0 < w.heap.size by omega)
 have G:=ξ G0
 have T0:=ξ t0
 clear hb0 G0 t0
 refine(J69 W bs xs cs ok HS.out hl m (G.out.cell HM.out)).mono ?_
 rintro _ w1 ⟨_,rfl,g1,rfl⟩
 have G:=ξ (G.out.trans g1)
 have T0:=ξ (T0.out.grow g1)
 clear g1
 go_wp2_with fail
 refine(J3t w1 xs neg ds HC.out (by omega)).mono ?_
 rintro _ w2 ⟨r2,rfl,g2,h2⟩
 have G:=ξ (G.out.trans g2)
 have T0:=ξ (T0.out.grow g2)
 clear g2
 obtain⟨z,hz⟩:∃ z,valI neg ds=z:=⟨_,rfl⟩
 have Hz:=ξ hz
 by_cases hok:okI neg ds=true
 ·unfold Ld at h2
  rw[if_pos hok,hz] at h2
  obtain⟨x,rfl,hx⟩:=h2
  have HX:=ξ hx
  have HXl:=ξ (show(digs z.natAbs).length≤200 by rw[← hz];exact J6v hok hdl)
  have Hok:=ξ hok
  obtain⟨p,k,c,rfl⟩:=hx.agg
  obtain⟨s,hsg⟩:∃ s,decide (z < 0)=s:=⟨_,rfl⟩
  rw[hsg] at HX ⊢
  have Hsg:=ξ hsg
  clear hx hok hz hsg
  have B:=box2 w2 (.bool s) (.slice p k c) 66
  cases ok
  ·have HV:=ξ (RatC.ofInt HX.out)
   have f0:=(T0.out.grow B.1).f0 0
   have f1:=(T0.out.grow B.1).f0 1
   have f2:=(T0.out.grow B.1).f0 2
   have hne:b0≠w2.heap.size:=by have:=T0.out.lt;omega
   have GB:=ξ B.1
   have T0_0:=(T0.out.grow B.1).load.1
   have T0_1:=(T0.out.grow B.1).load.2.1
   have T0_2:=(T0.out.grow B.1).load.2.2
   have T7:=ξ B.2
   have T7_0:=B.2.load.1
   have T7_1:=B.2.load.2
   clear B
   go_wp2_with fail
   clear f0 f1 f2 hne
   clear T0_0 T0_1 T0_2 T7_0 T7_1
   generalize w2.heap.size=b_T7 at T7 ⊢
   generalize w2.alloc _=W3 at GB T7 ⊢
   have G:=ξ (G.out.trans GB.out)
   have T0:=ξ (T0.out.grow GB.out)
   have HX:=ξ (HX.out.grow GB.out)
   have HV:=ξ (HV.out.grow GB.out)
   have hu:=upd3 W3 b0 (.bool s) (.slice p k c) (.slice none 0 0)
   have HX:=ξ (HX.out.upd T0.out.noInt hu)
   have HV:=ξ (HV.out.upd T0.out.noInt hu)
   have T0:=ξ (T0.out.set (.bool s) (.slice p k c) (.slice none 0 0))
   have G:=ξ (G.out.three Hb0.out (.bool s) (.slice p k c) (.slice none 0 0))
   clear hu
   generalize ((W3.setCell _ _).setCell _ _).setCell _ _=W9 at G T0 HX HV ⊢
   have T0_0:=T0.out.load.1
   have T0_1:=T0.out.load.2.1
   have T0_2:=T0.out.load.2.2
   refine bodyPost_ret (by simp[results,Tryz.results116,go_sem,T0_0,T0_1,T0_2];rfl) rfl ?_
   exact⟨_,rfl,G.out,Le.good (by unfold okQ;rw[Hok.out];rfl) (by show RatC _ _ (valQ _ _ false);rw[Hz.out];exact HV.out)⟩
  ·have GB:=ξ B.1
   have T0_0:=(T0.out.grow B.1).load.1
   have T0_1:=(T0.out.grow B.1).load.2.1
   have T0_2:=(T0.out.grow B.1).load.2.2
   have T7:=ξ B.2
   have T7_0:=B.2.load.1
   have T7_1:=B.2.load.2
   clear B
   go_wp2_with fail
   clear T0_0 T0_1 T0_2 T7_0 T7_1
   generalize w2.heap.size=b_T7 at T7 ⊢
   generalize w2.alloc _=W3 at GB T7 ⊢
   have G:=ξ (G.out.trans GB.out)
   have T0:=ξ (T0.out.grow GB.out)
   have HX:=ξ (HX.out.grow GB.out)
   refine(Y8 W3 cs (by omega)).mono ?_
   rintro _ w4 ⟨r4,rfl,g4,h4⟩
   have G:=ξ (G.out.trans g4)
   have T0:=ξ (T0.out.grow g4)
   have T7:=ξ (T7.out.grow g4)
   have HX:=ξ (HX.out.grow g4)
   clear g4
   by_cases hokc:okText cs=true
   ·unfold Km at h4
    rw[if_pos hokc] at h4
    obtain⟨y,rfl,hy⟩:=h4
    obtain⟨q,hq⟩:∃ q,decVal cs=q:=⟨_,rfl⟩
    rw[hq] at hy
    have HY:=ξ hy
    have HYl:=ξ (show(digs q).length≤200 by rw[← hq];exact Pj (okT hokc).1 hcl)
    have Hq:=ξ hq
    have Hokc:=ξ hokc
    obtain⟨p',k',c',rfl,-⟩:=hy.slice
    clear hy hokc hq
    have HR:=ξ (show RatL w4 (.agg #[.bool s,.slice p k c,.slice p' k' c']) s (digs z.natAbs) (digs q) from⟨_,_,_,_,_,_,rfl,HX.out.mag,HY.out⟩)
    have B:=box3 w4 (.bool s) (.slice p k c) (.slice p' k' c') 68
    have t0:=T7.out.load.1
    have t1:=T7.out.load.2
    have GB:=ξ B.1
    have T0_0:=(T0.out.grow B.1).load.1
    have T0_1:=(T0.out.grow B.1).load.2.1
    have T0_2:=(T0.out.grow B.1).load.2.2
    have T7_0:=(T7.out.grow B.1).load.1
    have T7_1:=(T7.out.grow B.1).load.2
    have T10:=ξ B.2
    have T10_0:=B.2.load.1
    have T10_1:=B.2.load.2.1
    have T10_2:=B.2.load.2.2
    clear B
    go_wp2_with fail
    clear t0 t1
    clear T0_0 T0_1 T0_2 T7_0 T7_1 T10_0 T10_1 T10_2
    generalize w4.heap.size=b_T10 at T10 ⊢
    generalize w4.alloc _=W5 at GB T10 ⊢
    have G:=ξ (G.out.trans GB.out)
    have T0:=ξ (T0.out.grow GB.out)
    have T7:=ξ (T7.out.grow GB.out)
    have HX:=ξ (HX.out.grow GB.out)
    have HY:=ξ (HY.out.grow GB.out)
    have HR:=ξ (HR.out.grow GB.out)
    refine(L3 W5 2 (by decide)).mono ?_
    rintro _ w6 ⟨r6,rfl,g6,h6⟩
    have G:=ξ (G.out.trans g6)
    have T0:=ξ (T0.out.grow g6)
    have T7:=ξ (T7.out.grow g6)
    have T10:=ξ (T10.out.grow g6)
    have HX:=ξ (HX.out.grow g6)
    have HY:=ξ (HY.out.grow g6)
    have HR:=ξ (HR.out.grow g6)
    clear g6
    have H6:=ξ h6
    clear h6
    obtain⟨cz,hcz⟩:∃ c,cmpZ (q:Int) ((2:Nat):Int)=c:=⟨_,rfl⟩
    go_wp2_with fail
    refine(Pp w6 _ _ q 2 200 1 cz (HY.out.v HYl.out) (H6.out.v (by decide +kernel)) hcz (by decide) (by decide)).mono ?_
    rintro _ w7 ⟨_,rfl,g7,rfl⟩
    have G:=ξ (G.out.trans g7)
    have T0:=ξ (T0.out.grow g7)
    have T7:=ξ (T7.out.grow g7)
    have T10:=ξ (T10.out.grow g7)
    have HX:=ξ (HX.out.grow g7)
    have HY:=ξ (HY.out.grow g7)
    have HR:=ξ (HR.out.grow g7)
    have H6:=ξ (H6.out.grow g7)
    clear g7
    by_cases h2:2≤q
    ·have hc0:¬ cz < 0:=by rw[← hcz];unfold cmpZ;split<;>(try split)<;>omega
     obtain⟨t,ht⟩:∃ t,decide (Nat.gcd z.natAbs q=1)=t:=⟨_,rfl⟩
     have HT:=ξ ht
     have h2':=ξ h2
     have HVl:=ξ (show validQ s (digs z.natAbs) (digs q)=t from by
      rw[← ht,← Hsg.out]
      unfold validQ
      have e1:=IntC.validC z
      rw[e1,Um,Je,Je]
      have e2:(digs q).isEmpty=false:=by
       cases h:digs q with
       | nil=>rw[J7] at h;omega
       | cons _ _=>rfl
      rw[e2,decide_eq_true (show 1 < q by omega)]
      simp)
     clear hcz h2
     have T0_0:=T0.out.load.1
     have T0_1:=T0.out.load.2.1
     have T0_2:=T0.out.load.2.2
     have T7_0:=T7.out.load.1
     have T7_1:=T7.out.load.2
     have T10_0:=T10.out.load.1
     have T10_1:=T10.out.load.2.1
     have T10_2:=T10.out.load.2.2
     go_wp2_with fail
     refine(J09 w7 _ s _ _ t 200 HR.out HXl.out HYl.out (by decide) HVl.out).mono ?_
     rintro _ w8 ⟨_,rfl,g8,rfl⟩
     clear T0_0 T0_1 T0_2 T7_0 T7_1 T10_0 T10_1 T10_2
     have G:=ξ (G.out.trans g8)
     have T0:=ξ (T0.out.grow g8)
     have T7:=ξ (T7.out.grow g8)
     have T10:=ξ (T10.out.grow g8)
     have HX:=ξ (HX.out.grow g8)
     have HY:=ξ (HY.out.grow g8)
     have HR:=ξ (HR.out.grow g8)
     have H6:=ξ (H6.out.grow g8)
     clear g8
     cases t
     ·clear ht
      have T0_0:=T0.out.load.1
      have T0_f0:=T0.out.f0 0
      have T0_1:=T0.out.load.2.1
      have T0_f1:=T0.out.f0 1
      have T0_2:=T0.out.load.2.2
      have T0_f2:=T0.out.f0 2
      go_wp2_with fail
      clear T0_0 T0_f0 T0_1 T0_f1 T0_2 T0_f2
      have hu:=upd3 w8 b0 (.bool false) (.slice none 0 0) (.slice none 0 0)
      have HX:=ξ (HX.out.upd T0.out.noInt hu)
      have HY:=ξ (HY.out.upd T0.out.noInt hu)
      have HR:=ξ (HR.out.upd T0.out.noInt hu)
      have H6:=ξ (H6.out.upd T0.out.noInt hu)
      have T0:=ξ (T0.out.set (.bool false) (.slice none 0 0) (.slice none 0 0))
      have G:=ξ (G.out.three Hb0.out (.bool false) (.slice none 0 0) (.slice none 0 0))
      clear hu
      generalize ((w8.setCell _ _).setCell _ _).setCell _ _=W9 at G T0 HX HY HR H6 ⊢
      have T0_0:=T0.out.load.1
      have T0_1:=T0.out.load.2.1
      have T0_2:=T0.out.load.2.2
      refine bodyPost_ret (by simp[results,Tryz.results116,go_sem,T0_0,T0_1,T0_2];rfl) rfl ?_
      exact⟨_,rfl,G.out,Le.bad (by unfold okQ;rw[Hok.out,Hokc.out,Hq.out,Hz.out,HT.out];simp)⟩
     ·have hg:=of_decide_eq_true ht
      have HV:=ξ (show RatC w8 (.agg #[.bool s,.slice p k c,.slice p' k' c']) (mkRat z q) by
       obtain⟨e1,e2⟩:=J3R (z:=z) (q:=q) (by have:=h2'.out;omega) hg
       unfold RatC
       rw[e1,e2,Hsg.out]
       unfold dd
       rw[if_neg (by have:=h2'.out;omega)]
       exact HR.out)
      clear ht hg
      have T0_0:=T0.out.load.1
      have T0_f0:=T0.out.f0 0
      have T0_1:=T0.out.load.2.1
      have T0_f1:=T0.out.f0 1
      have T0_2:=T0.out.load.2.2
      have T0_f2:=T0.out.f0 2
      have T10_0:=T10.out.load.1
      have T10_f0:=T10.out.f0 0
      have T10_1:=T10.out.load.2.1
      have T10_f1:=T10.out.f0 1
      have T10_2:=T10.out.load.2.2
      have T10_f2:=T10.out.f0 2
      go_wp2_with fail
      clear T0_0 T0_f0 T0_1 T0_f1 T0_2 T0_f2 T10_0 T10_f0 T10_1 T10_f1 T10_2 T10_f2
      have hu:=upd3 w8 b0 (.bool s) (.slice p k c) (.slice p' k' c')
      have HV:=ξ (HV.out.upd T0.out.noInt hu)
      have T0:=ξ (T0.out.set (.bool s) (.slice p k c) (.slice p' k' c'))
      have G:=ξ (G.out.three Hb0.out (.bool s) (.slice p k c) (.slice p' k' c'))
      clear hu
      generalize ((w8.setCell _ _).setCell _ _).setCell _ _=W9 at G T0 HV ⊢
      have T0_0:=T0.out.load.1
      have T0_1:=T0.out.load.2.1
      have T0_2:=T0.out.load.2.2
      refine bodyPost_ret (by simp[results,Tryz.results116,go_sem,T0_0,T0_1,T0_2];rfl) rfl ?_
      exact⟨_,rfl,G.out,Le.good (by unfold okQ;rw[Hok.out,Hokc.out,Hq.out,Hz.out,HT.out,decide_eq_true h2'.out];rfl) (by show RatC _ _ (valQ _ _ true);unfold valQ;rw[Hz.out,Hq.out];exact HV.out)⟩
    ·have hc0:cz < 0:=by rw[← hcz];unfold cmpZ;split<;>(try split)<;>omega
     have h2':=ξ h2
     clear hcz h2
     have T0_0:=T0.out.load.1
     have T0_f0:=T0.out.f0 0
     have T0_1:=T0.out.load.2.1
     have T0_f1:=T0.out.f0 1
     have T0_2:=T0.out.load.2.2
     have T0_f2:=T0.out.f0 2
     go_wp2_with fail
     clear T0_0 T0_f0 T0_1 T0_f1 T0_2 T0_f2
     have hu:=upd3 w7 b0 (.bool false) (.slice none 0 0) (.slice none 0 0)
     have HX:=ξ (HX.out.upd T0.out.noInt hu)
     have HY:=ξ (HY.out.upd T0.out.noInt hu)
     have HR:=ξ (HR.out.upd T0.out.noInt hu)
     have H6:=ξ (H6.out.upd T0.out.noInt hu)
     have T0:=ξ (T0.out.set (.bool false) (.slice none 0 0) (.slice none 0 0))
     have G:=ξ (G.out.three Hb0.out (.bool false) (.slice none 0 0) (.slice none 0 0))
     clear hu
     generalize ((w7.setCell _ _).setCell _ _).setCell _ _=W9 at G T0 HX HY HR H6 ⊢
     have T0_0:=T0.out.load.1
     have T0_1:=T0.out.load.2.1
     have T0_2:=T0.out.load.2.2
     refine bodyPost_ret (by simp[results,Tryz.results116,go_sem,T0_0,T0_1,T0_2];rfl) rfl ?_
     exact⟨_,rfl,G.out,Le.bad (by unfold okQ;rw[Hok.out,Hokc.out,Hq.out,decide_eq_false h2'.out];simp)⟩
   ·unfold Km at h4
    rw[if_neg hokc] at h4
    subst h4
    have Hokc:=ξ hokc
    clear hokc
    have B:=box3 w4 (.bool s) (.slice p k c) (.slice none 0 0) 68
    have f0:=(T0.out.grow B.1).f0 0
    have f1:=(T0.out.grow B.1).f0 1
    have f2:=(T0.out.grow B.1).f0 2
    have hne:b0≠w4.heap.size:=by have:=T0.out.lt;omega
    have t0:=T7.out.load.1
    have t1:=T7.out.load.2
    have GB:=ξ B.1
    have T0_0:=(T0.out.grow B.1).load.1
    have T0_1:=(T0.out.grow B.1).load.2.1
    have T0_2:=(T0.out.grow B.1).load.2.2
    have T7_0:=(T7.out.grow B.1).load.1
    have T7_1:=(T7.out.grow B.1).load.2
    have T10:=ξ B.2
    have T10_0:=B.2.load.1
    have T10_1:=B.2.load.2.1
    have T10_2:=B.2.load.2.2
    clear B
    go_wp2_with fail
    clear f0 f1 f2 hne t0 t1
    clear T0_0 T0_1 T0_2 T7_0 T7_1 T10_0 T10_1 T10_2
    generalize w4.heap.size=b_T10 at T10 ⊢
    generalize w4.alloc _=W5 at GB T10 ⊢
    have G:=ξ (G.out.trans GB.out)
    have T0:=ξ (T0.out.grow GB.out)
    have T7:=ξ (T7.out.grow GB.out)
    have HX:=ξ (HX.out.grow GB.out)
    have hu:=upd3 W5 b0 (.bool false) (.slice none 0 0) (.slice none 0 0)
    have HX:=ξ (HX.out.upd T0.out.noInt hu)
    have T0:=ξ (T0.out.set (.bool false) (.slice none 0 0) (.slice none 0 0))
    have G:=ξ (G.out.three Hb0.out (.bool false) (.slice none 0 0) (.slice none 0 0))
    clear hu
    generalize ((W5.setCell _ _).setCell _ _).setCell _ _=W9 at G T0 HX ⊢
    have T0_0:=T0.out.load.1
    have T0_1:=T0.out.load.2.1
    have T0_2:=T0.out.load.2.2
    refine bodyPost_ret (by simp[results,Tryz.results116,go_sem,T0_0,T0_1,T0_2];rfl) rfl ?_
    exact⟨_,rfl,G.out,Le.bad (by unfold okQ;rw[Hok.out,Bool.eq_false_iff.2 Hokc.out];rfl)⟩
 ·unfold Ld at h2
  rw[if_neg hok] at h2
  subst h2
  have Hok:=ξ hok
  clear hok
  have B:=box2 w2 (.bool false) (.slice none 0 0) 66
  have f0:=(T0.out.grow B.1).f0 0
  have f1:=(T0.out.grow B.1).f0 1
  have f2:=(T0.out.grow B.1).f0 2
  have hne:b0≠w2.heap.size:=by have:=T0.out.lt;omega
  have GB:=ξ B.1
  have T0_0:=(T0.out.grow B.1).load.1
  have T0_1:=(T0.out.grow B.1).load.2.1
  have T0_2:=(T0.out.grow B.1).load.2.2
  have T7:=ξ B.2
  have T7_0:=B.2.load.1
  have T7_1:=B.2.load.2
  clear B
  go_wp2_with fail
  clear f0 f1 f2 hne
  clear T0_0 T0_1 T0_2 T7_0 T7_1
  generalize w2.heap.size=b_T7 at T7 ⊢
  generalize w2.alloc _=W3 at GB T7 ⊢
  have G:=ξ (G.out.trans GB.out)
  have T0:=ξ (T0.out.grow GB.out)
  have hu:=upd3 W3 b0 (.bool false) (.slice none 0 0) (.slice none 0 0)
  have T0:=ξ (T0.out.set (.bool false) (.slice none 0 0) (.slice none 0 0))
  have G:=ξ (G.out.three Hb0.out (.bool false) (.slice none 0 0) (.slice none 0 0))
  clear hu
  generalize ((W3.setCell _ _).setCell _ _).setCell _ _=W9 at G T0 ⊢
  have T0_0:=T0.out.load.1
  have T0_1:=T0.out.load.2.1
  have T0_2:=T0.out.load.2.2
  refine bodyPost_ret (by simp[results,Tryz.results116,go_sem,T0_0,T0_1,T0_2];rfl) rfl ?_
  exact⟨_,rfl,G.out,Le.bad (by unfold okQ;rw[Bool.eq_false_iff.2 Hok.out];rfl)⟩
end Go.Proofs.YtcjgimlcefhhmaaGreatDoor

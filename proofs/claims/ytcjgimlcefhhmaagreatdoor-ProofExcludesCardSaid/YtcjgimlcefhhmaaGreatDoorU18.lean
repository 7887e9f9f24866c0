/- Texts: IntJ IntL IntK. -/
import Derived.Test.YtcjgimlcefhhmaaGreatDoorU9
import Derived.Test.YtcjgimlcefhhmaaGreatDoorU15
import Derived.Test.YtcjgimlcefhhmaaGreatDoorU16
import Derived.Test.YtcjgimlcefhhmaaGreatDoorU17
set_option linter.unusedVariables false
set_option linter.unusedSimpArgs false
set_option maxRecDepth 100000
set_option maxHeartbeats 12800000
namespace Go.Proofs.YtcjgimlcefhhmaaGreatDoor
open Go.RowKit Go.Lib
theorem okT {bs:List UInt8}(h:okText bs=true):bs.all isDig=true∧bs.length≤4000:=by
 unfold okText at h
 simp only[Bool.and_eq_true,decide_eq_true_eq,Bool.or_eq_true] at h
 exact⟨h.2,h.1.1.2⟩
def Cuts (bs:List UInt8)(neg:Bool)(cs:List UInt8):Prop:=(neg=true∧bs=45 :: cs)∨(neg=false∧bs=cs∧bs.head?≠some 45)
def okI (neg:Bool)(cs:List UInt8):Bool:=okText cs && !(neg && decide (cs=[48]))
def valI (neg:Bool)(cs:List UInt8):Int:=if neg then -(decVal cs:Int) else decVal cs
def Ld (neg:Bool)(cs:List UInt8)(r:Value)(w':World):Prop:=
 if okI neg cs then ∃ x,r = .tuple #[x,.int .i64 0]∧IntC w' x (valI neg cs) else r = .tuple #[.agg #[.bool false,.slice none 0 0],.int .i64 3]
theorem Ld.bad {neg:Bool}{cs:List UInt8}{w:World}(h:okI neg cs=false):Ld neg cs (.tuple #[.agg #[.bool false,.slice none 0 0],.int .i64 3]) w:=by
 unfold Ld;rw[h];rfl
theorem Ld.good {neg:Bool}{cs:List UInt8}{w:World}{x:Value}(h:okI neg cs=true)(hx:IntC w x (valI neg cs)):Ld neg cs (.tuple #[x,.int .i64 0]) w:=by
 unfold Ld;rw[if_pos h];exact⟨_,rfl,hx⟩
theorem J64 (w:World)(bs:List UInt8)(neg:Bool)(cs:List UInt8)(hs:Cuts bs neg cs)(hl:bs.length≤140737488355328):
  Calls Tryz.prog 267 #[.string ⟨bs.toArray⟩,.string ⟨#[45]⟩] w (Ret w fun r w'=>r = .tuple #[.string ⟨cs.toArray⟩,.bool neg]):=by
 have hp:Lib.hasPrefix bs [45]=neg:=by
  rcases hs with⟨rfl,rfl⟩|⟨rfl,rfl,h⟩
  ·simp[Lib.hasPrefix]
  ·cases bs with
   | nil=>rfl
   | cons c l=>
    have:c≠45:=by simpa using h
    show((45:UInt8) == c && List.isPrefixOf [] l)=false
    have h45:((45:UInt8) == c)=false:=by simpa using Ne.symm this
    rw[h45];rfl
 have HP:=ξ hp
 clear hp
 go_enter Tryz.func267,Tryz.ntmps267
 go_wp2_with fail
 refine(Tryz.stringslite_HasPrefix ⟨bs.toArray⟩ ⟨#[45]⟩ w).mono ?_
 rintro _ _ ⟨rfl,rfl⟩
 have h2:Lib.hasPrefix ((⟨bs.toArray⟩:ByteArray).data.toList) ((⟨#[45]⟩:ByteArray).data.toList)=neg:=HP.out
 rw[h2]
 clear h2
 rcases hs with⟨rfl,rfl⟩|⟨rfl,rfl,h⟩
 ·go_wp2_with fail
  go_ret2
  refine⟨_,rfl,Gr.refl _,?_⟩
  have e:(⟨(45 :: cs).toArray⟩:ByteArray).extract 1 (cs.length+1)=⟨cs.toArray⟩:=by rw[ByteArray.extract_mk];simp
  exact congrArg (fun x=>Value.tuple #[.string x,.bool true]) e
 ·go_wp2_with fail
  go_ret2
  exact⟨_,rfl,Gr.refl _,rfl⟩
theorem J66 (w:World)(bs:List UInt8)(neg:Bool)(cs:List UInt8)(hs:Cuts bs neg cs)(hl:bs.length≤140737488355328):
  Calls Tryz.prog 224 #[.string ⟨bs.toArray⟩,.string ⟨#[45]⟩] w (Ret w fun r w'=>r = .tuple #[.string ⟨cs.toArray⟩,.bool neg]):=by
 have H:=ξ (J64 w bs neg cs hs hl)
 clear hs
 go_enter Tryz.func224,Tryz.ntmps224
 go_wp2_with fail
 refine H.out.mono ?_
 rintro _ w1 ⟨_,rfl,g,rfl⟩
 go_wp2_with fail
 go_ret2
 exact⟨_,rfl,g,rfl⟩
theorem boxEnd {a w:World}{b:Nat}{s:Bool}{p:Option Addr}{k c:Nat}(g:Gr a w)(hb:¬ b < a.heap.size)(t:Two w b (.bool s) (.slice p k c))(u:Bool)(q:Option Addr)(m d:Nat):
  Gr a ((w.setCell ⟨b,0,none⟩ (.bool u)).setCell ⟨b,1,none⟩ (.slice q m d))∧Two ((w.setCell ⟨b,0,none⟩ (.bool u)).setCell ⟨b,1,none⟩ (.slice q m d)) b (.bool u) (.slice q m d)∧
  ∀ v z,IntC w v z→IntC ((w.setCell ⟨b,0,none⟩ (.bool u)).setCell ⟨b,1,none⟩ (.slice q m d)) v z:=
 ⟨g.two hb _ _,t.set _ _,fun v z h=>h.keepBox t _ _⟩
theorem J3t (w:World)(bs:List UInt8)(neg:Bool)(cs:List UInt8)(hs:Cuts bs neg cs)(hl:bs.length≤140737488355328):
  Calls Tryz.prog 172 #[.string ⟨bs.toArray⟩] w (Ret w fun r w'=>Ld neg cs r w'):=by
 have H:=ξ (fun W=>J66 W bs neg cs hs hl)
 have hcl:cs.length≤140737488355328:=by
  rcases hs with⟨_,rfl⟩|⟨_,rfl,_⟩
  ·simp at hl;omega
  ·exact hl
 have B:=boxed1 w (.bool false) (.slice none 0 0) 66
 clear hs
 have hb:¬ w.heap.size < w.heap.size:=Nat.lt_irrefl _
 go_enter Tryz.func172,Tryz.ntmps172
 go_wp2_with fail
 generalize w.alloc _=W at B ⊢
 obtain⟨G0,T0⟩:=B
 have Hb:=ξ hb
 generalize hbe:w.heap.size=b0 at T0 ⊢
 have Hbe:=ξ hbe
 have G:=ξ G0
 have T:=ξ T0
 clear G0 T0 hb hbe
 refine(H.out W).mono ?_
 rintro _ w1 ⟨_,rfl,g1,rfl⟩
 have G:=ξ (G.out.trans g1)
 have T:=ξ (T.out.grow g1)
 clear g1
 go_wp2_with fail
 refine(Y8 w1 cs hcl).mono ?_
 rintro _ w2 ⟨r2,rfl,g2,h2⟩
 have G:=ξ (G.out.trans g2)
 have T:=ξ (T.out.grow g2)
 clear g2
 by_cases hok:okText cs=true
 ·unfold Km at h2
  rw[if_pos hok] at h2
  obtain⟨x,rfl,hx⟩:=h2
  have HX:=ξ hx
  have Hok:=ξ hok
  clear hx hok
  by_cases hbad:neg=true∧cs=[48]
  ·obtain⟨rfl,rfl⟩:=hbad
   have c0:=T.out.load.1
   have c1:=T.out.load.2
   have f0:=T.out.f0 0
   have f1:=T.out.f0 1
   have E:=boxEnd G.out (by rw[Hbe.out];exact Nat.lt_irrefl _) T.out false none 0 0
   go_wp2_with fail
   generalize (w2.setCell _ _).setCell _ _=W9 at E ⊢
   obtain⟨gE,tE,_⟩:=E
   have x0:=tE.load.1
   have x1:=tE.load.2
   refine bodyPost_ret (v:=.tuple #[.agg #[.bool false,.slice none 0 0],.int .i64 3]) (by simp[results,Tryz.results172,go_sem,x0,x1]) rfl ?_
   exact⟨_,rfl,gE,Ld.bad (by unfold okI;simp)⟩
  ·have hgood:okI neg cs=true:=by
    unfold okI
    rw[Hok.out]
    cases neg
    ·rfl
    ·have:¬ cs=[48]:=fun e=>hbad ⟨rfl,e⟩
     simp[this]
   have Hgood:=ξ hgood
   clear hgood
   have hsg:=fun W (h:NatL W x (digs (decVal cs)))=>Mf W neg x (decVal cs) (valI neg cs) h (Nat.le_trans (Pj (okT Hok.out).1 (okT Hok.out).2) (by decide)) rfl
   have Hsg:=ξ hsg
   clear hsg
   have hne:neg=true→¬ cs=[48]:=fun e1 e2=>hbad ⟨e1,e2⟩
   clear hbad
   cases neg
   ·clear hne
    go_wp2_with fail
    refine(Hsg.out _ HX.out).mono ?_
    rintro _ w3 ⟨r3,rfl,g3,h3⟩
    have h3':=ξ h3
    obtain⟨p3,k3,c3,rfl,_⟩:=h3
    have G:=ξ (G.out.trans g3)
    have T:=ξ (T.out.grow g3)
    have c0:=T.out.load.1
    have c1:=T.out.load.2
    have f0:=T.out.f0 0
    have f1:=T.out.f0 1
    obtain⟨sg,hsg⟩:∃ sg,decide (valI false cs < 0)=sg:=⟨_,rfl⟩
    rw[hsg] at h3' ⊢
    have E:=boxEnd G.out (by rw[Hbe.out];exact Nat.lt_irrefl _) T.out sg p3 k3 c3
    clear hsg
    go_wp2_with fail
    generalize (w3.setCell _ _).setCell _ _=W9 at E ⊢
    obtain⟨gE,tE,kE⟩:=E
    have x0:=tE.load.1
    have x1:=tE.load.2
    refine bodyPost_ret (v:=.tuple #[.agg #[.bool sg,.slice p3 k3 c3],.int .i64 0]) (by simp[results,Tryz.results172,go_sem,x0,x1]) rfl ?_
    exact⟨_,rfl,gE,Ld.good Hgood.out (kE _ _ h3'.out)⟩
   ·have hne2:(cs == [48])=false:=by simpa using hne rfl
    clear hne
    go_wp2_with fail
    refine(Hsg.out _ HX.out).mono ?_
    rintro _ w3 ⟨r3,rfl,g3,h3⟩
    have h3':=ξ h3
    obtain⟨p3,k3,c3,rfl,_⟩:=h3
    have G:=ξ (G.out.trans g3)
    have T:=ξ (T.out.grow g3)
    have c0:=T.out.load.1
    have c1:=T.out.load.2
    have f0:=T.out.f0 0
    have f1:=T.out.f0 1
    obtain⟨sg,hsg⟩:∃ sg,decide (valI true cs < 0)=sg:=⟨_,rfl⟩
    rw[hsg] at h3' ⊢
    have E:=boxEnd G.out (by rw[Hbe.out];exact Nat.lt_irrefl _) T.out sg p3 k3 c3
    clear hsg
    go_wp2_with fail
    generalize (w3.setCell _ _).setCell _ _=W9 at E ⊢
    obtain⟨gE,tE,kE⟩:=E
    have x0:=tE.load.1
    have x1:=tE.load.2
    refine bodyPost_ret (v:=.tuple #[.agg #[.bool sg,.slice p3 k3 c3],.int .i64 0]) (by simp[results,Tryz.results172,go_sem,x0,x1]) rfl ?_
    exact⟨_,rfl,gE,Ld.good Hgood.out (kE _ _ h3'.out)⟩
 ·unfold Km at h2
  rw[if_neg hok] at h2
  subst h2
  have c0:=T.out.load.1
  have c1:=T.out.load.2
  have f0:=T.out.f0 0
  have f1:=T.out.f0 1
  have E:=boxEnd G.out (by rw[Hbe.out];exact Nat.lt_irrefl _) T.out false none 0 0
  go_wp2_with fail
  generalize (w2.setCell _ _).setCell _ _=W9 at E ⊢
  obtain⟨gE,tE,_⟩:=E
  have x0:=tE.load.1
  have x1:=tE.load.2
  refine bodyPost_ret (v:=.tuple #[.agg #[.bool false,.slice none 0 0],.int .i64 3]) (by simp[results,Tryz.results172,go_sem,x0,x1]) rfl ?_
  exact⟨_,rfl,gE,Ld.bad (by unfold okI;simp[hok])⟩
theorem Yd (w:World)(va:Value)(z:Int)(L:Nat)(s:List UInt8)(ha:IntC w va z)(hlen:(digs z.natAbs).length≤L)(hL:L≤4000)(htab:Tab w)(hs:(if z < 0 then 45 :: decDigits z.natAbs else decDigits z.natAbs)=s):
  Calls Tryz.prog 181 #[va] w (Ret w fun r w'=>r = .string ⟨s.toArray⟩):=by
 have HS:=ξ hs
 clear hs
 have HA0:=ξ ha
 have HT:=ξ htab
 obtain⟨p,k,c,rfl,hm⟩:=ha
 have HM:=ξ hm
 have B:=boxed1 w (.bool (decide (z < 0))) (.slice p k c) 66
 have HL:=ξ hlen
 clear hm htab hlen
 obtain⟨sg,hsg⟩:∃ sg,decide (z < 0)=sg:=⟨_,rfl⟩
 have Hsg:=ξ hsg
 rw[hsg] at HA0 B ⊢
 clear hsg
 go_enter Tryz.func181,Tryz.ntmps181
 go_wp2_with fail
 generalize w.alloc _=W at B ⊢
 obtain⟨G0,T0⟩:=B
 generalize w.heap.size=b0 at T0 ⊢
 have G:=ξ G0
 have T:=ξ T0
 have c0:=T0.c0 W (Gr.refl _)
 have c1:=T0.c1 W (Gr.refl _)
 clear G0 T0
 go_wp2_with fail
 have hsig:sgn (zval sg (digs z.natAbs))=sgn z:=by rw[← Hsg.out,J6Y]
 obtain⟨sz,hsz⟩:∃ sz,sgn z=sz:=⟨_,rfl⟩
 rw[hsz] at hsig
 refine(Pn _ _ sg _ sz hsig ((show IntL w (.agg #[.bool sg,.slice p k c]) sg (digs z.natAbs) from by have h:=HA0.out;unfold IntC at h;rw[Hsg.out] at h;exact h).grow G.out) (Nat.le_trans HL.out (Nat.le_trans hL (by decide)))).mono ?_
 rintro _ w1 ⟨_,rfl,g1,rfl⟩
 have c0:=T.out.c0 w1 g1
 have c1:=T.out.c1 w1 g1
 have G1:=ξ (G.out.trans g1)
 clear g1 hsig
 by_cases hz:z < 0
 ·have:sz = -1:=by rw[← hsz];unfold sgn;rw[if_pos hz]
  subst this
  have Hz:=ξ hz
  clear hsz
  go_wp2_with fail
  refine(Th _ _ _ (HM.out.grow G1.out) (Nat.le_trans HL.out (Nat.le_trans hL (by decide))) (HT.out.grow G1.out)).mono ?_
  rintro _ w2 ⟨_,rfl,g2,rfl⟩
  rw[Je]
  obtain⟨tx,htx⟩:∃ tx,decDigits z.natAbs=tx:=⟨_,rfl⟩
  have hb:tx.length≤40001:=by
   rw[← htx]
   exact Nat.le_trans (Qi (L:=L) (Kl HL.out)) (by omega)
  have Htx:=ξ htx
  have hcat:=ξ (ByteArray.mk_append_mk [45] tx)
  rw[htx]
  clear htx
  go_wp2_with fail
  go_ret
  refine⟨_,rfl,G1.out.trans g2,?_⟩
  have hz:=Hz.out
  rw[← HS.out,if_pos (by omega),Htx.out]
  exact congrArg Value.string hcat.out
 ·have h0:¬ sz < 0:=by rw[← hsz];unfold sgn;rw[if_neg hz];split<;>omega
  have Hz:=ξ hz
  clear hsz hz
  go_wp2_with fail
  refine(Th _ _ _ (HM.out.grow G1.out) (Nat.le_trans HL.out (Nat.le_trans hL (by decide))) (HT.out.grow G1.out)).mono ?_
  rintro _ w2 ⟨_,rfl,g2,rfl⟩
  rw[Je]
  go_wp2_with fail
  go_ret
  refine⟨_,rfl,G1.out.trans g2,?_⟩
  have hz:=Hz.out
  rw[← HS.out,if_neg (by omega)]
  rfl
theorem J3v (w:World)(va:Value)(n:Bool)(l:List Nat)(t:Bool)(ha:IntL w va n l)(hl:l.length≤1000000)(ht:(decide (trimL l=l) && !(n && l.isEmpty))=t):
  Calls Tryz.prog 178 #[va] w (Ret w fun r w'=>r = .bool t):=by
 obtain⟨p,k,c,rfl,hm⟩:=ha
 have HM:=ξ hm
 have HT:=ξ ht
 have hk:=hm.len
 have Hk:=ξ hk
 have hk1:k≤1000000:=by rw[← hk];exact hl
 have B:=boxed1 w (.bool n) (.slice p k c) 66
 clear hm ht hk
 go_enter Tryz.func178,Tryz.ntmps178
 go_wp2_with fail
 generalize w.alloc _=W at B ⊢
 obtain⟨G0,T0⟩:=B
 generalize w.heap.size=b0 at T0 ⊢
 have G:=ξ G0
 have T:=ξ T0
 have c0:=T0.c0 W (Gr.refl _)
 have c1:=T0.c1 W (Gr.refl _)
 clear G0 T0
 go_wp2_with fail
 obtain⟨v,hv⟩:∃ v,decide (trimL l=l)=v:=⟨_,rfl⟩
 have HV:=ξ hv
 refine(Za W _ l (HM.out.grow G.out) (by omega)).mono ?_
 rintro _ _ ⟨rfl,rfl⟩
 rw[hv]
 clear hv
 have ht:=HT.out
 rw[HV.out] at ht
 cases v
 ·have ht2:t=false:=by rw[← ht];rfl
  subst ht2
  clear ht
  go_wp2_with fail
  go_ret
  exact⟨_,rfl,G.out,rfl⟩
 ·cases n
  ·have ht2:t=true:=by rw[← ht];rfl
   subst ht2
   clear ht
   go_wp2_with fail
   go_ret
   exact⟨_,rfl,G.out,rfl⟩
  ·by_cases h0:k=0
   ·have ht2:t=false:=by
     have:l=[]:=List.eq_nil_of_length_eq_zero (by have:=Hk.out;omega)
     rw[← ht,this];rfl
    subst ht2
    subst h0
    clear ht
    go_wp2_with fail
    go_ret
    exact⟨_,rfl,G.out,rfl⟩
   ·have ht2:t=true:=by
     have:l.isEmpty=false:=by cases l with
      | nil=>have:=Hk.out;simp at this;omega
      | cons _ _=>rfl
     rw[← ht,this];rfl
    subst ht2
    clear ht
    have hk0:0 < k:=by omega
    go_wp2_with fail
    go_ret
    exact⟨_,rfl,G.out,rfl⟩
end Go.Proofs.YtcjgimlcefhhmaaGreatDoor

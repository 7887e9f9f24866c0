/- Texts: PxC PxD PxE PxF PxG. -/
import Derived.Test.YtcjgimlcefhhmaaGreatDoorU23
import Derived.Test.YtcjgimlcefhhmaaGreatDoorU39
import Derived.Test.YtcjgimlcefhhmaaGreatDoorU44
import Derived.Test.YtcjgimlcefhhmaaGreatDoorU45
set_option linter.unusedVariables false
set_option linter.unusedSimpArgs false
set_option maxRecDepth 100000
set_option maxHeartbeats 12800000
namespace Go.Proofs.YtcjgimlcefhhmaaGreatDoor
namespace Prf
open Go.RowKit Go.Lib
def OneW (s:List UInt8)(z:Int):Prop:=s=[49]∧z=1∨s=[45,49]∧z = -1
theorem J4P (w:World)(s:List UInt8)(z:Int)(h:OneW s z)(m:Int)(hm:w.cell? ⟨2,0,none⟩=some (.int .i64 m)):
  Calls Tryz.prog 116 #[.string ⟨s.toArray⟩] w (Ret w fun r w'=>∃ u:RatM,r = .tuple #[u.v,.int .i64 0]∧RatC w' u.v (z:Rat)):=by
 rcases h with⟨rfl,rfl⟩|⟨rfl,rfl⟩
 ·refine(J08 w [49] [49] [] false false [49] (.inr ⟨rfl,rfl,rfl,by decide⟩) (.inr ⟨rfl,rfl,by decide⟩) (by decide) m hm).mono ?_
  rintro _ w1 ⟨r,rfl,g,hr⟩
  have e1:okQ (valI false [49]) (okI false [49]) [] false=true:=by decide +kernel
  unfold Le at hr
  rw[if_pos e1] at hr
  obtain⟨v,rfl,hv⟩:=hr
  have e2:valQ (valI false [49]) [] false=((1:Int):Rat):=by decide +kernel
  rw[e2] at hv
  obtain⟨u,rfl,hu⟩:=Pv hv
  exact⟨_,rfl,g,u,rfl,hu⟩
 ·refine(J08 w [45,49] [45,49] [] false true [49] (.inr ⟨rfl,rfl,rfl,by decide⟩) (.inl ⟨rfl,rfl⟩) (by decide) m hm).mono ?_
  rintro _ w1 ⟨r,rfl,g,hr⟩
  have e1:okQ (valI true [49]) (okI true [49]) [] false=true:=by decide +kernel
  unfold Le at hr
  rw[if_pos e1] at hr
  obtain⟨v,rfl,hv⟩:=hr
  have e2:valQ (valI true [49]) [] false=((-1:Int):Rat):=by decide +kernel
  rw[e2] at hv
  obtain⟨u,rfl,hu⟩:=Pv hv
  exact⟨_,rfl,g,u,rfl,hu⟩
def OffA (p:Option Addr)(r:Nat):Prop:=∀ a,p=some a→a.block≠r
theorem SlL.updA {α:Type}{enc:α→List Value}{sz:Nat}{w w':World}{p:Option Addr}{n c r:Nat}{l:List α}(h:SlL w sz enc (.slice p n c) l)(hu:Upd r w w')(ho:OffA p r):SlL w' sz enc (.slice p n c) l:=by
 obtain⟨h0,p',c',hv,h1,h2,h3⟩:=h
 cases hv
 refine⟨h0,p,c,rfl,h1,h2,?_⟩
 rcases h3 with h3|⟨b,o,hp,hc⟩
 ·exact .inl h3
 ·refine .inr ⟨b,o,hp,fun j u hj=>?_⟩
  have:=hc j u hj
  unfold World.cell? at this ⊢
  rw[show(⟨b,o+j,none⟩:Addr).block=b from rfl] at this ⊢
  rw[hu b (ho _ hp)]
  exact this
theorem J2D:∀ x,∀ u ∈ encRat x,u.oneCell'=true:=fun x u hu=>by
 simp[encRat] at hu
 rcases hu with rfl|rfl|rfl<;>rfl
theorem Zh {w:World}{b:Nat}{a:Option Addr}{n c:Nat}{t:Bool}(h:Ja w b #[.slice a n c,.bool t]):Ki w b:=by
 obtain⟨ty,h⟩:=h
 refine⟨_,ty,h,fun i k z hi=>?_⟩
 match i with
 | 0=>simp at hi
 | 1=>simp at hi
 | i+2=>simp at hi
def U1 (w W:World)(br:Nat)(wv:Value)(z:Int)(k:Nat)(v:Value):Prop:=
 w.grownBy W (some br)∧Ja W br #[wv,.bool false]∧((k=0∧v = .slice none 0 0∧Gr w W)∨(k=1∧∃ p c u,v = .slice p 1 c∧(∀ a,p=some a→w.heap.size≤a.block)∧SlL W 3 encRat (.slice p 1 c) [u]∧RatC W u.v (z:Rat)))
theorem J5o (w:World)(br bw o c:Nat)(s:List UInt8)(z:Int)(hz:OneW s z)(m:Int)(hm:w.cell? ⟨2,0,none⟩=some (.int .i64 m))(hr:Ja w br #[.slice (some ⟨bw,o,none⟩) 1 c,.bool false])(hs:w.cell? ⟨bw,o,none⟩=some (.string ⟨s.toArray⟩)):
  Calls Tryz.prog 63 #[.pointer (some ⟨br,0,none⟩)] w (fun e w'=>∃ p c' u,e = .returned (.slice p 1 c')∧(∀ a,p=some a→w.heap.size≤a.block)∧w.grownBy w' (some br)∧Ja w' br #[.slice none 0 0,.bool false]∧SlL w' 3 encRat (.slice p 1 c') [u]∧RatC w' u.v (z:Rat)):=by
 have HR:=ξ hr
 have HM:=ξ hm
 have HZ:=ξ hz
 have HS:=ξ hs
 have r0:w.cell? ⟨br,0,none⟩=some (.slice (some ⟨bw,o,none⟩) 1 c):=hr.at 0 rfl
 clear hr hm hz hs
 go_enter Tryz.func63,Tryz.ntmps63
 go_wp2_with fail
 clear r0
 go_loopw [3,13] (fun v i w9=>∃ (k:Nat) (W1:World),W1=w9∧i = .int .i64 (k:Int)∧k≤1∧U1 w W1 br (.slice (some ⟨bw,o,none⟩) 1 c) z k v) (fun _ i _=>1 - (RowKit.intOf i).toNat)
 case atStart=>exact⟨0,_,rfl,rfl,by omega,Xz w br,HR.out,.inl ⟨rfl,rfl,Gr.refl w⟩⟩
 case round=>
  obtain⟨k,W1,rfl,rfl,hk,hg,hc,h⟩:=hrel
  rcases h with⟨rfl,rfl,h0⟩|⟨rfl,p,c',u,rfl,hoff,h1,h2⟩
  ·have hs:=h0.cell HS.out
   have HG0:=ξ h0
   clear hg hc h0
   go_wp2_with fail
   clear hs
   refine(J4P W1 s z HZ.out m (HG0.out.cell HM.out)).mono ?_
   rintro _ w2 ⟨r2,rfl,g2,u,rfl,hu⟩
   have HU:=ξ hu
   have G2:=ξ (HG0.out.trans g2)
   clear g2 hu
   have C3:=Ja.new w2 #[.bool u.n,.slice u.p u.k u.c,.slice u.q u.m u.e] 68
   obtain⟨W3,hW3⟩:∃ z,w2.alloc (.cells #[.bool u.n,.slice u.p u.k u.c,.slice u.q u.m u.e] 68)=z:=⟨_,rfl⟩
   rw[hW3] at C3
   have HR3:=HR.out.grow (G2.out.trans C3.1)
   have r1:W3.cell? ⟨br,1,none⟩=some (.bool false):=HR3.at 1 rfl
   have f1:=Ja.f HR3 1
   obtain⟨W4,hW4⟩:∃ z,W3.setCell ⟨br,1,none⟩ (.bool false)=z:=⟨_,rfl⟩
   have hu4:Upd br W3 W4:=by rw[← hW4];exact J8 W3 br 1 _
   have HR4:=ξ (show Ja W4 br #[.slice (some ⟨bw,o,none⟩) 1 c,.bool false] from by
    have:=HR3.set 1 (.bool false)
    rw[hW4] at this
    simpa using this)
   have hbr:br < w2.heap.size:=(HR.out.grow G2.out).lt
   have C4:=ξ (C3.2.upd hu4 (by omega))
   have HU4:=ξ ((HU.out.grow C3.1).upd (Zh HR3) hu4)
   have HG4:=ξ (show _ from J9 (J5 br (G2.out.trans C3.1)) (hW4 ▸ Jl.set br W3 1 (.bool false):W3.grownBy W4 (some br)))
   have d0:=C4.out.at 0 rfl
   have d1:=C4.out.at 1 rfl
   have d2:=C4.out.at 2 rfl
   clear HR3 hu4 C3 hbr
   unfold RatM.v
   go_wp2_with (at_builtin;refine Hold.hold ?_)
   clear d0 d1 d2 r1 f1 hW3 hW4
   have BS:=SlL.new (enc:=encRat) (sz:=3) W4 68 Ku [u] #[.bool u.n,.slice u.p u.k u.c,.slice u.q u.m u.e] 1 rfl rfl (by decide)
   have HR5:=ξ (HR4.out.grow BS.1)
   have HU5:=ξ (HU4.out.grow BS.1)
   have HG5:=ξ (J9 HG4.out (J5 br BS.1))
   have HBS:=ξ BS.2
   clear BS
   generalize W4.heap.size=bs at HBS ⊢
   generalize W4.alloc _=W5 at HR5 HU5 HG5 HBS ⊢
   refine Hold.go ?_
   refine wpList_plain rfl (fun K hK=>?_)
   refine O7 _ _ 33 68 _ 56 rfl Tryz.underlying33 X8 rfl (by decide) Ku J2D W5.heap.size (.slice none 0 0) _ [] [u] rfl (OwnL.nil W5 _ _) rfl HBS.out (by simp) (by simp) (Nat.le_refl _) (by simp) ?_
   intro v6 W6 ho6 g6 _
   have g6:=OwnL.gr (OwnL.nil (enc:=encRat) (sz:=3) W5 W5.heap.size 68) (Gr.refl W5) g6
   obtain⟨p6,c6,hv6,-,-⟩:=ho6.read.parts
   have HF:=ξ (show U1 w W6 br (.slice (some ⟨bw,o,none⟩) 1 c) z 1 (.slice p6 1 c6) from⟨J9 HG5.out (J5 br g6),HR5.out.grow g6,.inr ⟨rfl,p6,c6,u,rfl,fun a ha=>by
    subst ha
    have h1:=(World.ownsRow.lt ho6 a.block (by rw[hv6];rfl)).1
    have h2:=World.grownBy.size HG5.out
    omega,by have:=ho6.read;rw[hv6] at this;exact this,HU5.out.grow g6⟩⟩)
   have hv7:v6 = .slice p6 1 c6:=hv6
   subst hv7
   clear ho6 g6 hv6
   refine hK _ _ ?_
   clear hK K
   go_wp2_with fail
   exact⟨⟨1,_,rfl,rfl,by omega,HF.out⟩,by simp[RowKit.intOf]⟩
  ·have HG:=ξ hg
   have HC:=ξ hc
   have H1:=ξ h1
   have H2:=ξ h2
   have HOF:=ξ hoff
   have f0:=Ja.f hc 0
   have q0:W1.cell? ⟨br,0,none⟩=some (.slice (some ⟨bw,o,none⟩) 1 c):=hc.at 0 rfl
   have hu:=J8 W1 br 0 (.slice none 0 0)
   have HX:=ξ (show w.grownBy (W1.setCell ⟨br,0,none⟩ (.slice none 0 0)) (some br)∧Ja (W1.setCell ⟨br,0,none⟩ (.slice none 0 0)) br #[.slice none 0 0,.bool false]∧SlL (W1.setCell ⟨br,0,none⟩ (.slice none 0 0)) 3 encRat (.slice p 1 c') [u]∧RatC (W1.setCell ⟨br,0,none⟩ (.slice none 0 0)) u.v (z:Rat) from
    ⟨J9 hg (Jl.set br W1 0 _),by simpa using hc.set 0 (.slice none 0 0),SlL.updA h1 hu (fun a ha e=>by have:=hoff a ha;have:=HR.out.lt;omega),h2.upd (Zh hc) hu⟩)
   clear hg hc h1 h2 hoff hu
   go_wp2_with fail
   go_ret
   exact⟨p,c',u,rfl,HOF.out,HX.out.1,HX.out.2.1,HX.out.2.2.1,HX.out.2.2.2⟩
def set8 (w:World)(b:Nat)(u0 u1 u2 u3 u4 u5 u6 u7:Value):World:=(((((((w.setCell ⟨b,0,none⟩ u0).setCell ⟨b,1,none⟩ u1).setCell ⟨b,2,none⟩ u2).setCell ⟨b,3,none⟩ u3).setCell ⟨b,4,none⟩ u4).setCell ⟨b,5,none⟩ u5).setCell ⟨b,6,none⟩ u6).setCell ⟨b,7,none⟩ u7
theorem fill8 {w:World}{b:Nat}{x0 x1 x2 x3 x4 x5 x6 x7:Value}(u0 u1 u2 u3 u4 u5 u6 u7:Value)(h:Ja w b #[x0,x1,x2,x3,x4,x5,x6,x7]):
  w.grownBy (set8 w b u0 u1 u2 u3 u4 u5 u6 u7) (some b)∧Ja (set8 w b u0 u1 u2 u3 u4 u5 u6 u7) b #[u0,u1,u2,u3,u4,u5,u6,u7]∧Upd b w (set8 w b u0 u1 u2 u3 u4 u5 u6 u7):=by
 unfold set8
 refine⟨?_,?_,fun i hi=>?_⟩
 ·exact Jl.trans (Jl.trans (Jl.trans (Jl.trans (Jl.trans (Jl.trans (Jl.trans (Jl.set b w 0 u0) (Jl.set b _ 1 u1)) (Jl.set b _ 2 u2)) (Jl.set b _ 3 u3)) (Jl.set b _ 4 u4)) (Jl.set b _ 5 u5)) (Jl.set b _ 6 u6)) (Jl.set b _ 7 u7)
 ·have:=(((((((h.set 0 u0).set 1 u1).set 2 u2).set 3 u3).set 4 u4).set 5 u5).set 6 u6).set 7 u7
  simpa using this
 ·rw[Below.heap_setCell _ _ _ _ hi,Below.heap_setCell _ _ _ _ hi,Below.heap_setCell _ _ _ _ hi,Below.heap_setCell _ _ _ _ hi,Below.heap_setCell _ _ _ _ hi,Below.heap_setCell _ _ _ _ hi,Below.heap_setCell _ _ _ _ hi,Below.heap_setCell _ _ _ _ hi]
structure Ly (w0 w:World)(bx br bn:Nat)(wv:Value)(nv:Array Value):Prop where
 g:Gr w0 w
 x:Ja w bx #[.pointer (some ⟨br,0,none⟩)]
 r:Ja w br #[wv,.bool false]
 n:Ja w bn nv
 ne:w0.heap.size≤bx∧w0.heap.size≤br∧w0.heap.size≤bn∧bx≠br∧bx≠bn∧br≠bn
theorem Ly.read {w0 w w':World}{bx br bn:Nat}{wv wv':Value}{nv:Array Value}(h:Ly w0 w bx br bn wv nv)(g:w.grownBy w' (some br))(hr:Ja w' br #[wv',.bool false]):Ly w0 w' bx br bn wv' nv:=
 ⟨Below.grown h.g g h.g.size (fun k e=>by cases e;exact h.ne.2.1),h.x.grown g (fun e=>h.ne.2.2.2.1 (Option.some.inj e)),hr,h.n.grown g (fun e=>h.ne.2.2.2.2.2 (Option.some.inj e).symm),h.ne⟩
theorem Ly.put {w0 w:World}{bx br bn:Nat}{wv:Value}{x0 x1 x2 x3 x4 x5 x6 x7:Value}(u0 u1 u2 u3 u4 u5 u6 u7:Value)(h:Ly w0 w bx br bn wv #[x0,x1,x2,x3,x4,x5,x6,x7]):
  Ly w0 (set8 w bn u0 u1 u2 u3 u4 u5 u6 u7) bx br bn wv #[u0,u1,u2,u3,u4,u5,u6,u7]∧Upd bn w (set8 w bn u0 u1 u2 u3 u4 u5 u6 u7):=by
 obtain⟨k1,k2,k3⟩:=fill8 u0 u1 u2 u3 u4 u5 u6 u7 h.n
 exact⟨⟨Below.grown h.g k1 h.g.size (fun k e=>by cases e;exact h.ne.2.2.1),h.x.upd k3 h.ne.2.2.2.2.1,h.r.upd k3 h.ne.2.2.2.2.2,k2,h.ne⟩,k3⟩
abbrev nodeZ:Array Value:=#[.int .i64 0,.slice none 0 0,.int .i64 0,.int .i64 0,.int .i64 0,.slice none 0 0,.int .i64 0,.slice none 0 0]
theorem J3X (w0 w:World)(bx br bn bw o c:Nat)(s s':List UInt8)(v v':Int)(he:Ly w0 w bx br bn (.slice (some ⟨bw,o,none⟩) 2 2) nodeZ)(hb:bw≠br)(hs:w.cell? ⟨bw,o,none⟩=some (.string ⟨s.toArray⟩))(hs':w.cell? ⟨bw,o+1,none⟩=some (.string ⟨s'.toArray⟩))(hp:Lib.parseIntB 64 s = .ok v)(hp':Lib.parseIntB 64 s' = .ok v')(hl:s.length≤1000)(hl':s'.length≤1000):
  Calls Tryz.prog 66 #[.pointer (some ⟨bx,0,none⟩),.pointer (some ⟨bn,0,none⟩)] w (fun e w'=>∃ r q,e = .returned r∧Ly w0 w' bx br bn (.slice q 0 0) (nodeA ⟨2,none,0,0,v,v',0,none,0,0,0,none,0,0⟩)):=by
 have HE:=ξ he
 have HS:=ξ (And.intro hs hs')
 have HP:=ξ (And.intro hp hp')
 have HL:=ξ (And.intro hl hl')
 have x0:w.cell? ⟨bx,0,none⟩=some (.pointer (some ⟨br,0,none⟩)):=he.x.at 0 rfl
 clear he hs hs' hp hp' hl hl'
 go_enter Tryz.func66,Tryz.ntmps66
 go_wp2_with fail
 clear x0
 refine(J0d w br bw o 2 2 (some ⟨bw,o+1,none⟩) s v false HE.out.r HS.out.1 HP.out.1 HL.out.1 (by decide) (by decide) (by decide) (.inr ⟨by decide,rfl⟩)).mono ?_
 rintro _ w1 ⟨rfl,g1,hr1⟩
 have HE1:=ξ (HE.out.read g1 hr1)
 have hs1:w1.cell? ⟨bw,o+1,none⟩=some (.string ⟨s'.toArray⟩):=by
  have hlt:=World.block_lt_of_cell? (w:=w) _ HS.out.2
  rw[World.cell?_of_block (w:=w) (g1.block bw hlt (fun e=>hb (Option.some.inj e)))]
  exact HS.out.2
 have HS1:=ξ hs1
 have x0:w1.cell? ⟨bx,0,none⟩=some (.pointer (some ⟨br,0,none⟩)):=HE1.out.x.at 0 rfl
 clear g1 hr1 hs1
 go_wp2_with fail
 clear x0
 refine(J0d w1 br bw (o+1) 1 1 (some ⟨bw,o+1,none⟩) s' v' false HE1.out.r HS1.out HP.out.2 HL.out.2 (by decide) (by decide) (by decide) (.inl ⟨rfl,rfl⟩)).mono ?_
 rintro _ w2 ⟨rfl,g2,hr2⟩
 have HE2:=ξ (HE1.out.read g2 hr2)
 have hx:=HE2.out.put (.int .i64 2) (.slice none 0 0) (.int .i64 v) (.int .i64 v') (.int .i64 0) (.slice none 0 0) (.int .i64 0) (.slice none 0 0)
 unfold set8 at hx
 have HX:=ξ hx.1
 have n0:=HE2.out.n.at 0 rfl
 have n1:=HE2.out.n.at 1 rfl
 have n2:=HE2.out.n.at 2 rfl
 have n3:=HE2.out.n.at 3 rfl
 have n4:=HE2.out.n.at 4 rfl
 have n5:=HE2.out.n.at 5 rfl
 have n6:=HE2.out.n.at 6 rfl
 have n7:=HE2.out.n.at 7 rfl
 have f0:=Ja.f HE2.out.n 0
 have f1:=Ja.f HE2.out.n 1
 have f2:=Ja.f HE2.out.n 2
 have f3:=Ja.f HE2.out.n 3
 have f4:=Ja.f HE2.out.n 4
 have f5:=Ja.f HE2.out.n 5
 have f6:=Ja.f HE2.out.n 6
 have f7:=Ja.f HE2.out.n 7
 clear g2 hr2 hx
 go_wp2_with fail
 first|go_end0|(refine bodyPost_ret (results_none rfl _ _ _) rfl ?_)
 exact⟨_,some ⟨bw,o+1,none⟩,rfl,HX.out⟩
theorem J3W (w0 w:World)(br bx bn bw o c:Nat)(s:List UInt8)(z:Int)(hz:OneW s z)(m:Int)(hm:w.cell? ⟨2,0,none⟩=some (.int .i64 m))(he:Ly w0 w bx br bn (.slice (some ⟨bw,o,none⟩) 1 c) nodeZ)(hs:w.cell? ⟨bw,o,none⟩=some (.string ⟨s.toArray⟩)):
  Calls Tryz.prog 62 #[.pointer (some ⟨bx,0,none⟩),.pointer (some ⟨bn,0,none⟩)] w (fun e w'=>∃ r p c' u,e = .returned r∧Ly w0 w' bx br bn (.slice none 0 0) (nodeA ⟨0,p,1,c',0,0,0,none,0,0,0,none,0,0⟩)∧(∀ a,p=some a→w0.heap.size≤a.block)∧SlL w' 3 encRat (.slice p 1 c') [u]∧RatC w' u.v (z:Rat)):=by
 have HE:=ξ he
 have HS:=ξ hs
 have HM:=ξ hm
 have HZ:=ξ hz
 have x0:w.cell? ⟨bx,0,none⟩=some (.pointer (some ⟨br,0,none⟩)):=he.x.at 0 rfl
 clear he hs hm hz
 go_enter Tryz.func62,Tryz.ntmps62
 go_wp2_with fail
 clear x0
 refine(J5o w br bw o c s z HZ.out m HM.out HE.out.r HS.out).mono ?_
 rintro _ w2 ⟨p,c',u,rfl,hp,g2,hr2,h1,h2⟩
 have HE2:=ξ (HE.out.read g2 hr2)
 have hx:=HE2.out.put (.int .i64 0) (.slice p 1 c') (.int .i64 0) (.int .i64 0) (.int .i64 0) (.slice none 0 0) (.int .i64 0) (.slice none 0 0)
 have hsz:w0.heap.size≤w.heap.size∧bn < w.heap.size:=⟨HE.out.g.size,HE.out.n.lt⟩
 have HU:=ξ (show _∧_∧_ from⟨fun a ha=>Nat.le_trans hsz.1 (hp a ha),SlL.updA h1 hx.2 (fun a ha e=>by have:=hp a ha;omega),Ot h2 (Dk.upd (NoU.of HE2.out.n (by simp)) hx.2)⟩)
 unfold set8 at hx HU
 have HX:=ξ hx.1
 have n0:=HE2.out.n.at 0 rfl
 have n1:=HE2.out.n.at 1 rfl
 have n2:=HE2.out.n.at 2 rfl
 have n3:=HE2.out.n.at 3 rfl
 have n4:=HE2.out.n.at 4 rfl
 have n5:=HE2.out.n.at 5 rfl
 have n6:=HE2.out.n.at 6 rfl
 have n7:=HE2.out.n.at 7 rfl
 have f0:=Ja.f HE2.out.n 0
 have f1:=Ja.f HE2.out.n 1
 have f2:=Ja.f HE2.out.n 2
 have f3:=Ja.f HE2.out.n 3
 have f4:=Ja.f HE2.out.n 4
 have f5:=Ja.f HE2.out.n 5
 have f6:=Ja.f HE2.out.n 6
 have f7:=Ja.f HE2.out.n 7
 clear g2 hr2 hx h1 h2 hp hsz
 go_wp2_with fail
 first|go_end0|(refine bodyPost_ret (results_none rfl _ _ _) rfl ?_)
 exact⟨_,p,c',u,rfl,HX.out,HU.out.1,HU.out.2.1,HU.out.2.2⟩
def exV:VarM:=⟨0,1,false,true,0⟩
def exT:List Jg:=[⟨0,2⟩,⟨1,2⟩]
def exR:RowS:=⟨[],0,2,exT,1⟩
def exP:Prg:=⟨[exV,exV],[exR]⟩
theorem So:Jr exP∧Whole exP:=by
 refine⟨⟨by decide,by decide,?_,?_⟩,?_⟩
 ·intro v hv
  simp[exP] at hv
  subst hv
  unfold Lz In exV
  simp
 ·intro r hr
  simp[exP] at hr
  subst hr
  unfold Kb exR exT In exP
  simp[Inc,In]
 ·intro v hv
  simp[exP] at hv
  subst hv
  exact⟨rfl,rfl⟩
def exS (v:Int):Jh:=⟨2,[],v,0,⟨0,[],0,[]⟩⟩
def exF (z:Int):Jh:=⟨0,[(z:Rat)],0,0,⟨0,[],0,[]⟩⟩
def exN:List Jh:=[exS 0,exS 1,exF 1,exF (-1),exF (-1)]
theorem Xl:Dep exN 2 []:=.split rfl (.split rfl (.leaf rfl) (.leaf rfl)) (.leaf rfl)
theorem Sk:∀ n ∈ exN,K1 n:=by
 have h1:∀ v,K1 (exS v):=fun v=>⟨by simp[exS],by simp[exS],by simp[exS],by simp[exS],by simp[exS]⟩
 have h2:Sz 4 ((1:Int):Rat):=⟨by decide +kernel,by decide +kernel⟩
 have h3:Sz 4 ((-1:Int):Rat):=⟨by decide +kernel,by decide +kernel⟩
 have h4:∀ z:Int,Sz 4 (z:Rat)→K1 (exF z):=fun z h=>⟨by simp[exF],by intro x hx;simp[exF] at hx;subst hx;exact h,by simp[exF],by simp[exF],by simp[exF]⟩
 intro n hn
 simp[exN] at hn
 rcases hn with rfl|rfl|rfl|rfl
 ·exact h1 0
 ·exact h1 1
 ·exact h4 1 h2
 ·exact h4 (-1) h3
theorem Sq (V:List VarM)(y:List Rat):M9 ⟨V,[exR]⟩ y:=fun i r h=>by
 cases i with
 | zero=>
  simp at h
  subst h
  exact⟨fun k=>absurd k.1 (by decide),fun k=>absurd k.1 (by decide)⟩
 | succ i=>simp at h
theorem Sp:Jn exP exN []:=by
 have nc:Kh (⟨0,[],0,[]⟩:CutS):=⟨rfl,rfl,rfl,rfl⟩
 refine .split rfl ⟨nc,rfl⟩ ⟨by decide,by decide⟩ ⟨by decide,by decide⟩ (r:=[exF (-1)]) ?_ ?_
 ·refine .split rfl ⟨nc,rfl⟩ ⟨by decide,by decide⟩ ⟨by decide,by decide⟩ (r:=[exF (-1),exF (-1)]) ?_ ?_
  ·exact .farkas rfl ⟨nc,rfl,rfl⟩ (by decide) ⟨Sq _ _,.inr (by decide +kernel)⟩
  ·exact .farkas rfl ⟨nc,rfl,rfl⟩ (by decide) ⟨Sq _ _,.inr (by decide +kernel)⟩
 ·exact .farkas rfl ⟨nc,rfl,rfl⟩ (by decide) ⟨Sq _ _,.inr (by decide +kernel)⟩
theorem J2W:¬ Jn exP (exN.take 1) []:=J53 Sp (by decide)
theorem J3F (w:World):Calls Tryz.prog 16 #[] w (Ret w fun r w'=>Jv w' r exP∧∃ a c b d,r=prgV a c b d exP):=by
 have B0:=Ja.new w #[.slice (some ⟨w.heap.size+1+1,0,none⟩) 2 2,.slice (some ⟨w.heap.size+1+1+1+1,0,none⟩) 1 1] 25
 obtain⟨W1,hW1⟩:∃ z,w.alloc (.cells #[.slice (some ⟨w.heap.size+1+1,0,none⟩) 2 2,.slice (some ⟨w.heap.size+1+1+1+1,0,none⟩) 1 1] 25)=z:=⟨_,rfl⟩
 rw[hW1] at B0
 have B1:=Ja.new W1 #[.int .i64 0,.int .i64 1,.bool false,.bool true,.int .i64 0] 62
 obtain⟨W2,hW2⟩:∃ z,W1.alloc (.cells #[.int .i64 0,.int .i64 1,.bool false,.bool true,.int .i64 0] 62)=z:=⟨_,rfl⟩
 rw[hW2] at B1
 have B2:=SlL.new (enc:=encVar) (sz:=5) W2 62 Nf [exV,exV] #[.int .i64 0,.int .i64 1,.bool false,.bool true,.int .i64 0,.int .i64 0,.int .i64 1,.bool false,.bool true,.int .i64 0] 2 rfl rfl (by decide)
 obtain⟨W3,hW3⟩:∃ z,W2.alloc (.cells #[.int .i64 0,.int .i64 1,.bool false,.bool true,.int .i64 0,.int .i64 0,.int .i64 1,.bool false,.bool true,.int .i64 0] 62)=z:=⟨_,rfl⟩
 rw[hW3] at B2
 have B3:=SlL.new (enc:=encTerm) (sz:=2) W3 75 My exT #[.int .i64 0,.int .i64 2,.int .i64 1,.int .i64 2] 2 rfl rfl (by decide)
 obtain⟨W4,hW4⟩:∃ z,W3.alloc (.cells #[.int .i64 0,.int .i64 2,.int .i64 1,.int .i64 2] 75)=z:=⟨_,rfl⟩
 rw[hW4] at B3
 have B4:=SlL.new (enc:=encRow) (sz:=5) W4 42 L1 [(⟨[],0,2,some ⟨W3.heap.size,0,none⟩,2,exT,1⟩:RowM)] #[.string ⟨#[]⟩,.int .i64 0,.int .i64 2,.slice (some ⟨W3.heap.size,0,none⟩) 2 2,.int .i64 1] 1 rfl rfl (by decide)
 obtain⟨W5,hW5⟩:∃ z,W4.alloc (.cells #[.string ⟨#[]⟩,.int .i64 0,.int .i64 2,.slice (some ⟨W3.heap.size,0,none⟩) 2 2,.int .i64 1] 42)=z:=⟨_,rfl⟩
 rw[hW5] at B4
 have g25:=B2.1.trans (B3.1.trans B4.1)
 have g15:=B1.1.trans g25
 have C5:=B0.2.grow g15
 have HX:=ξ (show _∧_∧Jv W5 (.agg #[.slice (some ⟨W2.heap.size,0,none⟩) 2 2,.slice (some ⟨W4.heap.size,0,none⟩) 1 1]) exP from
  ⟨B0.1.trans g15,C5,some ⟨W2.heap.size,0,none⟩,2,some ⟨W4.heap.size,0,none⟩,1,rfl,SlL.grow B2.2 (B3.1.trans B4.1),
   [(⟨[],0,2,some ⟨W3.heap.size,0,none⟩,2,exT,1⟩:RowM)],B4.2,rfl,fun x hx=>by
    obtain rfl:=List.mem_singleton.1 hx
    exact SlL.grow B3.2 B4.1⟩)
 clear B0 B1 B2 B3 B4 g25 g15 C5
 subst hW5 hW4 hW3 hW2 hW1
 simp only[World.size_alloc] at HX
 go_enter Tryz.func16,Tryz.ntmps16
 go_wp2_with fail
 try rw[Exit.noGoto_ret]
 generalize (((((w.alloc _).alloc _).alloc _).alloc _).alloc _)=W6 at HX ⊢
 have z0:=HX.out.2.1.at 0 rfl
 have z1:=HX.out.2.1.at 1 rfl
 refine bodyPost_ret (by simp[results,Tryz.results16,go_sem,z0,z1];rfl) rfl ?_
 exact⟨_,rfl,HX.out.1,HX.out.2.2,_,_,_,_,rfl⟩
theorem J6k (w:World)(v:Value)(p:Prg)(N:List Jh)(pt:Option Addr)(nt ct:Nat)(hnt:nt=N.length)(hv:Jv w v p)(hno:J1 w (.slice pt nt ct) N 4)(hi:PrgI p)(hl:∀ r ∈ p.rows,r.name.length≤1000000)(hn:p.vars.length≤10)(hm:p.rows.length+N.length≤40)(hf:∀ n ∈ N,K1 n)(hk:Jr p∧Whole p)(hpr:Jn p N []):
  Calls Tryz.prog 20 #[v,.agg #[.bool false,.slice none 0 0,.int .i64 0,.slice pt nt ct]] w (Ret w fun r _=>r = .int .i64 0):=by
 have HV:=ξ hv
 have HNO:=ξ (And.intro hno hnt)
 have HI:=ξ hi
 have HL:=ξ hl
 have HNM:=ξ (And.intro hn hm)
 have HF:=ξ hf
 have HK:=ξ (And.intro hk hpr)
 obtain⟨va,vc,vb,vd,rfl,hvs,hr⟩:=hv
 unfold prgV at HV ⊢
 have B0:=Ja.new w #[.slice va p.vars.length vc,.slice vb p.rows.length vd] 25
 have B1:=Ja.new (w.alloc (.cells #[.slice va p.vars.length vc,.slice vb p.rows.length vd] 25)) #[.bool false,.slice none 0 0,.int .i64 0,.slice pt nt ct] 57
 simp only[World.size_alloc] at B1
 have HB:=ξ (show _∧Ja _ _ #[.slice va p.vars.length vc,.slice vb p.rows.length vd]∧Ja _ _ #[.bool false,.slice none 0 0,.int .i64 0,.slice pt nt ct] from⟨B0.1.trans B1.1,B0.2.grow B1.1,B1.2⟩)
 clear hvs hr hno hi hl hn hm hf hnt B0 B1 hk hpr
 go_enter Tryz.func20,Tryz.ntmps20
 go_wp2_with fail
 generalize hba:w.heap.size+1=ba at HB ⊢
 generalize hbp:w.heap.size=bp at HB ⊢
 generalize (w.alloc _).alloc _=W at HB ⊢
 clear hba hbp
 refine(J10 W _ p (HV.out.grow HB.out.1) HI.out HL.out (by have:=HNM.out;omega) (by have:=HNM.out;omega)).mono ?_
 rintro _ w1 ⟨r1,rfl,g1,h1⟩
 have G:=ξ (HB.out.1.trans g1)
 have HP:=ξ (HB.out.2.1.grow g1)
 have HA:=ξ (HB.out.2.2.grow g1)
 rcases h1.cases with⟨rfl,k1⟩|⟨rfl,k1⟩
 rotate_left
 ·exact absurd HK.out.1 k1
 have p0:=HP.out.at 0 rfl
 have p1:=HP.out.at 1 rfl
 have a0:=HA.out.at 0 rfl
 have a1:=HA.out.at 1 rfl
 have a2:=HA.out.at 2 rfl
 have a3:=HA.out.at 3 rfl
 clear h1 k1 g1
 go_wp2_with fail
 clear p0 p1 a0 a1 a2 a3
 refine(J0V w1 _ p N pt nt ct HNO.out.2 (HV.out.grow G.out) (HNO.out.1.grow G.out) ⟨HK.out.1.1,HK.out.1.2,HNM.out.1,HNM.out.2⟩ HF.out).mono ?_
 rintro _ w2 ⟨r2,rfl,g2,h2⟩
 have G:=ξ (G.out.trans g2)
 rcases h2.cases with⟨rfl,k2⟩|⟨rfl,k2⟩
 rotate_left
 ·exact absurd HK.out.2 k2
 clear h2 k2 g2
 go_wp2_with fail
 go_ret
 exact⟨_,rfl,G.out,rfl⟩
end Prf
end Go.Proofs.YtcjgimlcefhhmaaGreatDoor

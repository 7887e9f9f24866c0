/- Texts: PyA PyB PyC. -/
import Derived.Test.YtcjgimlcefhhmaaGreatDoorU31
import Derived.Test.YtcjgimlcefhhmaaGreatDoorU41
import Derived.Test.YtcjgimlcefhhmaaGreatDoorU46
import Derived.Test.YtcjgimlcefhhmaaGreatDoorU47
set_option linter.unusedVariables false
set_option linter.unusedSimpArgs false
set_option maxRecDepth 100000
set_option maxHeartbeats 12800000
namespace Go.Proofs.YtcjgimlcefhhmaaGreatDoor
namespace Prf
open Go.RowKit Go.Lib
def encS (s:List UInt8):List Value:=[.string ⟨s.toArray⟩]
theorem Sj (x:List UInt8):(encS x).length=1:=rfl
theorem J2E:∀ x,∀ u ∈ encS x,u.oneCell'=true:=fun x u hu=>by
 simp[encS] at hu;subst hu;rfl
theorem J6a:(Tryz.prog.info? 9).map (fun i=>(i.zero,i.size,i.bytes))=some (some (.string ⟨#[]⟩),1,16):=by kernel_rfl
abbrev L0 (w:World)(base:Nat)(v:Value)(l:List (List UInt8)):Prop:=OwnL w base 9 1 encS v l
theorem Rg (w:World)(base:Nat)(hb:base≤w.heap.size)(x:List UInt8):
  Gr w (w.alloc (.cells #[.string ⟨x.toArray⟩] 9))∧L0 (w.alloc (.cells #[.string ⟨x.toArray⟩] 9)) base (.slice (some ⟨w.heap.size,0,none⟩) 1 1) [x]:=
 ⟨(Gr.refl w).alloc _,World.ownsRow_lit w #[.string ⟨x.toArray⟩] 1 hb (by decide) rfl⟩
theorem Rf {a:Act}{o:Oper}{Q:Exit→Act→World→Prop}{K:Act→World→Prop}{w:World}(s x:Operand)(ho:o.op = .call { callee:=.builtin .append,args:=#[s,x],argTypes:=#[83,83] })
  (base:Nat) (v vx:Value) (l m:List (List UInt8)) (hs:a.eval s=v) (hown:L0 w base v l) (hx:a.eval x=vx) (hm:SlL w 1 encS vx m) (hl:l.length+m.length≤1000) (hbase:base≤w.heap.size) (hpos:0 < m.length)
  (h:∀ p c w',L0 w' base (.slice p (l.length+m.length) c) (l ++ m)→w.grownBy w' v.ownBlock→K (a.put o.dst (.slice p (l.length+m.length) c)) w'):Oper.wp Tryz.prog o a w K Q:=by
 refine O7 s x 83 9 _ 16 ho Tryz.underlying83 J6a rfl (by decide) Sj J2E base v vx l m hs hown hx hm (by omega) (by omega) hbase hpos ?_
 intro v' w' k1 k2 _
 obtain⟨p,c,e,_,_⟩:=k1.read.parts
 rw[List.length_append] at e
 subst e
 exact h p c w' k1 k2
theorem J13 (w:World)(word:List UInt8)(p:Option Addr)(n c:Nat)(l:List (List UInt8))(ok:Bool)(hl:SlL w 1 encS (.slice p n c) l)(hn:l.length=n)(h1:0 < n)(h2:n≤100):
  Calls Tryz.prog 70 #[.string ⟨word.toArray⟩,.slice p n c,.bool ok] w (Ret w fun r w'=>∃ q d,r = .tuple #[.slice q (1+n) d,.bool ok]∧L0 w' w.heap.size (.slice q (1+n) d) (word :: l)):=by
 have HL:=ξ hl
 have HN:=ξ hn
 have H1:=ξ (And.intro h1 h2)
 clear hl hn h1 h2
 go_enter Tryz.func70,Tryz.ntmps70
 go_wp2_with (at_builtin;refine Hold.hold ?_)
 have BS:=Rg w w.heap.size (Nat.le_refl _) word
 have HB:=ξ BS
 clear BS
 generalize hbs:w.heap.size=bs at HB ⊢
 generalize w.alloc _=W1 at HB ⊢
 refine Hold.go ?_
 refine wpList_plain rfl (fun K hK=>?_)
 refine Rf _ _ rfl bs (.slice (some ⟨bs,0,none⟩) 1 1) _ [word] l rfl HB.out.2 rfl (SlL.grow HL.out HB.out.1) (by have:=H1.out;have:=HN.out;simp;omega) (by have:=HB.out.1.size;omega) (by have:=H1.out;have:=HN.out;omega) ?_
 intro q d W2 ho g2
 rw[show [word].length+l.length=1+n from by rw[HN.out];rfl] at ho ⊢
 have G2:=ξ (show Gr w W2 from OwnL.gr (by rw[hbs];exact HB.out.2) HB.out.1 g2)
 have HO:=ξ ho
 clear ho g2
 refine hK _ _ ?_
 clear hK K
 cases ok
 ·go_wp2_with fail
  refine bodyPost_ret (by simp[results,Tryz.results70,go_sem];rfl) rfl ?_
  exact⟨_,rfl,G2.out,q,d,rfl,by have h:=HO.out;rw[← hbs] at h;exact h⟩
 ·go_wp2_with fail
  refine bodyPost_ret (by simp[results,Tryz.results70,go_sem];rfl) rfl ?_
  exact⟨_,rfl,G2.out,q,d,rfl,by have h:=HO.out;rw[← hbs] at h;exact h⟩
theorem J6C (w:World)(n:Int):Calls Tryz.prog 122 (#[mkI n] ++ #[]) w (Ret w fun r _=>Jb (n < 0) r):=by
 show Calls _ _ #[.int .i64 n] _ _
 by_cases h:n < 0
 ·have H:=ξ h
  go_enter Tryz.func122,Tryz.ntmps122
  go_wp2_with fail
  go_ret
  exact⟨_,rfl,Gr.refl _,Jb.yes H.out⟩
 ·have H:=ξ h
  go_enter Tryz.func122,Tryz.ntmps122
  go_wp2_with fail
  go_ret
  exact⟨_,rfl,Gr.refl _,Jb.no (Int.not_lt.2 H.out)⟩
def Qc (w W:World)(s:List UInt8)(k:Nat)(v:Value):Prop:=Gr w W∧((k=0∧v = .slice none 0 0)∨(k=1∧∃ q d,v = .slice q 1 d∧L0 W w.heap.size (.slice q 1 d) [s]))
theorem J6D (w:World)(p:Option Addr)(c v:Nat)(hv:v < 100)(hl:K5 w (.slice p 1 c) [(v:Int)]):
  Calls Tryz.prog 72 #[.slice p 1 c] w (Ret w fun r w'=>∃ q d,r = .tuple #[.slice q 1 d,.bool true]∧L0 w' w.heap.size (.slice q 1 d) [Lib.decDigits v]):=by
 obtain⟨b,o,x,rfl,hx,hc⟩:=L2 hl rfl (k:=0) (by decide)
 obtain rfl:(v:Int)=x:=by simpa using hx
 have HL:=ξ hl
 have HC:=ξ hc
 have HV:=ξ hv
 clear hl hx hc hv
 go_enter Tryz.func72,Tryz.ntmps72
 go_wp2_with fail
 go_loopw [4,9] (fun l i w9=>∃ (k:Nat) (W1:World),W1=w9∧i = .int .i64 (k:Int)∧k≤1∧Qc w W1 (Lib.decDigits v) k l) (fun _ i _=>1 - (RowKit.intOf i).toNat)
 case atStart=>exact⟨0,_,rfl,rfl,by omega,Gr.refl w,.inl ⟨rfl,rfl⟩⟩
 case round=>
  obtain⟨k,W1,rfl,rfl,hk,hg,h⟩:=hrel
  have G:=ξ hg
  clear hg
  rcases h with⟨rfl,rfl⟩|⟨rfl,q,d,rfl,ho⟩
  ·have c0:=HC.out _ G.out
   rw[Nat.add_zero] at c0
   go_wp2_with fail
   clear c0
   refine(Tryz.strconv_Itoa_small v HV.out W1).mono ?_
   rintro _ W1 ⟨rfl,rfl⟩
   go_wp2_with (at_builtin;refine Hold.hold ?_)
   have HB:=ξ (Rg W1 w.heap.size G.out.size (Lib.decDigits v))
   generalize W1.heap.size=bs at HB ⊢
   generalize W1.alloc _=W2 at HB ⊢
   refine Hold.go ?_
   refine wpList_plain rfl (fun K hK=>?_)
   have G2:=ξ (G.out.trans HB.out.1)
   refine Rf _ _ rfl w.heap.size (.slice none 0 0) _ [] [Lib.decDigits v] rfl (OwnL.nil _ _ _) rfl HB.out.2.read (by simp) G2.out.size (by simp) ?_
   intro q d W3 ho g3
   have G3:=ξ (show Gr w W3 from OwnL.gr (OwnL.nil (enc:=encS) (sz:=1) W2 w.heap.size 9) G2.out g3)
   have HI:=ξ (show Qc w W3 (Lib.decDigits v) 1 (.slice q 1 d) from⟨G3.out,.inr ⟨rfl,q,d,rfl,ho⟩⟩)
   clear ho g3
   refine hK _ _ ?_
   clear hK K
   go_wp2_with fail
   exact⟨⟨1,_,rfl,rfl,by omega,HI.out⟩,by simp[RowKit.intOf]⟩
  ·have HO:=ξ ho
   clear ho
   go_wp2_with fail
   refine(J3w W1 (some ⟨b,o,none⟩) 1 c [(v:Int)] (.func (.func 122) #[] #[]) (fun x=>x < 0) (SlL.grow HL.out G.out) rfl (by decide) ⟨_,_,rfl,enters_of Tryz.func122 (by kernel_rfl) rfl,fun w' _ x _=>J6C w' x⟩).mono ?_
   rintro _ w2 ⟨r2,rfl,g2,h2⟩
   rcases h2.cases with⟨rfl,k2⟩|⟨rfl,k2⟩
   ·obtain⟨x,hx,h⟩:=k2
    simp at hx
    omega
   ·have G2:=ξ (G.out.trans g2)
    have HO2:=ξ (HO.out.grow g2)
    clear h2 k2 g2
    go_wp2_with fail
    refine bodyPost_ret (by simp[results,Tryz.results72,go_sem];rfl) rfl ?_
    exact⟨_,rfl,G2.out,q,d,rfl,HO2.out⟩
def J1g (w W:World)(s:List UInt8)(k:Nat)(v t:Value):Prop:=t = .bool true∧Qc w W s k v
theorem J6A (w:World)(p:Option Addr)(c:Nat)(u:RatM)(s:List UInt8)(z:Int)(hz:OneW s z)(htab:Tab w)(hl:SlL w 3 encRat (.slice p 1 c) [u])(hu:RatC w u.v (z:Rat)):
  Calls Tryz.prog 71 #[.slice p 1 c] w (Ret w fun r w'=>∃ q d,r = .tuple #[.slice q 1 d,.bool true]∧L0 w' w.heap.size (.slice q 1 d) [s]):=by
 obtain⟨b,o,x,rfl,hx,hc⟩:=hl.at Ku rfl (k:=0) (by decide)
 obtain rfl:u=x:=by simpa using hx
 have HC:=ξ hc
 have HU:=ξ hu
 have HT:=ξ htab
 have HSZ:=ξ (show Sz 4 (z:Rat)∧ratText (z:Rat)=s from by
  rcases hz with⟨rfl,rfl⟩|⟨rfl,rfl⟩
  ·exact⟨⟨by decide +kernel,by decide +kernel⟩,by decide +kernel⟩
  ·exact⟨⟨by decide +kernel,by decide +kernel⟩,by decide +kernel⟩)
 clear hl hx hc hu htab hz
 go_enter Tryz.func71,Tryz.ntmps71
 go_wp2_with fail
 go_loopw [4,5,10] (fun l t i w9=>∃ (k:Nat) (W1:World),W1=w9∧i = .int .i64 (k:Int)∧k≤1∧J1g w W1 s k l t) (fun _ _ i _=>1 - (RowKit.intOf i).toNat)
 case atStart=>exact⟨0,_,rfl,rfl,by omega,rfl,Gr.refl w,.inl ⟨rfl,rfl⟩⟩
 case round=>
  obtain⟨k,W1,rfl,rfl,hk,rfl,hg,h⟩:=hrel
  have G:=ξ hg
  clear hg
  rcases h with⟨rfl,rfl⟩|⟨rfl,q,d,rfl,ho⟩
  ·have c0:=HC.out 0 _ rfl _ G.out
   have c1:=HC.out 1 _ rfl _ G.out
   have c2:=HC.out 2 _ rfl _ G.out
   rw[Nat.add_zero] at c0
   have B:=Ja.new W1 #[.bool u.n,.slice u.p u.k u.c,.slice u.q u.m u.e] 68
   have d0:=B.2.at 0 rfl
   have d1:=B.2.at 1 rfl
   have d2:=B.2.at 2 rfl
   have HB:=ξ B
   clear B
   go_wp2_with fail
   clear c0 c1 c2 d0 d1 d2
   generalize W1.heap.size=br at HB ⊢
   generalize W1.alloc _=W2 at HB ⊢
   have G2:=ξ (G.out.trans HB.out.1)
   refine(J6n W2 _ (z:Rat) 4 (HU.out.grow G2.out) HSZ.out.1 (by decide)).mono ?_
   rintro _ w3 ⟨_,rfl,g3,rfl⟩
   have G3:=ξ (G2.out.trans g3)
   have HB3:=ξ (HB.out.2.grow g3)
   clear g3
   have d0:=HB3.out.at 0 rfl
   have d1:=HB3.out.at 1 rfl
   have d2:=HB3.out.at 2 rfl
   go_wp2_with fail
   clear d0 d1 d2
   refine(J5f w3 _ (z:Rat) 4 s ((HU.out.grow G3.out).v HSZ.out.1) HSZ.out.2 (by decide) (by decide) (HT.out.grow G3.out)).mono ?_
   rintro _ w4 ⟨_,rfl,g4,rfl⟩
   have G4:=ξ (G3.out.trans g4)
   clear g4
   go_wp2_with (at_builtin;refine Hold.hold ?_)
   have HB:=ξ (Rg w4 w.heap.size G4.out.size s)
   generalize w4.heap.size=bs at HB ⊢
   generalize w4.alloc _=W5 at HB ⊢
   refine Hold.go ?_
   refine wpList_plain rfl (fun K hK=>?_)
   have G5:=ξ (G4.out.trans HB.out.1)
   refine Rf _ _ rfl w.heap.size (.slice none 0 0) _ [] [s] rfl (OwnL.nil _ _ _) rfl HB.out.2.read (by simp) G5.out.size (by simp) ?_
   intro q d W6 ho g6
   have G6:=ξ (show Gr w W6 from OwnL.gr (OwnL.nil (enc:=encS) (sz:=1) W5 w.heap.size 9) G5.out g6)
   have HI:=ξ (show Qc w W6 s 1 (.slice q 1 d) from⟨G6.out,.inr ⟨rfl,q,d,rfl,ho⟩⟩)
   clear ho g6
   refine hK _ _ ?_
   clear hK K
   go_wp2_with fail
   exact⟨⟨1,_,rfl,rfl,by omega,rfl,HI.out⟩,by simp[RowKit.intOf]⟩
  ·have HO:=ξ ho
   clear ho
   go_wp2_with fail
   refine bodyPost_ret (by simp[results,Tryz.results71,go_sem];rfl) rfl ?_
   exact⟨_,rfl,G.out,q,d,rfl,HO.out⟩
theorem Uc {α:Type}(w:World)(sz:Nat)(enc:α→List Value):SlL w sz enc (.slice none 0 0) []:=(OwnL.nil w 0 0).read
theorem Vx (w:World):Lm w (.agg #[.int .i64 0,.slice none 0 0,.int .i64 0,.slice none 0 0]) ⟨0,[],0,[]⟩ 4:=
 ⟨none,0,0,none,0,0,rfl,⟨[],Uc w 3 encRat,rfl,fun i t h=>by simp at h⟩,Uc w 1 encI,rfl,rfl⟩
theorem Tk (w:World)(v:Int):Kj w (nodeS v) (exS v) 4:=
 ⟨rfl,rfl,rfl,⟨[],Uc w 3 encRat,rfl,fun i t h=>by simp at h⟩,rfl,Vx w⟩
theorem Qw {w:World}{p:Option Addr}{c:Nat}{u:RatM}{z:Int}(hs:Sz 4 (z:Rat))(h1:SlL w 3 encRat (.slice p 1 c) [u])(h2:RatC w u.v (z:Rat)):Kj w (nodeF p c) (exF z) 4:=
 ⟨rfl,rfl,rfl,⟨[u],h1,rfl,fun i t h=>by
  cases i with
  | zero=>
   simp at h
   subst h
   exact h2.v hs
  | succ i=>simp at h⟩,rfl,Vx w⟩
theorem J51 (v:Int):Kd (exS v):=Lt.2 (.inr (.inr (.inl ⟨rfl,⟨rfl,rfl,rfl,rfl⟩,rfl⟩)))
theorem J50 (z:Int):Kd (exF z):=Lt.2 (.inl ⟨rfl,⟨rfl,rfl,rfl,rfl⟩,rfl,rfl⟩)
theorem sz1 {s:List UInt8}{z:Int}(hz:OneW s z):Sz 4 (z:Rat):=by
 rcases hz with⟨rfl,rfl⟩|⟨rfl,rfl⟩
 ·exact⟨by decide +kernel,by decide +kernel⟩
 ·exact⟨by decide +kernel,by decide +kernel⟩
theorem J14 (w:World)(v:Nat)(hv:v < 100):
  Calls Tryz.prog 36 #[.agg (nodeA (nodeS v))] w (Ret w fun r w'=>∃ q d,r = .tuple #[.slice q 3 d,.bool true]∧L0 w' w.heap.size (.slice q 3 d) [wSplit,Lib.decDigits v,Lib.decDigits 0]):=by
 have HV:=ξ hv
 clear hv
 have HB:=ξ (Ja.new w (nodeA (nodeS v)) 47)
 unfold nodeS at HB ⊢
 have c0:=HB.out.2.at 0 rfl
 have c1:=HB.out.2.at 1 rfl
 have c2:=HB.out.2.at 2 rfl
 have c3:=HB.out.2.at 3 rfl
 have c4:=HB.out.2.at 4 rfl
 have c5:=HB.out.2.at 5 rfl
 have c6:=HB.out.2.at 6 rfl
 have c7:=HB.out.2.at 7 rfl
 go_enter Tryz.func36,Tryz.ntmps36
 go_wp2_with fail
 clear c0 c1 c2 c3 c4 c5 c6 c7
 generalize w.heap.size=bn at HB ⊢
 generalize w.alloc _=W at HB ⊢
 refine(Mm W (nodeS v) (exS v) 4 (Tk W v)).mono ?_
 rintro _ w2 ⟨r2,rfl,g2,h2⟩
 rcases h2.cases with⟨rfl,k2⟩|⟨rfl,k2⟩
 rotate_left
 ·exact absurd (J51 v) k2
 have HB:=ξ (show Gr w w2∧Ja w2 bn _ from⟨HB.out.1.trans g2,HB.out.2.grow g2⟩)
 clear h2 k2 g2
 have HI:=ξ (Ja.new w2 #[.int .i64 (v:Int)] 3)
 have c0:=HB.out.2.at 0 rfl
 have c1:=HB.out.2.at 1 rfl
 have c2:=HB.out.2.at 2 rfl
 have c3:=HB.out.2.at 3 rfl
 have c4:=HB.out.2.at 4 rfl
 have c5:=HB.out.2.at 5 rfl
 have c6:=HB.out.2.at 6 rfl
 have c7:=HB.out.2.at 7 rfl
 go_wp2_with fail
 clear c0 c1 c2 c3 c4 c5 c6 c7
 generalize w2.heap.size=bi at HI ⊢
 generalize w2.alloc _=W3 at HI ⊢
 have HB:=ξ (show Gr w W3∧Ja W3 bn _ from⟨HB.out.1.trans HI.out.1,HB.out.2.grow HI.out.1⟩)
 have HSZ:=ξ HB.out.1.size
 refine(J6D W3 (some ⟨bi,0,none⟩) 1 v HV.out (Qs HI.out.2 rfl (by simp))).mono ?_
 rintro _ w4 ⟨r4,rfl,g4,q,d,rfl,ho⟩
 have HB:=ξ (show Gr w w4∧Ja w4 bn _ from⟨HB.out.1.trans g4,HB.out.2.grow g4⟩)
 have HO:=ξ (OwnL.low ho HSZ.out)
 clear ho g4
 have c0:=HB.out.2.at 0 rfl
 have c1:=HB.out.2.at 1 rfl
 have c2:=HB.out.2.at 2 rfl
 have c3:=HB.out.2.at 3 rfl
 have c4:=HB.out.2.at 4 rfl
 have c5:=HB.out.2.at 5 rfl
 have c6:=HB.out.2.at 6 rfl
 have c7:=HB.out.2.at 7 rfl
 go_wp2_with fail
 clear c0 c1 c2 c3 c4 c5 c6 c7
 refine(Tryz.strconv_FormatInt_10_small 0 (by decide) w4).mono ?_
 rintro _ w4 ⟨rfl,rfl⟩
 go_wp2_with (at_builtin;refine Hold.hold ?_)
 have BN:=ξ (Rg w4 w.heap.size HB.out.1.size (Lib.decDigits 0))
 generalize w4.heap.size=bs at BN ⊢
 generalize w4.alloc _=W5 at BN ⊢
 refine Hold.go ?_
 refine wpList_plain rfl (fun K hK=>?_)
 refine Rf _ _ rfl w.heap.size (.slice q 1 d) _ [Lib.decDigits v] [Lib.decDigits 0] rfl (HO.out.grow BN.out.1) rfl BN.out.2.read (by simp) (by have:=HB.out.1.size;have:=BN.out.1.size;omega) (by simp) ?_
 intro q2 d2 W6 ho6 g6
 have G6:=ξ (show Gr w W6 from OwnL.gr (HO.out.grow BN.out.1) (HB.out.1.trans BN.out.1) g6)
 have HO6:=ξ ho6
 clear ho6 g6
 refine hK _ _ ?_
 clear hK K
 go_wp2_with fail
 refine(J13 W6 wSplit q2 2 d2 [Lib.decDigits v,Lib.decDigits 0] true HO6.out.read rfl (by decide) (by decide)).mono ?_
 rintro _ w7 ⟨r7,rfl,g7,q7,d7,rfl,ho7⟩
 have G7:=ξ (G6.out.trans g7)
 have HO7:=ξ (OwnL.low ho7 G6.out.size)
 clear ho7 g7
 go_wp2_with fail
 try rw[Exit.noGoto_ret]
 refine bodyPost_ret (by simp[results,Tryz.results36,go_sem];rfl) rfl ?_
 exact⟨_,rfl,G7.out,q7,d7,rfl,HO7.out⟩
theorem J6F (w:World)(p:Option Addr)(c:Nat)(u:RatM)(s:List UInt8)(z:Int)(hz:OneW s z)(htab:Tab w)(hl:SlL w 3 encRat (.slice p 1 c) [u])(hu:RatC w u.v (z:Rat)):
  Calls Tryz.prog 36 #[.agg (nodeA (nodeF p c))] w (Ret w fun r w'=>∃ q d,r = .tuple #[.slice q 2 d,.bool true]∧L0 w' w.heap.size (.slice q 2 d) [wFarkas,s]):=by
 have HZ:=ξ hz
 have HT:=ξ htab
 have HL:=ξ hl
 have HU:=ξ hu
 clear hz htab hl hu
 have HB:=ξ (Ja.new w (nodeA (nodeF p c)) 47)
 unfold nodeF at HB ⊢
 have c0:=HB.out.2.at 0 rfl
 have c1:=HB.out.2.at 1 rfl
 have c2:=HB.out.2.at 2 rfl
 have c3:=HB.out.2.at 3 rfl
 have c4:=HB.out.2.at 4 rfl
 have c5:=HB.out.2.at 5 rfl
 have c6:=HB.out.2.at 6 rfl
 have c7:=HB.out.2.at 7 rfl
 go_enter Tryz.func36,Tryz.ntmps36
 go_wp2_with fail
 clear c0 c1 c2 c3 c4 c5 c6 c7
 generalize w.heap.size=bn at HB ⊢
 generalize w.alloc _=W at HB ⊢
 refine(Mm W (nodeF p c) (exF z) 4 (Qw (sz1 HZ.out) (SlL.grow HL.out HB.out.1) (HU.out.grow HB.out.1))).mono ?_
 rintro _ w2 ⟨r2,rfl,g2,h2⟩
 rcases h2.cases with⟨rfl,k2⟩|⟨rfl,k2⟩
 rotate_left
 ·exact absurd (J50 z) k2
 have HB:=ξ (show Gr w w2∧Ja w2 bn _ from⟨HB.out.1.trans g2,HB.out.2.grow g2⟩)
 clear h2 k2 g2
 have c0:=HB.out.2.at 0 rfl
 have c1:=HB.out.2.at 1 rfl
 have c2:=HB.out.2.at 2 rfl
 have c3:=HB.out.2.at 3 rfl
 have c4:=HB.out.2.at 4 rfl
 have c5:=HB.out.2.at 5 rfl
 have c6:=HB.out.2.at 6 rfl
 have c7:=HB.out.2.at 7 rfl
 go_wp2_with fail
 clear c0 c1 c2 c3 c4 c5 c6 c7
 refine(J6A w2 p c u s z HZ.out (HT.out.grow HB.out.1) (SlL.grow HL.out HB.out.1) (HU.out.grow HB.out.1)).mono ?_
 rintro _ w4 ⟨r4,rfl,g4,q,d,rfl,ho⟩
 have HO:=ξ ho
 have G4:=ξ (HB.out.1.trans g4)
 clear ho g4
 go_wp2_with fail
 refine(J13 w4 wFarkas q 1 d [s] true HO.out.read rfl (by decide) (by decide)).mono ?_
 rintro _ w7 ⟨r7,rfl,g7,q7,d7,rfl,ho7⟩
 have G7:=ξ (G4.out.trans g7)
 have HO7:=ξ (OwnL.low ho7 G4.out.size)
 clear ho7 g7
 go_wp2_with fail
 try rw[Exit.noGoto_ret]
 refine bodyPost_ret (by simp[results,Tryz.results36,go_sem];rfl) rfl ?_
 exact⟨_,rfl,G7.out,q7,d7,rfl,HO7.out⟩
def ExX (w:World)(k:Nat)(x:Jm):Prop:=
 (k=0∧x=nodeS 0)∨(k=1∧x=nodeS 1)∨(∃ s z p c u,((k=2∧s=[49]∧z=1)∨(k=3∧s=[45,49]∧z = -1)∨(k=4∧s=[45,49]∧z = -1))∧OneW s z∧x=nodeF p c∧SlL w 3 encRat (.slice p 1 c) [u]∧RatC w u.v (z:Rat))
theorem ExX.grow {w w':World}{k:Nat}{x:Jm}(h:ExX w k x)(g:Gr w w'):ExX w' k x:=by
 rcases h with h|h|⟨s,z,p,c,u,h1,h2,h3,h4,h5⟩
 ·exact .inl h
 ·exact .inr (.inl h)
 ·exact .inr (.inr ⟨s,z,p,c,u,h1,h2,h3,SlL.grow h4 g,h5.grow g⟩)
theorem ExX.node {w:World}{k:Nat}{x:Jm}{s:Jh}(h:ExX w k x)(hs:exN[k]?=some s):Kj w x s 4:=by
 rcases h with⟨rfl,rfl⟩|⟨rfl,rfl⟩|⟨s,z,p,c,u,h1,h2,rfl,h4,h5⟩
 ·obtain rfl:exS 0=s:=by simpa[exN] using hs
  exact Tk w 0
 ·obtain rfl:exS 1=s:=by simpa[exN] using hs
  exact Tk w 1
 ·rcases h1 with⟨rfl,rfl,rfl⟩|⟨rfl,rfl,rfl⟩|⟨rfl,rfl,rfl⟩
  ·obtain rfl:exF 1=s:=by simpa[exN] using hs
   exact Qw (sz1 h2) h4 h5
  ·obtain rfl:exF (-1)=s:=by simpa[exN] using hs
   exact Qw (sz1 h2) h4 h5
  ·obtain rfl:exF (-1)=s:=by simpa[exN] using hs
   exact Qw (sz1 h2) h4 h5
def ExL (w:World)(v:Value)(n:Nat):Prop:=∃ T,SlL w 8 encNode v T∧T.length=n∧∀ k x,T[k]?=some x→ExX w k x
theorem ExL.grow {w w':World}{v:Value}{n:Nat}(h:ExL w v n)(g:Gr w w'):ExL w' v n:=by
 obtain⟨T,h1,h2,h3⟩:=h
 exact⟨T,SlL.grow h1 g,h2,fun k x hx=>(h3 k x hx).grow g⟩
theorem ExL.nodes {w:World}{v:Value}(h:ExL w v 5):J1 w v exN 4:=by
 obtain⟨T,h1,h2,h3⟩:=h
 exact⟨T,h1,h2,fun k x s hx hs=>(h3 k x hx).node hs⟩
theorem J6E (w:World)(k:Nat)(x:Jm)(hx:ExX w k x)(htab:Tab w):
  Calls Tryz.prog 36 #[.agg (nodeA x)] w (Ret w fun r w'=>∃ q d,r = .tuple #[.slice q (exW k).length d,.bool true]∧L0 w' w.heap.size (.slice q (exW k).length d) (exW k)):=by
 rcases hx with⟨rfl,rfl⟩|⟨rfl,rfl⟩|⟨s,z,p,c,u,h1,h2,rfl,h4,h5⟩
 ·have h:=J14 w 0 (by decide)
  rw[V1] at h
  exact h
 ·have h:=J14 w 1 (by decide)
  rw[V1,J2d] at h
  exact h
 ·rcases h1 with⟨rfl,rfl,rfl⟩|⟨rfl,rfl,rfl⟩|⟨rfl,rfl,rfl⟩<;>exact J6F w p c u _ _ h2 htab h4 h5
theorem J6B (w:World)(base k:Nat)(hk:k < 5)(q:Option Addr)(d:Nat)(ho:L0 w base (.slice q (exW k).length d) (exW k)):
  Calls Tryz.prog 37 #[.slice q (exW k).length d,.string ⟨#[32]⟩] w (Ret w fun r _=>r = .string ⟨(exJ k).toArray⟩):=by
 have hp:=J2V k hk
 obtain⟨bk,o,x,rfl,-,-⟩:=SlL.at1 (enc:=encS) Sj ho.read rfl (k:=0) hp.2
 have hc:∀ (j:Nat) (y:List UInt8),(exW k)[j]?=some y→w.cell? ⟨bk,o+j,none⟩=some (.string ⟨y.toArray⟩):=fun j y hy=>by
  obtain⟨b2,o2,y2,e,hy2,hc⟩:=SlL.at1 (enc:=encS) Sj ho.read rfl (k:=j) (List.getElem?_eq_some_iff.1 hy).1
  cases e
  obtain rfl:y=y2:=Option.some.inj (hy.symm.trans hy2)
  exact hc _ rfl w (Gr.refl w)
 obtain⟨p',c',e,h1,h2⟩:=ho.read.parts
 cases e
 have hlt:=World.block_lt_of_cell? (w:=w) _ (hc 0 _ (List.getElem?_eq_getElem hp.2))
 have e1:((exW k).map fun s=>(⟨s.toArray⟩:ByteArray)).length=(exW k).length:=by simp
 have e2:(((exW k).map fun s=>(⟨s.toArray⟩:ByteArray)).map (·.data.toList))=exW k:=by
  rw[List.map_map]
  exact(List.map_congr_left fun a _=>by show a.toArray.toList=id a;simp).trans (List.map_id _)
 have h:=Tryz.strings_Join bk o d ((exW k).map fun s=>(⟨s.toArray⟩:ByteArray)) ⟨#[32]⟩ w (fun j x hx=>by
  rw[List.getElem?_map] at hx
  obtain⟨y,hy,rfl⟩:=Option.map_eq_some_iff.1 hx
  exact hc j y hy) hlt (by omega) (by omega) (by rw[e2];show(Lib.join (exW k) [32]).length≤_;rw[Xn k hk];have:=Qn k;omega)
 rw[e1,e2] at h
 refine h.mono ?_
 rintro _ w' ⟨rfl,g⟩
 refine⟨_,rfl,g,?_⟩
 show Value.string ⟨(Lib.join (exW k) [32]).toArray⟩=_
 rw[Xn k hk]
theorem J0G (a b:List UInt8):(⟨a.toArray⟩:ByteArray) ++ ⟨b.toArray⟩=⟨(a ++ b).toArray⟩:=by
 apply ByteArray.ext
 simp
theorem J12 (w:World)(p:Option Addr)(c:Nat)(h:ExL w (.slice p 5 c) 5)(htab:Tab w):
  Calls Tryz.prog 19 #[.slice p 5 c] w (Ret w fun r _=>r = .string ⟨exText.toArray⟩):=by
 have HX:=ξ h
 have HT:=ξ htab
 clear h htab
 go_enter Tryz.func19,Tryz.ntmps19
 go_wp2_with fail
 refine(J0T w p 5 c rfl HX.out.nodes Xl (by decide)).mono ?_
 rintro _ w1 ⟨_,rfl,g1,rfl⟩
 have G:=ξ g1
 clear g1
 obtain⟨T,hT,hTl,hTx⟩:=HX.out
 have HX:=ξ hT
 have HTL:=ξ hTl
 have HTX:=ξ hTx
 clear hT hTl hTx
 go_wp2_with fail
 go_loopw [5,19] (fun s i w9=>∃ (k:Nat) (W1:World),W1=w9∧i = .int .i64 (k:Int)∧k≤5∧Gr w W1∧s = .string ⟨(exTx k).toArray⟩) (fun _ i _=>5 - (RowKit.intOf i).toNat)
 case atStart=>exact⟨0,_,rfl,rfl,by omega,G.out,rfl⟩
 case round=>
  obtain⟨k,W1,rfl,rfl,hk,hg,rfl⟩:=hrel
  have G:=ξ hg
  clear hg
  by_cases hk5:k < 5
  ·obtain⟨b,o,x,rfl,hx,hc⟩:=SlL.at Nd HX.out HTL.out hk5
   have HN:=ξ (HTX.out k x hx)
   have c0:=hc 0 _ rfl _ G.out
   have c1:=hc 1 _ rfl _ G.out
   have c2:=hc 2 _ rfl _ G.out
   have c3:=hc 3 _ rfl _ G.out
   have c4:=hc 4 _ rfl _ G.out
   have c5:=hc 5 _ rfl _ G.out
   have c6:=hc 6 _ rfl _ G.out
   have c7:=hc 7 _ rfl _ G.out
   rw[Nat.add_zero] at c0
   have HB:=ξ (Ja.new W1 (nodeA x) 47)
   have d0:=HB.out.2.at 0 rfl
   have d1:=HB.out.2.at 1 rfl
   have d2:=HB.out.2.at 2 rfl
   have d3:=HB.out.2.at 3 rfl
   have d4:=HB.out.2.at 4 rfl
   have d5:=HB.out.2.at 5 rfl
   have d6:=HB.out.2.at 6 rfl
   have d7:=HB.out.2.at 7 rfl
   clear hx hc
   go_wp2_with fail
   clear c0 c1 c2 c3 c4 c5 c6 c7 d0 d1 d2 d3 d4 d5 d6 d7
   generalize W1.alloc _=W2 at HB ⊢
   have G2:=ξ (G.out.trans HB.out.1)
   refine(J6E W2 k x (HN.out.grow G2.out) (HT.out.grow G2.out)).mono ?_
   rintro _ w3 ⟨_,rfl,g3,q,d,rfl,ho⟩
   have G3:=ξ (G2.out.trans g3)
   have HO:=ξ ho
   clear g3 ho
   go_wp2_with fail
   refine(J6B w3 _ k hk5 q d HO.out).mono ?_
   rintro _ w4 ⟨_,rfl,g4,rfl⟩
   have G4:=ξ (G3.out.trans g4)
   clear g4
   have h1:=Xm k
   have h2:=Qn k
   have hb1:¬ 9223372036854775807 < (exJ k).length+1:=by omega
   have hb2:¬ 9223372036854775807 < (exTx k).length+((exJ k).length+1):=by omega
   have ha1:(⟨(exJ k).toArray⟩:ByteArray) ++ ⟨#[10]⟩=⟨(exJ k ++ [10]).toArray⟩:=J0G _ [10]
   have ha2:(⟨(exTx k).toArray⟩:ByteArray) ++ ⟨(exJ k ++ [10]).toArray⟩=⟨(exTx (k+1)).toArray⟩:=J0G _ _
   go_wp2_with fail
   exact⟨⟨k+1,_,rfl,by go_num,by omega,G4.out,rfl⟩,by simp[RowKit.intOf];omega⟩
  ·obtain rfl:k=5:=by omega
   go_wp2_with fail
   go_ret
   exact⟨_,rfl,G.out,by first|rfl|(rw[J2U];rfl)|simp⟩
end Prf
end Go.Proofs.YtcjgimlcefhhmaaGreatDoor

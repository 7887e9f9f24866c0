/- Texts: PyG PyH. -/
import Derived.Test.YtcjgimlcefhhmaaGreatDoorU43
import Derived.Test.YtcjgimlcefhhmaaGreatDoorU50
set_option linter.unusedVariables false
set_option linter.unusedSimpArgs false
set_option maxRecDepth 100000
set_option maxHeartbeats 12800000
namespace Go.Proofs.YtcjgimlcefhhmaaGreatDoor
namespace Prf
open Go.RowKit Go.Lib
attribute [local go_sem] Oper.semAt_some
theorem J4T (w:World)(s t:ByteArray):
  Calls Tryz.prog 59 #[.string s,.string t,.int .i64 0] w fun e w'=>e = .returned (.func (.func 111) #[] #[.pointer (some ⟨w.heap.size+1,0,none⟩),.pointer (some ⟨w.heap.size,0,none⟩),.pointer (some ⟨w.heap.size+1+1,0,none⟩)])∧
   w'=((w.alloc (.cells #[.string s] 9)).alloc (.cells #[.string t] 9)).alloc (.cells #[.int .i64 0] 3):=by
 go_enter Tryz.func59,Tryz.ntmps59
 go_wp2_with fail
 go_ret
 first|exact⟨rfl,rfl⟩|trivial
theorem J4S (w:World)(s t:ByteArray):
  Calls Tryz.prog 32 #[.string s,.string t] w fun e w'=>e = .returned (.func (.func 111) #[] #[.pointer (some ⟨w.heap.size+1,0,none⟩),.pointer (some ⟨w.heap.size,0,none⟩),.pointer (some ⟨w.heap.size+1+1,0,none⟩)])∧
   w'=((w.alloc (.cells #[.string s] 9)).alloc (.cells #[.string t] 9)).alloc (.cells #[.int .i64 0] 3):=by
 go_enter Tryz.func32,Tryz.ntmps32
 go_wp2_with fail
 refine(J4T w s t).mono ?_
 rintro _ w1 ⟨rfl,h⟩
 have H:=ξ h
 clear h
 go_wp2_with fail
 go_ret
 exact⟨rfl,H.out⟩
theorem J6h:Lib.trimSuffix exText [10]=exRm 0:=by decide
theorem J2N {pre:List (List UInt8)}{x:List UInt8}(h:pre ++ [x] <+: exAll):pre.length < 5∧x=exJ pre.length:=by
 obtain⟨t,ht⟩:=h
 have hl:=congrArg List.length ht
 simp[exAll] at hl
 have hk:pre.length < 5:=by omega
 refine⟨hk,?_⟩
 have hx:(exAll)[pre.length]?=some x:=by rw[← ht];simp
 obtain⟨k,hk'⟩:∃ k,pre.length=k:=⟨_,rfl⟩
 rw[hk'] at hx hk ⊢
 match k,hk with
 | 0,_|1,_|2,_|3,_|4,_=>simpa[exAll] using hx.symm
structure PsI (w W:World)(b2 b3 bo n0 k:Nat):Prop where
 g:Gr w W
 c2:Ja W b2 #[.slice none 0 0]
 c3:Ja W b3 #[.int .i64 0]
 n:n0≤W.heap.size
 o:∃ p c T,Ja W bo #[.slice p k c]∧T.length=k∧ExO W n0 (.slice p k c) T
theorem PsI.kept {w W W':World}{b2 b3 bo bs n0 k:Nat}{row:Option Nat}(h:PsI w W b2 b3 bo n0 k)(hn:w.heap.size≤bs∧bs < n0∧b2 < n0∧b3 < n0∧bo < n0∧b2≠bs∧b3≠bs∧bo≠bs∧w.heap.size≤n0)(hg:W.grownBy W' row)
  (hr:∀ r,row=some r→(r=bs∧NoU W bs)∨(n0≤r∧∃ o:Obj,W.heap[r]?=some o∧o.isCells=false)):PsI w W' b2 b3 bo n0 k:=by
 have hne:∀ b,b < n0→b≠bs→some b≠row:=fun b h1 h2 e=>by
  rcases hr b e.symm with⟨h3,_⟩|⟨h3,_⟩<;>omega
 obtain⟨p,c,T,h1,h2,h3⟩:=h.o
 refine⟨Below.grown h.g hg h.g.size (fun r e=>?_),h.c2.grown hg (hne _ (by omega) (by omega)),h.c3.grown hg (hne _ (by omega) (by omega)),Nat.le_trans h.n hg.size,p,c,T,h1.grown hg (hne _ (by omega) (by omega)),h2,h3.kept hg (fun r e=>?_) (fun r e=>?_)⟩
 ·rcases hr r e with⟨h3,_⟩|⟨h3,_⟩<;>omega
 ·rcases hr r e with⟨rfl,h4⟩|⟨_,o,h4,h5⟩
  ·exact h4.d
  ·exact NoD.obj h4 h5
 ·rcases hr r e with⟨rfl,_⟩|⟨_,h4⟩
  ·exact .inl (by omega)
  ·exact .inr h4
def U5 (m:Int):Prop:=∀ (w:World) (k:Nat),k < 5→w.cell? ⟨2,0,none⟩=some (.int .i64 m)→
 Calls Tryz.prog 34 #[.string ⟨(exJ k).toArray⟩] w (Ret w fun r w'=>∃ x,r = .tuple #[.agg (nodeA x),.bool true]∧ExX w' k x∧∀ a,x.mp=some a→w.heap.size≤a.block)
structure PgSt (w W:World)(b2 b3 bo bs bp bv:Nat):Prop where
 g:Gr w W
 c2:Ja W b2 #[.slice none 0 0]
 c3:Ja W b3 #[.int .i64 0]
 co:Ja W bo #[.slice none 0 0]
 sq:Pd W bs bp bv 0
 ne:w.heap.size=b2∧b2+1=b3∧b3+1=bo∧bo+1=bs∧bs+1=bp∧bp+1=bv∧bv+1=W.heap.size
theorem J4V (w:World)(t2 t3 ts ti:TypeId):
  PgSt w ((((((w.alloc (.cells #[.slice none 0 0] t2)).alloc (.cells #[.int .i64 0] t3)).alloc (.cells #[.slice none 0 0] t2)).alloc (.cells #[.string ⟨(exRm 0).toArray⟩] ts)).alloc (.cells #[.string ⟨#[10]⟩] ts)).alloc (.cells #[.int .i64 0] ti))
   w.heap.size (w.heap.size+1) (w.heap.size+1+1) (w.heap.size+1+1+1) (w.heap.size+1+1+1+1) (w.heap.size+1+1+1+1+1):=by
 have B0:=Ja.new w #[.slice none 0 0] t2
 obtain⟨w1,h1⟩:∃ z,w.alloc (.cells #[.slice none 0 0] t2)=z:=⟨_,rfl⟩
 have s1:w1.heap.size=w.heap.size+1:=by rw[← h1];simp
 rw[h1] at B0 ⊢
 have B1:=Ja.new w1 #[.int .i64 0] t3
 obtain⟨w2,h2⟩:∃ z,w1.alloc (.cells #[.int .i64 0] t3)=z:=⟨_,rfl⟩
 have s2:w2.heap.size=w1.heap.size+1:=by rw[← h2];simp
 rw[h2] at B1 ⊢
 have B2:=Ja.new w2 #[.slice none 0 0] t2
 obtain⟨w3,h3⟩:∃ z,w2.alloc (.cells #[.slice none 0 0] t2)=z:=⟨_,rfl⟩
 have s3:w3.heap.size=w2.heap.size+1:=by rw[← h3];simp
 rw[h3] at B2 ⊢
 have B3:=Ja.new w3 #[.string ⟨(exRm 0).toArray⟩] ts
 obtain⟨w4,h4⟩:∃ z,w3.alloc (.cells #[.string ⟨(exRm 0).toArray⟩] ts)=z:=⟨_,rfl⟩
 have s4:w4.heap.size=w3.heap.size+1:=by rw[← h4];simp
 rw[h4] at B3 ⊢
 have B4:=Ja.new w4 #[.string ⟨#[10]⟩] ts
 obtain⟨w5,h5⟩:∃ z,w4.alloc (.cells #[.string ⟨#[10]⟩] ts)=z:=⟨_,rfl⟩
 have s5:w5.heap.size=w4.heap.size+1:=by rw[← h5];simp
 rw[h5] at B4 ⊢
 have B5:=Ja.new w5 #[.int .i64 0] ti
 obtain⟨w6,h6⟩:∃ z,w5.alloc (.cells #[.int .i64 0] ti)=z:=⟨_,rfl⟩
 have s6:w6.heap.size=w5.heap.size+1:=by rw[← h6];simp
 rw[h6] at B5 ⊢
 rw[← s1,← s2,← s3,← s4,← s5]
 have g45:=B4.1.trans B5.1
 have g35:=B3.1.trans g45
 have g25:=B2.1.trans g35
 have g15:=B1.1.trans g25
 exact⟨B0.1.trans g15,B0.2.grow g15,B1.2.grow g25,B2.2.grow g35,⟨B3.2.grow g45,B4.2.grow B5.1,B5.2⟩,rfl,s1.symm,s2.symm,s3.symm,s4.symm,s5.symm,s6.symm⟩
theorem J4Q (w:World)(m:Int)(hnode:U5 m)(hm:w.cell? ⟨2,0,none⟩=some (.int .i64 m))(htab:Tab w):
  Calls Tryz.prog 17 #[.string ⟨exText.toArray⟩] w (Ret w fun r w'=>∃ p c,r = .tuple #[.slice p 5 c,.int .i64 0]∧ExL w' (.slice p 5 c) 5):=by
 have HND:=ξ hnode
 have HM:=ξ hm
 have HT:=ξ htab
 clear hnode hm htab
 refine(callsIn_wide (n:=0)).1 (callsIn_of_wp_marks Tryz.func17 rfl trivial ?_ rfl)
 simp only[Tryz.ntmps17,List.size_toArray,List.length_cons,List.length_nil,Nat.reduceAdd,Nat.reduceSub,Array.replicate_succ,Array.replicate_zero,List.push_toArray,List.append_toArray,List.nil_append,List.cons_append]
 refine(wpIn_wide (n:=0)).2 ?_
 go_wp2_with fail
 refine(Tryz.strings_TrimSuffix ⟨exText.toArray⟩ ⟨#[10]⟩ _ (by decide)).mono ?_
 rintro _ w1 ⟨rfl,rfl⟩
 rw[show Lib.trimSuffix (⟨exText.toArray⟩:ByteArray).data.toList (⟨#[10]⟩:ByteArray).data.toList=exRm 0 from by rw[← J6h]]
 go_wp2_with fail
 refine(J4S _ ⟨(exRm 0).toArray⟩ ⟨#[10]⟩).mono ?_
 rintro _ w1 ⟨rfl,rfl⟩
 have HP:=ξ (J4V w 26 29 9 3)
 go_wp2_with fail
 generalize w.heap.size+1+1+1+1+1=bv at HP ⊢
 generalize w.heap.size+1+1+1+1=bp at HP ⊢
 generalize w.heap.size+1+1+1=bs at HP ⊢
 generalize w.heap.size+1+1=bo at HP ⊢
 generalize w.heap.size+1=b3 at HP ⊢
 generalize hb2:w.heap.size=b2 at HP ⊢
 generalize (((((w.alloc _).alloc _).alloc _).alloc _).alloc _).alloc _=W at HP ⊢
 have HNE:=ξ HP.out.ne
 clear hb2
 refine Rgf.J6S (gf:=111) (lb:=#[.pointer (some ⟨bp,0,none⟩),.pointer (some ⟨bs,0,none⟩),.pointer (some ⟨bv,0,none⟩)]) rfl (enters_of Tryz.func111 (by kernel_rfl) rfl) (encs:=fun x => #[.string ⟨x.toArray⟩]) (fun _=>rfl) bs bo (fun W=>NoU W bs) HP.out.sq.s.lt HP.out.co.lt exAll ?seq (fun pre W'=>PsI w W' b2 b3 bo W.heap.size pre.length) ?hI ?h0 ?a1 ?assign ?body ?done
 case seq=>
  intro l J W1 hW hJ hst hY
  have h:=J3A W.heap.size bo bs bp bv l (by have:=HNE.out;omega) J W1 hJ ⟨HP.out.sq.s.grow hW,HP.out.sq.p.grow hW,HP.out.sq.v.grow hW⟩ hst hY
  exact h
 case hI=>
  intro pre W1 W2 row h hg hr
  exact h.kept (by have:=HNE.out;omega) hg hr
 case h0=>exact⟨HP.out.g,HP.out.c2,HP.out.c3,Nat.le_refl _,none,0,[],HP.out.co,rfl,⟨Oh.nil _ _,fun k x h=>by simp at h⟩⟩
 case assign=>
  intro l x W1 K hK
  gi_wp2
  exact hK
 case body=>
  intro l pre x W1 hpre hI
  obtain⟨hk,rfl⟩:=J2N hpre
  have HI:=ξ hI
  have HK:=ξ hk
  clear hpre hI hk
  obtain⟨k,hk⟩:∃ k,pre.length=k:=⟨_,rfl⟩
  rw[hk] at HI HK
  have HPL:=ξ (show(pre ++ [exJ pre.length]).length=k+1 from by simp[hk])
  rw[hk] at HPL
  rw[hk]
  gi_wp2
  refine⟨trivial,rfl,?_⟩
  refine(CallsIn.inRound l (callsIn_wide.2 (HND.out W1 k HK.out (HI.out.g.cell HM.out)))).mono ?_
  rintro _ w2 ⟨_,rfl,g2,x,rfl,hx,hxa⟩
  obtain⟨p,c,T,hco,hTl,hO⟩:=HI.out.o
  have hown:∀ a:Addr,x.mp=some a→W.heap.size≤a.block∧(Value.slice p k c).ownBlock≠some a.block:=fun a ha=>by
   have h1:=hxa a ha
   have h2:=HI.out.n
   refine⟨by omega,fun e=>?_⟩
   have:=(World.ownsRow.lt hO.own.1 _ e).2
   omega
  have B3:=Ja.new w2 (nodeA x) 47
  obtain⟨W3,hW3⟩:∃ z,w2.alloc (.cells (nodeA x) 47)=z:=⟨_,rfl⟩
  rw[hW3] at B3
  have B4:=SlL.new (enc:=encNode) W3 47 Nd [x] (nodeA x) 1 rfl rfl (by decide)
  obtain⟨W4,hW4⟩:∃ z,W3.alloc (.cells (nodeA x) 47)=z:=⟨_,rfl⟩
  rw[hW4] at B4
  have g13:=g2.trans B3.1
  have g14:=g13.trans B4.1
  obtain⟨v',w5,hrun,hO5,hg5⟩:=ExO.push (vx:=.slice (some ⟨W3.heap.size,0,none⟩) 1 1) 26 (hO.grow g14) (by rw[hTl];exact(hx.grow B3.1).grow B4.1) hown B4.2 (by have:=HK.out;omega) (Nat.le_trans HI.out.n g14.size)
  obtain⟨p',c',hv',-,-⟩:=hO5.own.1.read.parts
  rw[List.length_append,hTl] at hv'
  subst hv'
  have hnb:(Value.slice p k c).ownBlock≠some bo:=fun e=>by
   have:=(World.ownsRow.lt hO.own.1 _ e).1
   have:=HNE.out
   omega
  have C3:=hco.grow g13
  have C5:=(hco.grow g14).grown hg5 (fun e=>hnb e.symm)
  have c0:=C3.at 0 rfl
  have c5:=C5.at 0 rfl
  have f5:=Ja.f C5 0
  have d0:=B3.2.at 0 rfl
  have d1:=B3.2.at 1 rfl
  have d2:=B3.2.at 2 rfl
  have d3:=B3.2.at 3 rfl
  have d4:=B3.2.at 4 rfl
  have d5:=B3.2.at 5 rfl
  have d6:=B3.2.at 6 rfl
  have d7:=B3.2.at 7 rfl
  have hrow:∀ r,(Value.slice p k c).ownBlock=some r→W.heap.size≤r:=fun r e=>(World.ownsRow.lt hO.own.1 r e).1
  have hu:=J8 w5 bo 0 (.slice p' (k+1) c')
  have hC6:=C5.set 0 (.slice p' (k+1) c')
  have hO6:ExO (w5.setCell ⟨bo,0,none⟩ (.slice p' (k+1) c')) W.heap.size (.slice p' (k+1) c') (T ++ [x]):=hO5.kept (Jl.set bo w5 0 _) (fun r e=>by cases e;exact(NoU.of C5 (by simp)).d) (fun r e=>by cases e;exact .inl (by have:=HNE.out;omega))
  have hno:∀ b,b < W.heap.size→some b≠(Value.slice p k c).ownBlock:=fun b hb e=>by have:=hrow b e.symm;omega
  have HF:=ξ (show KeepsOthers W1 (w5.setCell ⟨bo,0,none⟩ (.slice p' (k+1) c'))∧(∀ b,b < W.heap.size→b≠bo→(w5.setCell ⟨bo,0,none⟩ (.slice p' (k+1) c')).heap[b]?=W1.heap[b]?)∧PsI w (w5.setCell ⟨bo,0,none⟩ (.slice p' (k+1) c')) b2 b3 bo W.heap.size (k+1) from by
   have n:=HNE.out
   have hsz:=HI.out.n
   have hz5:=hg5.size
   have hz4:=g14.size
   refine⟨?_,fun b hb hne=>?_,?_⟩
   ·refine KeepsOthers.trans (KeepsOthers.trans (KeepsOthers.of_grownBy (Xy g14) (fun j o e=>by cases e)) (KeepsOthers.of_grownBy hg5 (fun j o e ho=>?_))) (KeepsOthers.setCell _ _ _)
    obtain⟨a,t,h1,_⟩:=(hO.grow g14).own.2 j e
    rw[ho] at h1
    cases h1
    rfl
   ·rw[hu b hne,hg5.block b (by omega) (hno b hb),Below.block g14 b (by omega)]
   ·refine⟨Gr.set (Below.grown (HI.out.g.trans g14) hg5 (HI.out.g.trans g14).size (fun r e=>by have:=hrow r e;omega)) (by omega) _,?_,?_,?_,p',c',T ++ [x],by simpa using hC6,by simp[hTl],hO6⟩
    ·exact((HI.out.c2.grow g14).grown hg5 (hno b2 (by omega))).upd hu (by omega)
    ·exact((HI.out.c3.grow g14).grown hg5 (hno b3 (by omega))).upd hu (by omega)
    ·show W.heap.size≤(w5.setCell _ _).heap.size
     have:(w5.setCell ⟨bo,0,none⟩ (.slice p' (k+1) c')).heap.size=w5.heap.size:=by simp[World.setCell]
     omega)
  clear g2 hx hxa hco hTl hO hown B3 B4 g13 g14 hO5 hg5 hnb C3 C5 hrow hu hC6 hO6 hno
  obtain⟨kd,mp,mn,mc,var,pos,ck,cp,cn,cc,row,vp,vn,vc2⟩:=x
  unfold nodeA at hW3 hW4
  dsimp only at hW3 hW4 d0 d1 d2 d3 d4 d5 d6 d7
  gi_wp2_with (gi_at_builtin;refine Hold.hold ?_)
  clear d0 d1 d2 d3 d4 d5 d6 d7 c0 hW3 hW4
  refine Hold.go ?_
  refine J6J rfl _ _ _ rfl _ _ _ w5 rfl rfl hrun ?_
  clear hrun
  gi_wp2
  have h:=HF.out
  refine⟨h.1,h.2.1,?_⟩
  first|exact h.2.2|(rw[HPL.out];exact h.2.2)
 case done=>
  intro D W1 hD hI hK
  have HI:=ξ hI
  have HD:=ξ hK
  have HDn:=ξ hD
  clear hI hK hD
  obtain⟨p,c,T,hco,hTl,hO⟩:=HI.out.o
  have HL:=ξ (show ExL W1 (.slice p 5 c) 5 from hO.list hTl)
  have HCO:=ξ (show Ja W1 bo #[.slice p 5 c] from hco)
  have HOO:=ξ (show ExO W1 W.heap.size (.slice p 5 c) T from hO)
  have HTL:=ξ (show T.length=5 from hTl)
  have c0:=HCO.out.at 0 rfl
  clear hco hTl hO
  go_wp2_with fail
  clear c0
  refine(J12 W1 p c HL.out (HT.out.grow HI.out.g)).mono ?_
  rintro _ w2 ⟨_,rfl,g2,rfl⟩
  have c0:=(HCO.out.grow g2).at 0 rfl
  have t2:=(HI.out.c2.grow g2).at 0 rfl
  have f2:=Ja.f (HI.out.c2.grow g2) 0
  have hne1:¬ b2=b3:=by have:=HNE.out;omega
  have hne2:¬ b3=b2:=by have:=HNE.out;omega
  obtain⟨W5,hW5⟩:∃ z,w2.setCell ⟨b2,0,none⟩ (.slice p 5 c)=z:=⟨_,rfl⟩
  have hD3:Ja W5 b3 #[.int .i64 0]:=by rw[← hW5];exact(HI.out.c3.grow g2).upd (J8 w2 b2 0 _) hne2
  have t3:=hD3.at 0 rfl
  have f3:=Ja.f hD3 0
  obtain⟨W6,hW6⟩:∃ z,W5.setCell ⟨b3,0,none⟩ (.int .i64 0)=z:=⟨_,rfl⟩
  have hF:Gr w (W6.putObj D (.deferred none))∧Ja (W6.putObj D (.deferred none)) b2 #[.slice p 5 c]∧Ja (W6.putObj D (.deferred none)) b3 #[.int .i64 0]∧W6.heap[D]?=some (.deferred (some []))∧ExL (W6.putObj D (.deferred none)) (.slice p 5 c) 5:=by
   have n:=HNE.out
   have hDn:=HDn.out
   have hDlt:D < W1.heap.size:=(Array.getElem?_eq_some_iff.1 HD.out).1
   have u5:=J8 w2 b2 0 (.slice p 5 c)
   have o5:=Jl.set b2 w2 0 (.slice p 5 c)
   have e5:=(HI.out.c2.grow g2).set 0 (.slice p 5 c)
   rw[hW5] at u5 o5 e5
   have u6:=J8 W5 b3 0 (.int .i64 0)
   have o6:=Jl.set b3 W5 0 (.int .i64 0)
   have d3:=(HI.out.c3.grow g2).upd u5 hne2
   have e6:=d3.set 0 (.int .i64 0)
   rw[hW6] at u6 o6 e6
   have k2:Ja W6 b2 #[.slice p 5 c]:=(show Ja W5 b2 #[.slice p 5 c] from by simpa using e5).upd u6 hne1
   have k3:Ja W6 b3 #[.int .i64 0]:=by simpa using e6
   have kD2:W5.heap[D]?=some (.deferred (some [])):=by rw[u5 D (by omega),Below.block g2 D hDlt];exact HD.out
   have kD:W6.heap[D]?=some (.deferred (some [])):=by rw[u6 D (by omega)];exact kD2
   have op:=grownBy_putObj' W6 D (.deferred none)
   have o1:=ExO.kept (HOO.out.grow g2) o5 (fun r e=>by cases e;exact(NoU.of (HI.out.c2.grow g2) (by simp)).d) (fun r e=>by cases e;exact .inl (by omega))
   have o2:=ExO.kept o1 o6 (fun r e=>by cases e;exact(NoU.of d3 (by simp)).d) (fun r e=>by cases e;exact .inl (by omega))
   have o3:=ExO.kept o2 op (fun r e=>by cases e;exact NoD.obj kD rfl) (fun r e=>by cases e;exact .inr ⟨_,kD,rfl⟩)
   have q1:=Below.grown (HI.out.g.trans g2) o5 (HI.out.g.trans g2).size (fun r e=>by cases e;omega)
   have q2:=Below.grown q1 o6 q1.size (fun r e=>by cases e;omega)
   have q3:=Below.grown q2 op q2.size (fun r e=>by cases e;omega)
   exact⟨q3,k2.grown op (fun e=>by cases e;omega),k3.grown op (fun e=>by cases e;omega),kD,o3.list HTL.out⟩
  have HF:=ξ hF
  clear g2 hF hD3
  go_wp2_with fail
  clear hW5 hW6 hne1 hne2 c0 t2 t3 f2 f3
  refine⟨by simp,.inl ⟨_,_,rfl,run_takeDeferred HF.out.2.2.2.1,?_⟩⟩
  have z2:=HF.out.2.1.at 0 rfl
  have z3:=HF.out.2.2.1.at 0 rfl
  refine⟨_,by simp[results,Tryz.results17,go_sem,z2,z3];rfl,?_⟩
  exact⟨_,rfl,HF.out.1,p,c,rfl,HF.out.2.2.2.2⟩
theorem J4R (m:Int):U5 m:=by
 intro w k hk hm
 have hs:=fun(w':World) (g:Gr w w')=>J4U w' k hk m (g.cell hm)
 match k,hk,hs with
 | 0,_,hs=>
  refine(Z0 w (exJ 0) [48] 0 (by decide +kernel) (by decide) hs).mono ?_
  rintro _ w1 ⟨_,rfl,g,rfl⟩
  exact⟨_,rfl,g,_,rfl,.inl ⟨rfl,rfl⟩,fun a h=>by cases h⟩
 | 1,_,hs=>
  refine(Z0 w (exJ 1) [49] 1 (by decide +kernel) (by decide) hs).mono ?_
  rintro _ w1 ⟨_,rfl,g,rfl⟩
  exact⟨_,rfl,g,_,rfl,.inr (.inl ⟨rfl,rfl⟩),fun a h=>by cases h⟩
 | 2,_,hs=>
  refine(Tm w (exJ 2) [49] 1 (.inl ⟨rfl,rfl⟩) m hm hs).mono ?_
  rintro _ w1 ⟨_,rfl,g,p,c,u,rfl,hp,h1,h2⟩
  exact⟨_,rfl,g,_,rfl,.inr (.inr ⟨_,_,p,c,u,.inl ⟨rfl,rfl,rfl⟩,.inl ⟨rfl,rfl⟩,rfl,h1,h2⟩),hp⟩
 | 3,_,hs=>
  refine(Tm w (exJ 3) [45,49] (-1) (.inr ⟨rfl,rfl⟩) m hm hs).mono ?_
  rintro _ w1 ⟨_,rfl,g,p,c,u,rfl,hp,h1,h2⟩
  exact⟨_,rfl,g,_,rfl,.inr (.inr ⟨_,_,p,c,u,.inr (.inl ⟨rfl,rfl,rfl⟩),.inr ⟨rfl,rfl⟩,rfl,h1,h2⟩),hp⟩
 | 4,_,hs=>
  refine(Tm w (exJ 4) [45,49] (-1) (.inr ⟨rfl,rfl⟩) m hm hs).mono ?_
  rintro _ w1 ⟨_,rfl,g,p,c,u,rfl,hp,h1,h2⟩
  exact⟨_,rfl,g,_,rfl,.inr (.inr ⟨_,_,p,c,u,.inr (.inr ⟨rfl,rfl,rfl⟩),.inr ⟨rfl,rfl⟩,rfl,h1,h2⟩),hp⟩
end Prf
end Go.Proofs.YtcjgimlcefhhmaaGreatDoor
namespace Go.Proofs.YtcjgimlcefhhmaaGreatDoor
namespace Prf
open Go.RowKit Go.Lib
theorem SlL.take {α:Type}{enc:α→List Value}{sz:Nat}{w:World}{p:Option Addr}{n c:Nat}{l:List α}(he:∀ x,(enc x).length=sz)(h:SlL w sz enc (.slice p n c) l)(hn:l.length=n)(k:Nat)(hk:k≤n):SlL w sz enc (.slice p k c) (l.take k):=by
 unfold SlL at h ⊢
 have hl:(l.take k).length=k:=by rw[List.length_take];omega
 obtain⟨h0,p',c',hv,h1,h2,h3⟩:=h
 cases hv
 rw[hl]
 refine⟨by rw[Kv he,hl],p,c,rfl,by omega,h2,?_⟩
 rcases h3 with h3|⟨b,o,hp,hc⟩
 ·exact .inl h3
 ·refine .inr ⟨b,o,hp,fun j u hu=>hc j u ?_⟩
  have e:l.flatMap enc=(l.take k).flatMap enc ++ (l.drop k).flatMap enc:=by rw[← List.flatMap_append,List.take_append_drop]
  rw[e,List.getElem?_append_left (by have:=(List.getElem?_eq_some_iff.1 hu).1;exact this)]
  exact hu
theorem J1.take {w:World}{q:Option Addr}{n c L:Nat}{N:List Jh}(h:J1 w (.slice q n c) N L)(k:Nat)(hk:k≤n):J1 w (.slice q k c) (N.take k) L:=by
 obtain⟨T,h1,h2,h3⟩:=h
 have hn:T.length=n:=by
  obtain⟨p',c',e,_⟩:=h1.parts
  cases e;rfl
 refine⟨T.take k,SlL.take Nd h1 hn k hk,by rw[List.length_take,List.length_take,h2],fun i s y hs hy=>?_⟩
 rw[List.getElem?_take] at hs hy
 split at hs
 ·rename_i hik
  rw[if_pos hik] at hy
  exact h3 i s y hs hy
 ·cases hs
theorem Sm:PrgI exP:=by
 refine⟨fun v hv=>?_,fun r hr=>?_⟩
 ·simp[exP] at hv
  subst hv
  unfold VarI I64 exV
  simp
 ·simp[exP] at hr
  subst hr
  unfold RowI exR exT Qb I64
  simp
theorem Sn:∀ r ∈ exP.rows,r.name.length≤1000000:=fun r hr=>by
 simp[exP] at hr
 subst hr
 simp[exR]
theorem Ym (w:World)(m:Int)(hm:w.cell? ⟨2,0,none⟩=some (.int .i64 m))(htab:Tab w):Calls Tryz.prog 7 #[] w (Ret w fun r _=>r = .bool true):=by
 have HM:=ξ hm
 have HT:=ξ htab
 clear hm htab
 go_enter Tryz.func7,Tryz.ntmps7
 go_wp2_with fail
 refine(J3F w).mono ?_
 rintro _ w1 ⟨_,rfl,g1,hp,a,c,b,d,rfl⟩
 have B:=Ja.new w1 #[.slice a 2 c,.slice b 1 d] 25
 have HB:=ξ (show Gr w _∧Ja _ w1.heap.size #[.slice a 2 c,.slice b 1 d]∧Jv _ (prgV a c b d exP) exP from⟨g1.trans B.1,B.2,hp.grow B.1⟩)
 clear B hp g1
 have hpv:prgV a c b d exP = .agg #[.slice a 2 c,.slice b 1 d]:=rfl
 rw[hpv] at HB ⊢
 clear hpv
 go_wp2_with fail
 generalize w1.heap.size=bp at HB ⊢
 generalize w1.alloc _=W at HB ⊢
 refine(J4Q W m (J4R m) (HB.out.1.cell HM.out) (HT.out.grow HB.out.1)).mono ?_
 rintro _ w2 ⟨_,rfl,g2,p,c',rfl,hx⟩
 have HX:=ξ hx
 have G2:=ξ g2
 clear hx g2
 go_wp2_with fail
 refine(J0T w2 p 5 c' rfl HX.out.nodes Xl (by decide)).mono ?_
 rintro _ w3 ⟨_,rfl,g3,rfl⟩
 have G3:=ξ (G2.out.trans g3)
 have HX:=ξ (HX.out.grow g3)
 clear g3
 go_wp2_with fail
 have p0:∀ w',Gr w3 w'→w'.cell? ⟨bp,0,none⟩=some (.slice a 2 c):=fun w' g=>(HB.out.2.1.grow (G3.out.trans g)).at 0 rfl
 have p1:∀ w',Gr w3 w'→w'.cell? ⟨bp,1,none⟩=some (.slice b 1 d):=fun w' g=>(HB.out.2.1.grow (G3.out.trans g)).at 1 rfl
 have hle:(1:Int)≤5:=by decide
 have HTK:=ξ (HX.out.nodes.take 1 (by decide))
 have g0:Gr w3 w3.drew:=(Gr.refl _).drew
 have hc5':(1:Int)≤(c':Int):=by
  obtain⟨p5,c5,e5,hc5,_⟩:=HX.out.nodes.parts
  injection e5 with e6 e7 e8
  have h5:exN.length=5:=rfl
  omega
 refine Jp [(0,true),(1,true),(2,true),(3,true),(4,true),(5,true),(6,true),(7,true),(8,true),(9,true),(10,true),(11,true),(12,true),(13,true),(14,true),(15,true),(16,true),(17,false),(18,true),(19,true),(20,true),(21,true),(22,true),(23,true),(24,false),(25,true),(26,true),(27,true),(28,true),(29,false),(30,true),(31,true),(32,true),(33,true),(34,true),(35,true),(36,false),(37,true),(38,true),(39,true)] (by kernel_rfl) (by kernel_rfl) rfl (by kernel_rfl) (fun _ _ d _ _ h=>by cases d<;>exact h) ?_
 generalize w3.drew=Wd at g0 ⊢
 repeat(refine Jf (v:=?_) g0 rfl rfl (fun w' hg=>?_) (fun K hK=>?_);rotate_left;(go_simp;rfl);go_simp;refine hK _ _ ?_;clear hK K)
 refine Jd (args:=?_) rfl rfl rfl rfl rfl rfl (by kernel_rfl) (by kernel_rfl) ?_ (fun K hK=>?_)
 rotate_left
 ·go_simp;rfl
 refine(Rd Wd (.agg #[.slice a 2 c,.slice b 1 d]) exP exN p 5 c' rfl (HB.out.2.2.grow (G3.out.trans g0)) (HX.out.grow g0).nodes Sm Sn (by decide) (by decide) Sk).mono ?_
 rintro _ w4 ⟨r4,rfl,g4,h4⟩
 obtain rfl:r4 = .int .i64 0:=by
  rcases h4 with⟨h,_⟩|⟨_,_,h⟩|⟨_,h,_⟩
  ·exact absurd So h
  ·exact h
  ·exact absurd Sp h
 clear h4
 refine⟨_,rfl,g4,?_⟩
 go_simp
 refine hK _ _ ?_
 clear hK K
 replace g0:=g0.trans g4
 clear g4
 repeat(refine Jf (v:=?_) g0 rfl rfl (fun w' hg=>?_) (fun K hK=>?_);rotate_left;(go_simp;rfl);go_simp;refine hK _ _ ?_;clear hK K)
 refine Jd (args:=?_) rfl rfl rfl rfl rfl rfl (by kernel_rfl) (by kernel_rfl) ?_ (fun K hK=>?_)
 rotate_left
 ·go_simp;rfl
 refine(Rd w4 (.agg #[.slice a 2 c,.slice b 1 d]) exP (exN.take 1) p 1 c' rfl (HB.out.2.2.grow (G3.out.trans g0)) (HTK.out.grow g0) Sm Sn (by decide) (by decide) (fun n hn=>Sk n (List.mem_of_mem_take hn))).mono ?_
 rintro _ w5 ⟨r5,rfl,g5,h5⟩
 obtain rfl:r5 = .int .i64 13:=by
  rcases h5 with⟨h,_⟩|⟨_,h,_⟩|⟨_,_,h⟩
  ·exact absurd So h
  ·exact absurd h J2W
  ·exact h
 clear h5
 refine⟨_,rfl,g5,?_⟩
 go_simp
 refine hK _ _ ?_
 clear hK K
 replace g0:=g0.trans g5
 clear g5
 repeat(refine Jf (v:=?_) g0 rfl rfl (fun w' hg=>?_) (fun K hK=>?_);rotate_left;(go_simp;rfl);go_simp;refine hK _ _ ?_;clear hK K)
 refine Jd (args:=?_) rfl rfl rfl rfl rfl rfl (by kernel_rfl) (by kernel_rfl) ?_ (fun K hK=>?_)
 rotate_left
 ·go_simp;rfl
 refine(J12 w5 p c' (HX.out.grow g0) (HT.out.grow (HB.out.1.trans (G3.out.trans g0)))).mono ?_
 rintro _ w6 ⟨_,rfl,g6,rfl⟩
 unfold exText
 refine⟨_,rfl,g6,?_⟩
 go_simp
 refine hK _ _ ?_
 clear hK K
 replace g0:=g0.trans g6
 clear g6
 repeat(refine Jf (v:=?_) g0 rfl rfl (fun w' hg=>?_) (fun K hK=>?_);rotate_left;(go_simp;rfl);go_simp;refine hK _ _ ?_;clear hK K)
 refine Jd (args:=?_) rfl rfl rfl rfl rfl rfl (by kernel_rfl) (by kernel_rfl) ?_ (fun K hK=>?_)
 rotate_left
 ·go_simp;rfl
 refine(J6k w6 (.agg #[.slice a 2 c,.slice b 1 d]) exP exN p 5 c' rfl (HB.out.2.2.grow (G3.out.trans g0)) (HX.out.grow g0).nodes Sm Sn (by decide) (by decide) Sk So Sp).mono ?_
 rintro _ w7 ⟨_,rfl,g7,rfl⟩
 refine⟨_,rfl,g7,?_⟩
 go_simp
 refine hK _ _ ?_
 clear hK K
 replace g0:=g0.trans g7
 clear g7
 repeat(refine Jf (v:=?_) g0 rfl rfl (fun w' hg=>?_) (fun K hK=>?_);rotate_left;(go_simp;rfl);go_simp;refine hK _ _ ?_;clear hK K)
 refine Ji ?_
 have GZ:=ξ (HB.out.1.trans (G3.out.trans g0))
 clear p0 p1 g0
 go_wp2_with fail
 go_ret
 exact⟨_,rfl,GZ.out,rfl⟩
end Prf
end Go.Proofs.YtcjgimlcefhhmaaGreatDoor

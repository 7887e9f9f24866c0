/- Texts: PyD. -/
import Derived.Test.YtcjgimlcefhhmaaGreatDoorU14
import Derived.Test.YtcjgimlcefhhmaaGreatDoorU33
import Derived.Test.YtcjgimlcefhhmaaGreatDoorU46
import Derived.Test.YtcjgimlcefhhmaaGreatDoorU47
set_option linter.unusedVariables false
set_option linter.unusedSimpArgs false
set_option maxRecDepth 100000
set_option maxHeartbeats 12800000
namespace Go.Proofs.YtcjgimlcefhhmaaGreatDoor
namespace Prf
open Go.RowKit Go.Lib
theorem SlL.grownA {α:Type}{enc:α→List Value}{sz:Nat}{w w':World}{row:Option Nat}{p:Option Addr}{n c:Nat}{l:List α}(h:SlL w sz enc (.slice p n c) l)(hg:w.grownBy w' row)(ho:∀ a,p=some a→some a.block≠row):SlL w' sz enc (.slice p n c) l:=by
 obtain⟨h0,p',c',hv,h1,h2,h3⟩:=h
 cases hv
 refine⟨h0,p,c,rfl,h1,h2,?_⟩
 rcases h3 with h3|⟨b,o,hp,hc⟩
 ·exact .inl h3
 ·exact .inr ⟨b,o,hp,fun j u hj=>hg.cell (hc j u hj) (show some b≠row from ho ⟨b,o,none⟩ hp)⟩
theorem Xj {w:World}(f:FuncId)(caps:Array Value):(binOp .eql 1 (.func (.func f) #[] caps) .nilFunc).run Tryz.prog w = .ok (.bool false) w:=by
 have h:=Tryz.underlying1
 have h1:(Op.equal 1 (.func (.func f) #[] caps) .nilFunc).run Tryz.prog w = .ok false w:=by
  have h2:∀ d:Nat,(Op.equalIn (d+1) 1 (.func (.func f) #[] caps) .nilFunc).run Tryz.prog w = .ok false w:=fun d=>by simp[Op.equalIn,run_underlying h]
  exact h2 9999
 simp only[binOp]
 simp[h1]
theorem Lv {s:ByteArray}:MapKept.IsKey .string (.string s):=by unfold MapKept.IsKey;trivial
def kFarkas:ByteArray:=⟨#[102,97,114,107,97,115]⟩
def kEmpty:ByteArray:=⟨#[101,109,112,116,121]⟩
def kSplit:ByteArray:=⟨#[115,112,108,105,116]⟩
def kRound:ByteArray:=⟨#[114,111,117,110,100]⟩
def kCover:ByteArray:=⟨#[99,111,118,101,114]⟩
def fnN (f bx bn:Nat):Value:=.func (.func f) #[] #[.pointer (some ⟨bx,0,none⟩),.pointer (some ⟨bn,0,none⟩)]
def formsE (bx bn:Nat):Array MapEntry:=#[{ key:=.string kFarkas,val:=fnN 62 bx bn,born:=0 },{ key:=.string kEmpty,val:=fnN 64 bx bn,born:=1 },
 { key:=.string kSplit,val:=fnN 66 bx bn,born:=2 },{ key:=.string kRound,val:=fnN 67 bx bn,born:=3 },{ key:=.string kCover,val:=fnN 68 bx bn,born:=4 }]
def formsL (bx bn:Nat):List (Value × Value):=[(.string kFarkas,fnN 62 bx bn),(.string kEmpty,fnN 64 bx bn),(.string kSplit,fnN 66 bx bn),(.string kRound,fnN 67 bx bn),(.string kCover,fnN 68 bx bn)]
theorem J32 (bx bn:Nat):fkv .string (.string kFarkas) (formsL bx bn)=some (some (fnN 62 bx bn)):=rfl
theorem J33 (bx bn:Nat):fkv .string (.string kSplit) (formsL bx bn)=some (some (fnN 66 bx bn)):=rfl
theorem J65 (k:Nat)(hk:k < 5):Lib.countB ⟨(exJ k).toArray⟩ ⟨#[32]⟩+1=(exW k).length∧Lib.splitB ⟨#[32]⟩ 0 (Lib.countB ⟨(exJ k).toArray⟩ ⟨#[32]⟩) ⟨(exJ k).toArray⟩=(exW k).map fun s=>⟨s.toArray⟩:=by
 match k,hk with
 | 0,_|1,_|2,_|3,_|4,_=>exact⟨by decide +kernel,by decide +kernel⟩
theorem J4U (w:World)(k:Nat)(hk:k < 5)(m:Int)(hm:w.cell? ⟨2,0,none⟩=some (.int .i64 m)):
  Calls Tryz.prog 61 #[.string ⟨(exJ k).toArray⟩,.string ⟨#[32]⟩] w fun e w'=>e = .returned (.slice (some ⟨w.heap.size,0,none⟩) (exW k).length (exW k).length)∧w'=w.alloc (.cells ((exW k).map fun s=>Value.string ⟨s.toArray⟩).toArray 9):=by
 refine(Tryz.strings_Split ⟨(exJ k).toArray⟩ ⟨#[32]⟩ m w (by have:=Qn k;show(exJ k).toArray.size < _;simp;omega) hm (by decide)).mono ?_
 rintro _ _ ⟨rfl,rfl⟩
 obtain⟨e1,e2⟩:=J65 k hk
 rw[e2,e1,List.map_map]
 exact⟨rfl,rfl⟩
structure PdSt (w u W:World)(b0 bl br bx bn:Nat)(ws:Array Value)(wv:Value):Prop where
 g0:Gr w u
 g:Gr u W
 c0:Ja u b0 nodeZ
 cl:Ja W bl ws
 cr:Ja W br #[wv,.bool false]
 cx:Ja W bx #[.pointer (some ⟨br,0,none⟩)]
 cn:Ja W bn nodeZ
 ne:w.heap.size=b0∧b0+1=bl∧bl+1=br∧br+1=bx∧bx+1=bn∧u.heap.size=bl
theorem PdSt.grow {w u W W':World}{b0 bl br bx bn:Nat}{ws:Array Value}{wv:Value}(h:PdSt w u W b0 bl br bx bn ws wv)(g:Gr W W'):PdSt w u W' b0 bl br bx bn ws wv:=
 ⟨h.g0,h.g.trans g,h.c0,h.cl.grow g,h.cr.grow g,h.cx.grow g,h.cn.grow g,h.ne⟩
theorem PdSt.env {w u W:World}{b0 bl br bx bn:Nat}{ws:Array Value}{wv:Value}(h:PdSt w u W b0 bl br bx bn ws wv):Ly u W bx br bn wv nodeZ:=
 ⟨h.g,h.cx,h.cr,h.cn,by have:=h.ne;omega⟩
theorem Z1 (w:World)(ws:Array Value)(wv:Value)(ts tr tx tn:TypeId):
  PdSt w (w.alloc (.cells nodeZ tn)) (((((w.alloc (.cells nodeZ tn)).alloc (.cells ws ts)).alloc (.cells #[wv,.bool false] tr)).alloc (.cells #[.pointer (some ⟨w.heap.size+1+1,0,none⟩)] tx)).alloc (.cells nodeZ tn)) w.heap.size (w.heap.size+1) (w.heap.size+1+1) (w.heap.size+1+1+1) (w.heap.size+1+1+1+1) ws wv:=by
 have B0:=Ja.new w nodeZ tn
 have B1:=Ja.new (w.alloc (.cells nodeZ tn)) ws ts
 have B2:=Ja.new ((w.alloc (.cells nodeZ tn)).alloc (.cells ws ts)) #[wv,.bool false] tr
 have B3:=Ja.new (((w.alloc (.cells nodeZ tn)).alloc (.cells ws ts)).alloc (.cells #[wv,.bool false] tr)) #[.pointer (some ⟨w.heap.size+1+1,0,none⟩)] tx
 have B4:=Ja.new ((((w.alloc (.cells nodeZ tn)).alloc (.cells ws ts)).alloc (.cells #[wv,.bool false] tr)).alloc (.cells #[.pointer (some ⟨w.heap.size+1+1,0,none⟩)] tx)) nodeZ tn
 simp only[World.size_alloc] at B1 B2 B3 B4
 have g34:=B3.1.trans B4.1
 have g24:=B2.1.trans g34
 have g14:=B1.1.trans g24
 exact⟨B0.1,g14,B0.2,B1.2.grow g24,B2.2.grow g34,B3.2.grow B4.1,B4.2,rfl,rfl,rfl,rfl,rfl,by simp⟩
def PdI (bx br bn:Nat)(q:Option Addr)(A:Array Value)(w':World):Prop:=Ja w' bx #[.pointer (some ⟨br,0,none⟩)]∧Ja w' br #[.slice q 0 0,.bool false]∧Ja w' bn A
theorem PdI.upd {bx br bn b:Nat}{q:Option Addr}{A:Array Value}{w w':World}(h:PdI bx br bn q A w)(hu:Upd b w w')(h1:bx≠b)(h2:br≠b)(h3:bn≠b):PdI bx br bn q A w':=⟨h.1.upd hu h1,h.2.1.upd hu h2,h.2.2.upd hu h3⟩
theorem Z0 (w:World)(ln d:List UInt8)(v:Int)(hp:Lib.parseIntB 64 d = .ok v)(hl:d.length≤1000)
  (hs:∀ w',Gr w w'→Calls Tryz.prog 61 #[.string ⟨ln.toArray⟩,.string ⟨#[32]⟩] w' fun e w''=>e = .returned (.slice (some ⟨w'.heap.size,0,none⟩) 3 3)∧w''=w'.alloc (.cells #[.string kSplit,.string ⟨d.toArray⟩,.string ⟨#[48]⟩] 9)):
  Calls Tryz.prog 34 #[.string ⟨ln.toArray⟩] w (Ret w fun r _=>r = .tuple #[.agg (nodeA (nodeS v)),.bool true]):=by
 have HPI:=ξ hp
 have HL:=ξ hl
 have HS:=ξ hs
 clear hp hl hs
 go_enter Tryz.func34,Tryz.ntmps34
 go_wp2_with fail
 refine(HS.out _ ((Gr.refl w).alloc _)).mono ?_
 rintro _ _ ⟨rfl,rfl⟩
 have e0:=World.size_alloc w (.cells nodeZ 47)
 have HP:=ξ (Z1 w #[.string kSplit,.string ⟨d.toArray⟩,.string ⟨#[48]⟩] (.slice (some ⟨w.heap.size+1,1,none⟩) 2 2) 9 108 106 47)
 go_wp2_with fail
 clear e0
 generalize hbn:w.heap.size+1+1+1+1=bn at HP ⊢
 generalize hbx:w.heap.size+1+1+1=bx at HP ⊢
 generalize hbr:w.heap.size+1+1=br at HP ⊢
 generalize hbl:w.heap.size+1=bl at HP ⊢
 generalize hb0:w.heap.size=b0 at HP ⊢
 clear hbn hbx hbr hbl
 generalize ((((w.alloc _).alloc _).alloc _).alloc _).alloc _=W at HP ⊢
 generalize w.alloc _=u at HP
 have hmk:=run_makeMap (P:=Tryz.prog) 112 W
 have hs0:=Ks (P:=Tryz.prog) (w:=W) (es:=((formsE bx bn).extract 0 0)) (c:=0) (t:=112) (key:=.string kFarkas) (fnN 62 bx bn) Tryz.underlying112 Tryz.underlying9 Lv rfl rfl
 have hs1:=Ks (P:=Tryz.prog) (w:=W) (es:=((formsE bx bn).extract 0 1)) (c:=1) (t:=112) (key:=.string kEmpty) (fnN 64 bx bn) Tryz.underlying112 Tryz.underlying9 Lv rfl rfl
 have hs2:=Ks (P:=Tryz.prog) (w:=W) (es:=((formsE bx bn).extract 0 2)) (c:=2) (t:=112) (key:=.string kSplit) (fnN 66 bx bn) Tryz.underlying112 Tryz.underlying9 Lv rfl rfl
 have hs3:=Ks (P:=Tryz.prog) (w:=W) (es:=((formsE bx bn).extract 0 3)) (c:=3) (t:=112) (key:=.string kRound) (fnN 67 bx bn) Tryz.underlying112 Tryz.underlying9 Lv rfl rfl
 have hs4:=Ks (P:=Tryz.prog) (w:=W) (es:=((formsE bx bn).extract 0 4)) (c:=4) (t:=112) (key:=.string kCover) (fnN 68 bx bn) Tryz.underlying112 Tryz.underlying9 Lv rfl rfl
 simp only[formsE,fnN,kFarkas,kEmpty,kSplit,kRound,kCover,List.push_toArray,List.nil_append,List.cons_append,Array.push_empty,Nat.zero_add,Nat.reduceAdd,List.extract_toArray,List.extract_eq_take_drop,List.take,List.drop,Nat.sub_zero] at hs0 hs1 hs2 hs3 hs4
 have hma:K0 (W.alloc (.map (formsE bx bn) 5)) W.heap.size (formsL bx bn):=⟨_,_,(MapKept.heap_alloc W _).1,rfl⟩
 have gm:Gr W (W.alloc (.map (formsE bx bn) 5)):=(Gr.refl _).alloc _
 have hl:=(K9 hma Tryz.underlying112 Tryz.underlying9 Lv (J33 bx bn)).1
 simp only[formsE,fnN,kFarkas,kEmpty,kSplit,kRound,kCover] at hl
 have hq:=fun w=>Xj (w:=w)
 have c0:=(HP.out.cl.grow gm).at 0 rfl
 have x0:=(HP.out.cx.grow gm).at 0 rfl
 simp only[formsE,fnN,kFarkas,kEmpty,kSplit,kRound,kCover] at c0 x0
 simp only[formsE,fnN,kFarkas,kEmpty,kSplit,kRound,kCover] at gm
 have HP:=ξ (HP.out.grow gm)
 clear hma gm
 rw[hmk]
 go_wp2_with fail
 clear hmk hs0 hs1 hs2 hs3 hs4 hl hq c0 x0
 generalize W.heap.size=bm
 generalize W.alloc _=WM at HP ⊢
 refine(J3X u WM bx br bn bl 1 0 d [48] v 0 HP.out.env (by have:=HP.out.ne;omega) (HP.out.cl.at 1 rfl) (HP.out.cl.at 2 rfl) HPI.out (by decide +kernel) HL.out (by decide)).mono ?_
 rintro _ W6 ⟨r6,q,rfl,he⟩
 have HE:=ξ he
 clear he
 unfold nodeA at HE
 go_wp2_with fail
 have HN:=ξ HP.out.ne
 have hI0:PdI bx br bn (q) #[.int .i64 2,.slice none 0 0,.int .i64 v,.int .i64 0,.int .i64 0,.slice none 0 0,.int .i64 0,.slice none 0 0] W6.drew:=⟨HE.out.x,HE.out.r,HE.out.n⟩
 have y0:∀ w',PdI bx br bn (q) #[.int .i64 2,.slice none 0 0,.int .i64 v,.int .i64 0,.int .i64 0,.slice none 0 0,.int .i64 0,.slice none 0 0] w'→w'.cell? ⟨bx,0,none⟩=some (.pointer (some ⟨br,0,none⟩)):=fun w' h=>h.1.at 0 rfl
 have y1:∀ w',PdI bx br bn (q) #[.int .i64 2,.slice none 0 0,.int .i64 v,.int .i64 0,.int .i64 0,.slice none 0 0,.int .i64 0,.slice none 0 0] w'→w'.cell? ⟨br,0,none⟩=some (.slice q 0 0):=fun w' h=>h.2.1.at 0 rfl
 have y2:∀ w',PdI bx br bn (q) #[.int .i64 2,.slice none 0 0,.int .i64 v,.int .i64 0,.int .i64 0,.slice none 0 0,.int .i64 0,.slice none 0 0] w'→w'.cell? ⟨br,1,none⟩=some (.bool false):=fun w' h=>h.2.1.at 1 rfl
 have z0:∀ w',PdI bx br bn (q) #[.int .i64 2,.slice none 0 0,.int .i64 v,.int .i64 0,.int .i64 0,.slice none 0 0,.int .i64 0,.slice none 0 0] w'→w'.cell? ⟨bn,0,none⟩=some (.int .i64 2):=fun w' h=>h.2.2.at 0 rfl
 have z1:∀ w',PdI bx br bn (q) #[.int .i64 2,.slice none 0 0,.int .i64 v,.int .i64 0,.int .i64 0,.slice none 0 0,.int .i64 0,.slice none 0 0] w'→w'.cell? ⟨bn,1,none⟩=some (.slice none 0 0):=fun w' h=>h.2.2.at 1 rfl
 have z2:∀ w',PdI bx br bn (q) #[.int .i64 2,.slice none 0 0,.int .i64 v,.int .i64 0,.int .i64 0,.slice none 0 0,.int .i64 0,.slice none 0 0] w'→w'.cell? ⟨bn,2,none⟩=some (.int .i64 v):=fun w' h=>h.2.2.at 2 rfl
 have z3:∀ w',PdI bx br bn (q) #[.int .i64 2,.slice none 0 0,.int .i64 v,.int .i64 0,.int .i64 0,.slice none 0 0,.int .i64 0,.slice none 0 0] w'→w'.cell? ⟨bn,3,none⟩=some (.int .i64 0):=fun w' h=>h.2.2.at 3 rfl
 have z4:∀ w',PdI bx br bn (q) #[.int .i64 2,.slice none 0 0,.int .i64 v,.int .i64 0,.int .i64 0,.slice none 0 0,.int .i64 0,.slice none 0 0] w'→w'.cell? ⟨bn,4,none⟩=some (.int .i64 0):=fun w' h=>h.2.2.at 4 rfl
 have z5:∀ w',PdI bx br bn (q) #[.int .i64 2,.slice none 0 0,.int .i64 v,.int .i64 0,.int .i64 0,.slice none 0 0,.int .i64 0,.slice none 0 0] w'→w'.cell? ⟨bn,5,none⟩=some (.slice none 0 0):=fun w' h=>h.2.2.at 5 rfl
 have z6:∀ w',PdI bx br bn (q) #[.int .i64 2,.slice none 0 0,.int .i64 v,.int .i64 0,.int .i64 0,.slice none 0 0,.int .i64 0,.slice none 0 0] w'→w'.cell? ⟨bn,6,none⟩=some (.int .i64 0):=fun w' h=>h.2.2.at 6 rfl
 have z7:∀ w',PdI bx br bn (q) #[.int .i64 2,.slice none 0 0,.int .i64 v,.int .i64 0,.int .i64 0,.slice none 0 0,.int .i64 0,.slice none 0 0] w'→w'.cell? ⟨bn,7,none⟩=some (.slice none 0 0):=fun w' h=>h.2.2.at 7 rfl
 refine Inv.Of (PdI bx br bn (q) #[.int .i64 2,.slice none 0 0,.int .i64 v,.int .i64 0,.int .i64 0,.slice none 0 0,.int .i64 0,.slice none 0 0]) (.read 0 (.read 1 (.read 2 (.read 3 (.read 4 (.read 5 (.read 6 (.read 7 (.read 8 (.read 9 (.read 10 (.read 11 (.read 12 (.read 13 (.one 14 (.read 15 .stop)))))))))))))))) hI0 (by kernel_rfl) (by kernel_rfl) rfl (by kernel_rfl) (fun _ _ d _ _ h=>by cases d<;>exact h) ?_
 have HG7:=ξ (show Gr u W6.drew from HE.out.g.drew)
 have HI:=ξ hI0
 have HG67:=ξ (show Gr W6 W6.drew from(Gr.refl W6).drew)
 clear hI0
 generalize W6.drew=W7 at HG7 HG67 HI ⊢
 have HC:=ξ (HP.out.c0.grow HG7.out)
 repeat(first|(refine Inv.Lw (v:=?_) rfl rfl (fun w' hg=>?_) (fun K hK=>?_);rotate_left;(go_simp;rfl);go_simp;refine hK _ _ ?_;clear hK K))
 clear y0 y1 y2 z0 z1 z2 z3 z4 z5 z6 z7
 have g0:=HC.out.at 0 rfl
 have f0:=Ja.f HC.out 0
 have g1:=HC.out.at 1 rfl
 have f1:=Ja.f HC.out 1
 have g2:=HC.out.at 2 rfl
 have f2:=Ja.f HC.out 2
 have g3:=HC.out.at 3 rfl
 have f3:=Ja.f HC.out 3
 have g4:=HC.out.at 4 rfl
 have f4:=Ja.f HC.out 4
 have g5:=HC.out.at 5 rfl
 have f5:=Ja.f HC.out 5
 have g6:=HC.out.at 6 rfl
 have f6:=Ja.f HC.out 6
 have g7:=HC.out.at 7 rfl
 have f7:=Ja.f HC.out 7
 have hx:=fill8 (.int .i64 2) (.slice none 0 0) (.int .i64 v) (.int .i64 0) (.int .i64 0) (.slice none 0 0) (.int .i64 0) (.slice none 0 0) HC.out
 unfold set8 at hx
 have HX:=ξ (And.intro hx.2.1 (And.intro (HI.out.upd hx.2.2 (by have:=HN.out;omega) (by have:=HN.out;omega) (by have:=HN.out;omega)) (And.intro (show Gr w _ from Below.grown (HP.out.g0.trans HG7.out) hx.1 (HP.out.g0.trans HG7.out).size (fun k e=>by cases e;exact Nat.le_of_eq HN.out.1)) (And.intro hx.1 hx.2.2))))
 clear hx
 refine Inv.Rj rfl rfl (fun K hK=>?_)
 go_simp
 generalize World.setCell _ _ _=W8 at HX ⊢
 refine⟨HX.out.2.1,hK _ _ ?_⟩
 clear hK K g0 g1 g2 g3 g4 g5 g6 g7 f0 f1 f2 f3 f4 f5 f6 f7
 repeat(first|(refine Inv.Lw (v:=?_) rfl rfl (fun w' hg=>?_) (fun K hK=>?_);rotate_left;(go_simp;rfl);go_simp;refine hK _ _ ?_;clear hK K))
 refine Inv.Nw ?_
 go_wp2_with fail
 have g0:=HX.out.1.at 0 rfl
 have g1:=HX.out.1.at 1 rfl
 have g2:=HX.out.1.at 2 rfl
 have g3:=HX.out.1.at 3 rfl
 have g4:=HX.out.1.at 4 rfl
 have g5:=HX.out.1.at 5 rfl
 have g6:=HX.out.1.at 6 rfl
 have g7:=HX.out.1.at 7 rfl
 refine bodyPost_ret (by simp[results,Tryz.results34,go_sem,g0,g1,g2,g3,g4,g5,g6,g7];rfl) rfl ?_
 exact⟨_,rfl,HX.out.2.2.1,rfl⟩
theorem Tm (w:World)(ln s:List UInt8)(z:Int)(hz:OneW s z)(m:Int)(hm:w.cell? ⟨2,0,none⟩=some (.int .i64 m))
  (hs:∀ w',Gr w w'→Calls Tryz.prog 61 #[.string ⟨ln.toArray⟩,.string ⟨#[32]⟩] w' fun e w''=>e = .returned (.slice (some ⟨w'.heap.size,0,none⟩) 2 2)∧w''=w'.alloc (.cells #[.string kFarkas,.string ⟨s.toArray⟩] 9)):
  Calls Tryz.prog 34 #[.string ⟨ln.toArray⟩] w (Ret w fun r w'=>∃ p c u,r = .tuple #[.agg (nodeA (nodeF p c)),.bool true]∧(∀ a,p=some a→w.heap.size≤a.block)∧SlL w' 3 encRat (.slice p 1 c) [u]∧RatC w' u.v (z:Rat)):=by
 have HZ:=ξ hz
 have HM:=ξ hm
 have HS:=ξ hs
 clear hz hm hs
 go_enter Tryz.func34,Tryz.ntmps34
 go_wp2_with fail
 refine(HS.out _ ((Gr.refl w).alloc _)).mono ?_
 rintro _ _ ⟨rfl,rfl⟩
 have e0:=World.size_alloc w (.cells nodeZ 47)
 have HP:=ξ (Z1 w #[.string kFarkas,.string ⟨s.toArray⟩] (.slice (some ⟨w.heap.size+1,1,none⟩) 1 1) 9 108 106 47)
 go_wp2_with fail
 clear e0
 generalize hbn:w.heap.size+1+1+1+1=bn at HP ⊢
 generalize hbx:w.heap.size+1+1+1=bx at HP ⊢
 generalize hbr:w.heap.size+1+1=br at HP ⊢
 generalize hbl:w.heap.size+1=bl at HP ⊢
 generalize hb0:w.heap.size=b0 at HP ⊢
 clear hbn hbx hbr hbl
 generalize ((((w.alloc _).alloc _).alloc _).alloc _).alloc _=W at HP ⊢
 generalize w.alloc _=u at HP
 have hmk:=run_makeMap (P:=Tryz.prog) 112 W
 have hs0:=Ks (P:=Tryz.prog) (w:=W) (es:=((formsE bx bn).extract 0 0)) (c:=0) (t:=112) (key:=.string kFarkas) (fnN 62 bx bn) Tryz.underlying112 Tryz.underlying9 Lv rfl rfl
 have hs1:=Ks (P:=Tryz.prog) (w:=W) (es:=((formsE bx bn).extract 0 1)) (c:=1) (t:=112) (key:=.string kEmpty) (fnN 64 bx bn) Tryz.underlying112 Tryz.underlying9 Lv rfl rfl
 have hs2:=Ks (P:=Tryz.prog) (w:=W) (es:=((formsE bx bn).extract 0 2)) (c:=2) (t:=112) (key:=.string kSplit) (fnN 66 bx bn) Tryz.underlying112 Tryz.underlying9 Lv rfl rfl
 have hs3:=Ks (P:=Tryz.prog) (w:=W) (es:=((formsE bx bn).extract 0 3)) (c:=3) (t:=112) (key:=.string kRound) (fnN 67 bx bn) Tryz.underlying112 Tryz.underlying9 Lv rfl rfl
 have hs4:=Ks (P:=Tryz.prog) (w:=W) (es:=((formsE bx bn).extract 0 4)) (c:=4) (t:=112) (key:=.string kCover) (fnN 68 bx bn) Tryz.underlying112 Tryz.underlying9 Lv rfl rfl
 simp only[formsE,fnN,kFarkas,kEmpty,kSplit,kRound,kCover,List.push_toArray,List.nil_append,List.cons_append,Array.push_empty,Nat.zero_add,Nat.reduceAdd,List.extract_toArray,List.extract_eq_take_drop,List.take,List.drop,Nat.sub_zero] at hs0 hs1 hs2 hs3 hs4
 have hma:K0 (W.alloc (.map (formsE bx bn) 5)) W.heap.size (formsL bx bn):=⟨_,_,(MapKept.heap_alloc W _).1,rfl⟩
 have gm:Gr W (W.alloc (.map (formsE bx bn) 5)):=(Gr.refl _).alloc _
 have hl:=(K9 hma Tryz.underlying112 Tryz.underlying9 Lv (J32 bx bn)).1
 simp only[formsE,fnN,kFarkas,kEmpty,kSplit,kRound,kCover] at hl
 have hq:=fun w=>Xj (w:=w)
 have c0:=(HP.out.cl.grow gm).at 0 rfl
 have x0:=(HP.out.cx.grow gm).at 0 rfl
 simp only[formsE,fnN,kFarkas,kEmpty,kSplit,kRound,kCover] at c0 x0
 simp only[formsE,fnN,kFarkas,kEmpty,kSplit,kRound,kCover] at gm
 have HP:=ξ (HP.out.grow gm)
 clear hma gm
 rw[hmk]
 go_wp2_with fail
 clear hmk hs0 hs1 hs2 hs3 hs4 hl hq c0 x0
 generalize W.heap.size=bm
 generalize W.alloc _=WM at HP ⊢
 refine(J3W u WM br bx bn bl 1 1 s z HZ.out m ((HP.out.g0.trans HP.out.g).cell HM.out) HP.out.env (HP.out.cl.at 1 rfl)).mono ?_
 rintro _ W6 ⟨r6,p,c',y,rfl,he,hpb,h1,h2⟩
 have HE:=ξ he
 have HY:=ξ (show _∧_∧_ from⟨hpb,h1,h2⟩)
 clear he hpb h1 h2
 unfold nodeA at HE
 go_wp2_with fail
 have HN:=ξ HP.out.ne
 have hI0:PdI bx br bn (none) #[.int .i64 0,.slice p 1 c',.int .i64 0,.int .i64 0,.int .i64 0,.slice none 0 0,.int .i64 0,.slice none 0 0] W6.drew:=⟨HE.out.x,HE.out.r,HE.out.n⟩
 have y0:∀ w',PdI bx br bn (none) #[.int .i64 0,.slice p 1 c',.int .i64 0,.int .i64 0,.int .i64 0,.slice none 0 0,.int .i64 0,.slice none 0 0] w'→w'.cell? ⟨bx,0,none⟩=some (.pointer (some ⟨br,0,none⟩)):=fun w' h=>h.1.at 0 rfl
 have y1:∀ w',PdI bx br bn (none) #[.int .i64 0,.slice p 1 c',.int .i64 0,.int .i64 0,.int .i64 0,.slice none 0 0,.int .i64 0,.slice none 0 0] w'→w'.cell? ⟨br,0,none⟩=some (.slice none 0 0):=fun w' h=>h.2.1.at 0 rfl
 have y2:∀ w',PdI bx br bn (none) #[.int .i64 0,.slice p 1 c',.int .i64 0,.int .i64 0,.int .i64 0,.slice none 0 0,.int .i64 0,.slice none 0 0] w'→w'.cell? ⟨br,1,none⟩=some (.bool false):=fun w' h=>h.2.1.at 1 rfl
 have z0:∀ w',PdI bx br bn (none) #[.int .i64 0,.slice p 1 c',.int .i64 0,.int .i64 0,.int .i64 0,.slice none 0 0,.int .i64 0,.slice none 0 0] w'→w'.cell? ⟨bn,0,none⟩=some (.int .i64 0):=fun w' h=>h.2.2.at 0 rfl
 have z1:∀ w',PdI bx br bn (none) #[.int .i64 0,.slice p 1 c',.int .i64 0,.int .i64 0,.int .i64 0,.slice none 0 0,.int .i64 0,.slice none 0 0] w'→w'.cell? ⟨bn,1,none⟩=some (.slice p 1 c'):=fun w' h=>h.2.2.at 1 rfl
 have z2:∀ w',PdI bx br bn (none) #[.int .i64 0,.slice p 1 c',.int .i64 0,.int .i64 0,.int .i64 0,.slice none 0 0,.int .i64 0,.slice none 0 0] w'→w'.cell? ⟨bn,2,none⟩=some (.int .i64 0):=fun w' h=>h.2.2.at 2 rfl
 have z3:∀ w',PdI bx br bn (none) #[.int .i64 0,.slice p 1 c',.int .i64 0,.int .i64 0,.int .i64 0,.slice none 0 0,.int .i64 0,.slice none 0 0] w'→w'.cell? ⟨bn,3,none⟩=some (.int .i64 0):=fun w' h=>h.2.2.at 3 rfl
 have z4:∀ w',PdI bx br bn (none) #[.int .i64 0,.slice p 1 c',.int .i64 0,.int .i64 0,.int .i64 0,.slice none 0 0,.int .i64 0,.slice none 0 0] w'→w'.cell? ⟨bn,4,none⟩=some (.int .i64 0):=fun w' h=>h.2.2.at 4 rfl
 have z5:∀ w',PdI bx br bn (none) #[.int .i64 0,.slice p 1 c',.int .i64 0,.int .i64 0,.int .i64 0,.slice none 0 0,.int .i64 0,.slice none 0 0] w'→w'.cell? ⟨bn,5,none⟩=some (.slice none 0 0):=fun w' h=>h.2.2.at 5 rfl
 have z6:∀ w',PdI bx br bn (none) #[.int .i64 0,.slice p 1 c',.int .i64 0,.int .i64 0,.int .i64 0,.slice none 0 0,.int .i64 0,.slice none 0 0] w'→w'.cell? ⟨bn,6,none⟩=some (.int .i64 0):=fun w' h=>h.2.2.at 6 rfl
 have z7:∀ w',PdI bx br bn (none) #[.int .i64 0,.slice p 1 c',.int .i64 0,.int .i64 0,.int .i64 0,.slice none 0 0,.int .i64 0,.slice none 0 0] w'→w'.cell? ⟨bn,7,none⟩=some (.slice none 0 0):=fun w' h=>h.2.2.at 7 rfl
 refine Inv.Of (PdI bx br bn (none) #[.int .i64 0,.slice p 1 c',.int .i64 0,.int .i64 0,.int .i64 0,.slice none 0 0,.int .i64 0,.slice none 0 0]) (.read 0 (.read 1 (.read 2 (.read 3 (.read 4 (.read 5 (.read 6 (.read 7 (.read 8 (.read 9 (.read 10 (.read 11 (.read 12 (.read 13 (.one 14 (.read 15 .stop)))))))))))))))) hI0 (by kernel_rfl) (by kernel_rfl) rfl (by kernel_rfl) (fun _ _ d _ _ h=>by cases d<;>exact h) ?_
 have HG7:=ξ (show Gr u W6.drew from HE.out.g.drew)
 have HI:=ξ hI0
 have HG67:=ξ (show Gr W6 W6.drew from(Gr.refl W6).drew)
 clear hI0
 generalize W6.drew=W7 at HG7 HG67 HI ⊢
 have HC:=ξ (HP.out.c0.grow HG7.out)
 repeat(first|(refine Inv.Lw (v:=?_) rfl rfl (fun w' hg=>?_) (fun K hK=>?_);rotate_left;(go_simp;rfl);go_simp;refine hK _ _ ?_;clear hK K))
 clear y0 y1 y2 z0 z1 z2 z3 z4 z5 z6 z7
 have g0:=HC.out.at 0 rfl
 have f0:=Ja.f HC.out 0
 have g1:=HC.out.at 1 rfl
 have f1:=Ja.f HC.out 1
 have g2:=HC.out.at 2 rfl
 have f2:=Ja.f HC.out 2
 have g3:=HC.out.at 3 rfl
 have f3:=Ja.f HC.out 3
 have g4:=HC.out.at 4 rfl
 have f4:=Ja.f HC.out 4
 have g5:=HC.out.at 5 rfl
 have f5:=Ja.f HC.out 5
 have g6:=HC.out.at 6 rfl
 have f6:=Ja.f HC.out 6
 have g7:=HC.out.at 7 rfl
 have f7:=Ja.f HC.out 7
 have hx:=fill8 (.int .i64 0) (.slice p 1 c') (.int .i64 0) (.int .i64 0) (.int .i64 0) (.slice none 0 0) (.int .i64 0) (.slice none 0 0) HC.out
 unfold set8 at hx
 have HX:=ξ (And.intro hx.2.1 (And.intro (HI.out.upd hx.2.2 (by have:=HN.out;omega) (by have:=HN.out;omega) (by have:=HN.out;omega)) (And.intro (show Gr w _ from Below.grown (HP.out.g0.trans HG7.out) hx.1 (HP.out.g0.trans HG7.out).size (fun k e=>by cases e;exact Nat.le_of_eq HN.out.1)) (And.intro hx.1 hx.2.2))))
 clear hx
 refine Inv.Rj rfl rfl (fun K hK=>?_)
 go_simp
 generalize World.setCell _ _ _=W8 at HX ⊢
 refine⟨HX.out.2.1,hK _ _ ?_⟩
 clear hK K g0 g1 g2 g3 g4 g5 g6 g7 f0 f1 f2 f3 f4 f5 f6 f7
 repeat(first|(refine Inv.Lw (v:=?_) rfl rfl (fun w' hg=>?_) (fun K hK=>?_);rotate_left;(go_simp;rfl);go_simp;refine hK _ _ ?_;clear hK K))
 refine Inv.Nw ?_
 go_wp2_with fail
 have g0:=HX.out.1.at 0 rfl
 have g1:=HX.out.1.at 1 rfl
 have g2:=HX.out.1.at 2 rfl
 have g3:=HX.out.1.at 3 rfl
 have g4:=HX.out.1.at 4 rfl
 have g5:=HX.out.1.at 5 rfl
 have g6:=HX.out.1.at 6 rfl
 have g7:=HX.out.1.at 7 rfl
 refine bodyPost_ret (by simp[results,Tryz.results34,go_sem,g0,g1,g2,g3,g4,g5,g6,g7];rfl) rfl ?_
 have g7':Gr W6 W7:=HG67.out
 have hg8:=HX.out.2.2.2.1
 refine⟨_,rfl,HX.out.2.2.1,p,c',y,rfl,fun a ha=>Nat.le_trans HP.out.g0.size (HY.out.1 a ha),SlL.grownA (SlL.grow HY.out.2.1 g7') hg8 (fun a ha e=>?_),Ot (HY.out.2.2.grow g7') (Dk.upd (NoU.of HC.out (by simp)) HX.out.2.2.2.2)⟩
 have h1:=HY.out.1 a ha
 have h2:=HN.out
 cases e
 omega
end Prf
end Go.Proofs.YtcjgimlcefhhmaaGreatDoor

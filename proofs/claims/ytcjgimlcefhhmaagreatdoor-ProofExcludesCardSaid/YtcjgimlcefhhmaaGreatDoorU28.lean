/- Texts: PsG PsH PsI PsJ. -/
import Derived.Test.YtcjgimlcefhhmaaGreatDoorU1
import Derived.Test.YtcjgimlcefhhmaaGreatDoorU13
import Derived.Test.YtcjgimlcefhhmaaGreatDoorU14
import Derived.Test.YtcjgimlcefhhmaaGreatDoorU23
import Derived.Test.YtcjgimlcefhhmaaGreatDoorU26
import Derived.Test.YtcjgimlcefhhmaaGreatDoorU27
set_option linter.unusedVariables false
set_option linter.unusedSimpArgs false
set_option maxRecDepth 100000
set_option maxHeartbeats 12800000
namespace Go.Proofs.YtcjgimlcefhhmaaGreatDoor
open Go.RowKit Go.Lib
def zcR:TypeId→Array Value:=fun _ => #[.bool false,.slice none 0 0,.slice none 0 0]
theorem J0.three {T:TypeId}{b:Nat}{w:World}(h:J0 (zcR T) T b w):Jk w b (.bool false) (.slice none 0 0) (.slice none 0 0):=⟨T,h⟩
namespace Prf
theorem Uk {vs:List VarM}{a:Nat→Int}(hv:∀ v ∈ vs,Lz v)(ha:∀ j,In (a j))(hn:vs.length≤10):(∀ j,j≤vs.length→Sz 200 (sumQ (lTerm vs fun j=>(a j:Rat)) j))∧∀ j,Sz 200 (lTerm vs (fun j=>(a j:Rat)) j):=by
 have h0:∀ j,OnD 1 (1099511627776 * (1099511627776 * 1)) (lTerm vs (fun j=>(a j:Rat)) j):=fun j=>by
  unfold lTerm
  cases hj:vs[j]? with
  | none=>exact Oc _ _
  | some v=>
   have k:=hv v (List.mem_of_getElem? hj)
   refine Ob ?_ (J4r 1 (Ls (ha j)))
   split
   ·exact Ls k.2.1
   ·exact Ls k.1
 have h1:∀ j,j≤10→OnD 1 (10 * (1099511627776 * (1099511627776 * 1))) (sumQ (lTerm vs (fun j=>(a j:Rat))) j):=fun j hj=>
  (Or j fun i _=>h0 i).mono (Nat.mul_le_mul hj (Nat.le_refl _))
 have e1:(1:Nat)≤BB ^ 68:=Nat.pow_pos (by decide)
 have e2:(1:Nat)≤BB ^ 64:=Nat.pow_pos (by decide)
 exact⟨fun j hj=>Sz.mono' (Rx (K:=12089258196146291747061760) (U:=1) (by decide) e1 e2 (by decide) ((h1 j (by omega)).mono (by decide))) (by decide),fun j=>Sz.mono' (Rx (K:=12089258196146291747061760) (U:=1) (by decide) e1 e2 (by decide) ((h0 j).mono (by decide))) (by decide)⟩
theorem J5X {vs:List VarM}{j:Nat}{x:VarM}(h:vs[j]?=some x):setLow vs (j:Int)=vs.set j { x with lo:=1 }:=by
 refine List.ext_getElem? fun i=>?_
 rw[J0s]
 by_cases e:i=j
 ·subst e
  rw[h,List.getElem?_set_self (List.getElem?_eq_some_iff.1 h).1]
  simp
 ·rw[List.getElem?_set_ne (by omega)]
  cases vs[i]? with
  | none=>rfl
  | some u=>simp;omega
theorem J3P {vs:List VarM}{l:List Int}{k:Nat}{v:Int}(h:l[k]?=some v):lowAll vs (l.take (k+1))=setLow (lowAll vs (l.take k)) v:=by
 have hk:=(List.getElem?_eq_some_iff.1 h).1
 rw[List.take_succ_eq_append_getElem hk,(List.getElem?_eq_some_iff.1 h).2]
 unfold lowAll
 rw[List.foldl_append]
 rfl
theorem Yt {vs:List VarM}{l:List Int}{v:VarM}(h:v ∈ lowAll vs l):∃ u ∈ vs,v=u∨v={ u with lo:=1 }:=by
 obtain⟨i,hi,rfl⟩:=List.getElem_of_mem h
 have h1:=S7 l vs i
 rw[List.getElem?_eq_getElem hi] at h1
 cases h2:vs[i]? with
 | none=>rw[h2] at h1;cases h1
 | some u=>
  rw[h2] at h1
  simp only[Option.map_some,Option.some.injEq] at h1
  refine⟨u,List.mem_of_getElem? h2,?_⟩
  rw[h1]
  split
  ·exact .inr rfl
  ·exact .inl rfl
theorem Oo {p:Prg}(l:List Int)(hp:Jr p)(hw:Whole p):Jr ⟨lowAll p.vars l,[]⟩∧Whole ⟨lowAll p.vars l,[]⟩:=by
 refine⟨⟨by simp only[Ni];exact hp.1,Nat.zero_le _,fun v hv=>?_,fun r hr=>by cases hr⟩,fun v hv=>?_⟩
 ·obtain⟨u,hu,rfl|rfl⟩:=Yt hv
  ·exact hp.2.2.1 _ hu
  ·obtain⟨k1,k2,k3,k4⟩:=hp.2.2.1 _ hu
   exact⟨(show In 1 by unfold In;decide),k2,k3,k4⟩
 ·obtain⟨u,hu,rfl|rfl⟩:=Yt hv
  ·exact hw _ hu
  ·exact hw u hu
theorem J6z:(Tryz.prog.info? 62).map (fun i=>(i.zero,i.size,i.bytes))=some (some (.agg #[.int .i64 0,.int .i64 0,.bool false,.bool false,.int .i64 0]),5,32):=by kernel_rfl
theorem J2G:∀ x,∀ u ∈ encVar x,u.oneCell'=true:=fun x u hu=>by
 simp[encVar] at hu
 rcases hu with rfl|rfl|rfl|rfl|rfl<;>rfl
structure Lx (W w:World)(b7 bg n cap:Nat)(vs:List VarM):Prop where
 g:Gr W w
 tq:Ja w b7 #[.slice (some ⟨bg,0,none⟩) n cap,.slice none 0 0]
 ro:OwnL w W.heap.size 62 5 encVar (.slice (some ⟨bg,0,none⟩) n cap) vs
theorem Lx.grow {W w w':World}{b7 g n cap:Nat}{vs:List VarM}(h:Lx W w b7 g n cap vs)(k:Gr w w'):Lx W w' b7 g n cap vs:=⟨h.g.trans k,h.tq.grow k,h.ro.grow k⟩
theorem R3 {x y:Rat}{c:Int}(h:cmpQ x y=c):0 < c↔y < x:=by
 subst h
 unfold cmpQ
 split
 ·rename_i k;exact⟨fun h=>absurd h (by decide),fun h=>by grind⟩
 ·rename_i k
  split
  ·rename_i k2;subst k2;exact⟨fun h=>absurd h (by decide),fun h=>absurd h k⟩
  ·rename_i k2;exact⟨fun _=>by grind,fun _=>by decide⟩
end Prf
end Go.Proofs.YtcjgimlcefhhmaaGreatDoor
namespace Go.Proofs.YtcjgimlcefhhmaaGreatDoor
namespace Prf
open Go.RowKit Go.Lib
def moreZ (vs:List VarM)(u:Nat→Int):Nat→Int
 | 0=>0
 | k+1=>moreZ vs u k+match vs[k]? with|some v=>u k * v.lo|none=>0
theorem Y1 {vs:List VarM}{u:Nat→Int}{k:Nat}{v:VarM}(h:vs[k]?=some v):moreZ vs u (k+1)=moreZ vs u k+u k * v.lo:=by
 show moreZ vs u k+_=_
 rw[h]
theorem Y0 (vs:List VarM)(u:Nat→Int):∀ k,sumQ (loT vs (fun j=>(u j:Rat))) k=(moreZ vs u k:Rat)
 | 0=>rfl
 | k+1=>by
  rw[Kq,Y0 vs u k]
  show _=((moreZ vs u k+_:Int):Rat)
  unfold loT
  cases vs[k]? with
  | none=>rw[Rat.intCast_add];rfl
  | some v=>rw[Rat.intCast_add,Rat.intCast_mul]
theorem J26 (p:Prg)(y:List Rat):cutBound p y=ceilQ (combB p y - sumQ (loT p.vars (combA p y)) p.vars.length)+moreZ p.vars (fun j=>ceilQ (combA p y j)) p.vars.length:=by
 unfold cutBound
 rw[Y0,Rat.floor_intCast]
def J1h (w:World)(b:Nat)(z:Int):Prop:=∃ n p k c,Two w b (.bool n) (.slice p k c)∧IntC w (.agg #[.bool n,.slice p k c]) z
def rowZ:Array Value:=#[.string ⟨#[]⟩,.int .i64 0,.int .i64 0,.slice none 0 0,.int .i64 0]
def rowT (tv:Value):Array Value:=#[.string ⟨cutName.toArray⟩,.int .i64 0,.int .i64 1,tv,.int .i64 0]
structure Lo (w W:World)(bp b4 bo b7 b9 b10:Nat)(u0 u1:Value)(n:Nat)(A:Nat→Rat)(s:Rat)(tv:Value)(ts:List Jg)(mz:Int):Prop where
 g:Gr w W
 tp:Ja W bp #[u0,u1]
 t4:Ja W b4 rowZ
 ro:Jo W bo n A 80
 t7:J6 W b7 s
 t9:Ja W b9 (rowT tv)
 tw:Jz W w.heap.size tv ts
 t10:J1h W b10 mz
 ne:∀ b,tv.ownBlock=some b→b≠bp∧b≠b4∧b≠bo∧b≠b7∧b≠b9∧b≠b10
structure Rq (w:World)(bp b4 bo b7 b9 b10:Nat):Prop where
 n4:w.heap.size≤b4
 n7:w.heap.size≤b7
 n9:w.heap.size≤b9
 n10:w.heap.size≤b10
 p:bp≠b7∧bp≠b9∧bp≠b10∧bp≠b4
 x4:b4≠bo∧b4≠b7∧b4≠b9∧b4≠b10
 xo:bo≠b7∧bo≠b9∧bo≠b10
 x7:b7≠b9∧b7≠b10
 x9:b9≠b10
section
variable {w W:World}{bp b4 bo b7 b9 b10:Nat}{u0 u1:Value}{n:Nat}{A:Nat→Rat}{s:Rat}{tv:Value}{ts:List Jg}{mz:Int}
theorem Lo.grow {W':World}(h:Lo w W bp b4 bo b7 b9 b10 u0 u1 n A s tv ts mz)(g:Gr W W'):Lo w W' bp b4 bo b7 b9 b10 u0 u1 n A s tv ts mz:=by
 obtain⟨a,b,c,d,e,f⟩:=h.t10
 exact⟨h.g.trans g,h.tp.grow g,h.t4.grow g,h.ro.grow g,h.t7.grow g,h.t9.grow g,h.tw.grow g,⟨a,b,c,d,e.grow g,f.grow g⟩,h.ne⟩
theorem Mh {w:World}{base b:Nat}{v:Value}{l:List Jg}(h:Jz w base v l)(hb:∀ g,v.ownBlock=some g→g≠b):v.ownBlock≠some b:=fun e=>hb b e rfl
theorem Lo.putB {s':Rat}{t:RatM}(h:Lo w W bp b4 bo b7 b9 b10 u0 u1 n A s tv ts mz)(hn:Rq w bp b4 bo b7 b9 b10)(ht:RatC W t.v s'):
  Lo w (set3 W b7 (.bool t.n) (.slice t.p t.k t.c) (.slice t.q t.m t.e)) bp b4 bo b7 b9 b10 u0 u1 n A s' tv ts mz:=by
 have hu:=upd3 W b7 (.bool t.n) (.slice t.p t.k t.c) (.slice t.q t.m t.e)
 have hd:=Dk.upd (Zi h.t7.noInt) hu
 obtain⟨a,b,c,d,e,f⟩:=h.t10
 exact⟨Ko h.g hn.n7 _ _ _,h.tp.upd hu hn.p.1,h.t4.upd hu hn.x4.2.1,h.ro.upd h.t7.noInt hu hn.xo.1,h.t7.put ht,h.t9.upd hu hn.x7.1.symm,
  h.tw.same hu (by simp[set3,World.setCell]) (Mh h.tw fun g hg=>(h.ne g hg).2.2.2.1) rfl rfl rfl,⟨a,b,c,d,e.upd hu hn.x7.2.symm,Qr f hd⟩,h.ne⟩
theorem Lo.putM {mz':Int}{nn:Bool}{pp:Option Addr}{kk cc:Nat}(h:Lo w W bp b4 bo b7 b9 b10 u0 u1 n A s tv ts mz)(hn:Rq w bp b4 bo b7 b9 b10)(ht:IntC W (.agg #[.bool nn,.slice pp kk cc]) mz'):
  Lo w (set2 W b10 (.bool nn) (.slice pp kk cc)) bp b4 bo b7 b9 b10 u0 u1 n A s tv ts mz':=by
 obtain⟨a,b,c,d,e,f⟩:=h.t10
 have hu:=upd2 W b10 (.bool nn) (.slice pp kk cc)
 have hd:=Dk.upd (Zi e.noInt) hu
 exact⟨Gr.set (Gr.set h.g (by have:=hn.n10;omega) _) (by have:=hn.n10;omega) _,h.tp.upd hu hn.p.2.2.1,h.t4.upd hu hn.x4.2.2.2,h.ro.upd e.noInt hu hn.xo.2.2,h.t7.upd e.noInt hu hn.x7.2,h.t9.upd hu hn.x9,
  h.tw.same hu (by simp[set2,World.setCell]) (Mh h.tw fun g hg=>(h.ne g hg).2.2.2.2.2) rfl rfl rfl,⟨nn,pp,kk,cc,e.set _ _,Qr ht hd⟩,h.ne⟩
theorem J0o (tv:Value)(h:∀ z,tv≠Value.int .u32 z):∀ v ∈ rowT tv,∀ z,v≠Value.int .u32 z:=fun v hv z=>by
 simp[rowT] at hv
 rcases hv with rfl|rfl|rfl|rfl|rfl
 ·intro e;cases e
 ·intro e;cases e
 ·intro e;cases e
 ·exact h z
 ·intro e;cases e
theorem M2 {w:World}{base:Nat}{v:Value}{l:List Jg}(h:Jz w base v l):∃ p c,v = .slice p l.length c:=by
 obtain⟨p,c,e,_⟩:=h.1.read.parts
 exact⟨p,c,e⟩
theorem Lo.putT {W1:World}{tv':Value}{t:Jg}(h:Lo w W bp b4 bo b7 b9 b10 u0 u1 n A s tv ts mz)(hn:Rq w bp b4 bo b7 b9 b10)(h1:Jz W1 w.heap.size tv' (ts ++ [t]))(hg:W.grownBy W1 tv.ownBlock)(hd:Dk W W1)
  (hb:tv'.ownBlock=tv.ownBlock∨tv'.ownBlock=some W.heap.size):
  (W1.cell? ⟨b9,3,none⟩=some tv∧W1.frozen? ⟨b9,3,none⟩=false)∧Lo w (W1.setCell ⟨b9,3,none⟩ tv') bp b4 bo b7 b9 b10 u0 u1 n A s tv' (ts ++ [t]) mz:=by
 have keep:∀ b vs,Ja W b vs→(∀ g,tv.ownBlock=some g→g≠b)→W1.heap[b]?=W.heap[b]?:=fun b vs hc hne=>hg.block b hc.lt (fun e=>hne b e.symm rfl)
 obtain⟨a,b,c,d,e,f⟩:=h.t10
 obtain⟨T,hT,_⟩:=h.ro
 obtain⟨t7,ht7,hc7⟩:=h.t7
 have k9:=keep b9 _ h.t9 fun g hg=>(h.ne g hg).2.2.2.2.1
 have c9:=Kt h.t9 k9
 have hG1:Gr w W1:=OwnL.gr h.tw.1 h.g hg
 have hu:=J8 W1 b9 3 tv'
 obtain⟨pt,ct,htv⟩:=M2 h.tw
 obtain⟨pt',ct',htv'⟩:=M2 h1
 have hnu:NoU W1 b9:=NoU.of c9 (J0o tv fun z e=>by rw[htv] at e;cases e)
 have hd2:=Dk.upd hnu hu
 have hsz:=hg.size
 have hne:∀ g,tv'.ownBlock=some g→g≠bp∧g≠b4∧g≠bo∧g≠b7∧g≠b9∧g≠b10:=fun g hg'=>by
  rcases hb with hb|hb
  ·exact h.ne g (hb ▸ hg')
  ·rw[hb] at hg'
   obtain rfl:=Option.some.inj hg'
   have l1:=h.tp.lt
   have l2:=h.t4.lt
   have l3:=hT.lt
   have l4:=ht7.lt
   have l5:=h.t9.lt
   have l6:=e.lt
   exact⟨by omega,by omega,by omega,by omega,by omega,by omega⟩
 refine⟨⟨c9.at 3 rfl,c9.f 3⟩,⟨Gr.set hG1 (by have:=hn.n9;omega) _,?_,?_,?_,?_,?_,?_,?_,hne⟩⟩
 ·exact(Kt h.tp (keep bp _ h.tp fun g hg=>(h.ne g hg).1)).upd hu hn.p.2.1
 ·exact(Kt h.t4 (keep b4 _ h.t4 fun g hg=>(h.ne g hg).2.1)).upd hu hn.x4.2.2.1
 ·exact Q1 (Q1 h.ro hd (keep bo _ hT fun g hg=>(h.ne g hg).2.2.1)) hd2 (hu bo hn.xo.2.1)
 ·exact⟨t7,by
   obtain⟨ty,h7⟩:=ht7
   exact⟨ty,by rw[hu b7 hn.x7.1,hg.block b7 (by have:=(Array.getElem?_eq_some_iff.1 h7).1;exact this) (fun e=>(h.ne b7 e.symm).2.2.2.1 rfl)];exact h7⟩,Ot (Ot hc7 hd) hd2⟩
 ·have:=c9.set 3 tv'
  simpa[rowT] using this
 ·exact h1.same hu (by simp[World.setCell]) (Mh h1 fun g hg=>(hne g hg).2.2.2.2.1) rfl rfl rfl
 ·exact⟨a,b,c,d,by
   obtain⟨ty,h10⟩:=e
   exact⟨ty,by rw[hu b10 hn.x9.symm,hg.block b10 (Array.getElem?_eq_some_iff.1 h10).1 (fun e=>(h.ne b10 e.symm).2.2.2.2.2 rfl)];exact h10⟩,Qr (Qr f hd) hd2⟩
end
end Prf
end Go.Proofs.YtcjgimlcefhhmaaGreatDoor
namespace Go.Proofs.YtcjgimlcefhhmaaGreatDoor
namespace Prf
open Go.RowKit Go.Lib
def Rr (p:Prg)(y:List Rat)(base:Nat)(r:Value)(w:World):Prop:=
 (Oi p y∧∃ x:RowM,r = .tuple #[rowV x,.int .i64 0]∧x.s=roundRow p y∧Jz w base (.slice x.tp x.terms.length x.tc) x.terms)∨(¬ Oi p y∧∃ e:Int,e≠0∧r = .tuple #[.agg rowZ,.int .i64 e])
section
variable {ops:Array Oper}{rest:List Oper}{o:Oper}{a:Act}{Q:Exit→Act→World→Prop}{w:World}
theorem J1a (hgd:o.guard=none)(s x:Operand)(ho:o.op = .call { callee:=.builtin .append,args:=#[s,x],argTypes:=#[40,40] })(base:Nat)(v vx:Value)(l:List Jg)(t:Jg)
  (hs:a.eval s=v) (hown:Jz w base v l) (hx:a.eval x=vx) (hm:Lp w vx [t]) (hlen:l.length≤1000000) (hbase:base≤w.heap.size)
  (h:∀ v' w',Jz w' base v' (l ++ [t])→w.grownBy w' v.ownBlock→Dk w w'→(v'.ownBlock=v.ownBlock∨v'.ownBlock=some w.heap.size)→wpList Tryz.prog ops Q rest (a.put o.dst v') w'):wpList Tryz.prog ops Q (o :: rest) a w:=by
 obtain⟨v',w',hr,h1,h2,h3,h4⟩:=J1x w base v vx l t o.type hown hm hlen hbase
 refine wpList_plain hgd (fun K hK=>?_)
 unfold Oper.wp execOp
 simp only[ho,resolve,invoke,builtin,Sem.run_bind,Sem.run_pure,Result.andThen_ok,List.map_toArray,List.map_cons,List.map_nil,hs,hx,hr]
 exact hK _ _ (h v' w' h1 h2 h3 h4)
end
theorem Rz {x:Rat}{L:Nat}(h:Sz L x):(digs (ceilQ x).natAbs).length≤L+1:=by
 have:=Xs (Oe h)
 unfold ceilQ
 rwa [Int.natAbs_neg]
theorem in_I {n:Int}(h:In n):I64 n:=by unfold In at h;unfold I64;omega
theorem Jr.i {p:Prg}(h:Jr p):PrgI p:=by
 refine⟨fun v hv=>?_,fun r hr=>?_⟩
 ·have k:=h.2.2.1 v hv
  exact⟨in_I k.1,in_I k.2.1,in_I k.2.2.1⟩
 ·have k:=h.2.2.2 r hr
  have hn:=h.1
  refine⟨by have:=k.2.1;unfold I64;omega,by have:=k.1;unfold I64;omega,in_I k.2.2.2.1,fun t ht=>?_⟩
  obtain⟨i,hi,rfl⟩:=List.getElem_of_mem ht
  have h1:=Ng _ _ i _ (List.getElem?_eq_getElem hi) k.2.2.2.2.2
  have h2:=Nh (Int.le_refl _) k.2.2.2.2.2 _ (List.getElem_mem hi)
  exact⟨by unfold I64;omega,in_I h1.2.2.2⟩
theorem Jr.nl {p:Prg}(h:Jr p):∀ r ∈ p.rows,r.name.length≤1000000:=fun r hr=>by
 have:=(h.2.2.2 r hr).2.2.1
 omega
def Qa (p:Prg)(c:CutS)(base:Nat)(r:Value)(w:World):Prop:=
 (∃ (rs:RowS) (x:RowM),Kz p c rs∧r = .tuple #[rowV x,.int .i64 0]∧x.s=rs∧Jz w base (.slice x.tp x.terms.length x.tc) x.terms)∨((∀ rs,¬ Kz p c rs)∧∃ e:Int,e≠0∧r = .tuple #[.agg rowZ,.int .i64 e])
theorem Jz.lower {w:World}{base base':Nat}{v:Value}{l:List Jg}(h:Jz w base v l)(hb:base'≤base):Jz w base' v l:=by
 refine⟨?_,h.2⟩
 obtain⟨h1,h2⟩:=h.1
 refine⟨h1,?_⟩
 rcases h2 with h2|⟨g,cap,cur,hv,hbg,r⟩
 ·exact .inl h2
 ·exact .inr ⟨g,cap,cur,hv,Nat.le_trans hb hbg,r⟩
structure Mq (w W:World)(bc b4 b6:Nat)(cc:Array Value)(z:Int)(tv:Value)(ts:List Jg):Prop where
 g:Gr w W
 tc:Ja W bc cc
 t4:Ja W b4 rowZ
 t6:Ja W b6 #[.string ⟨cutName.toArray⟩,.int .i64 0,.int .i64 0,tv,.int .i64 z]
 tw:Jz W w.heap.size tv ts
 ne:∀ b,tv.ownBlock=some b→b≠bc∧b≠b4∧b≠b6
theorem Mq.grow {w W W':World}{bc b4 b6:Nat}{cc:Array Value}{z:Int}{tv:Value}{ts:List Jg}(h:Mq w W bc b4 b6 cc z tv ts)(g:Gr W W'):Mq w W' bc b4 b6 cc z tv ts:=
 ⟨h.g.trans g,h.tc.grow g,h.t4.grow g,h.t6.grow g,h.tw.grow g,h.ne⟩
theorem Mq.putT {w W W1:World}{bc b4 b6:Nat}{cc:Array Value}{z:Int}{tv tv':Value}{ts:List Jg}{t:Jg}(h:Mq w W bc b4 b6 cc z tv ts)(h6:w.heap.size≤b6)(hx:bc≠b6∧b4≠b6)
  (h1:Jz W1 w.heap.size tv' (ts ++ [t])) (hg:W.grownBy W1 tv.ownBlock) (hb:tv'.ownBlock=tv.ownBlock∨tv'.ownBlock=some W.heap.size):
  (W1.cell? ⟨b6,3,none⟩=some tv∧W1.frozen? ⟨b6,3,none⟩=false)∧Mq w (W1.setCell ⟨b6,3,none⟩ tv') bc b4 b6 cc z tv' (ts ++ [t]):=by
 have keep:∀ b vs,Ja W b vs→(∀ g,tv.ownBlock=some g→g≠b)→W1.heap[b]?=W.heap[b]?:=fun b vs hc hne=>hg.block b hc.lt (fun e=>hne b e.symm rfl)
 have c6:=Kt h.t6 (keep b6 _ h.t6 fun g hg=>(h.ne g hg).2.2)
 have cc':=Kt h.tc (keep bc _ h.tc fun g hg=>(h.ne g hg).1)
 have c4:=Kt h.t4 (keep b4 _ h.t4 fun g hg=>(h.ne g hg).2.1)
 have hG1:Gr w W1:=OwnL.gr h.tw.1 h.g hg
 have hu:=J8 W1 b6 3 tv'
 have hne:∀ g,tv'.ownBlock=some g→g≠bc∧g≠b4∧g≠b6:=fun g hg'=>by
  rcases hb with hb|hb
  ·exact h.ne g (hb ▸ hg')
  ·rw[hb] at hg'
   obtain rfl:=Option.some.inj hg'
   have l1:=h.tc.lt
   have l2:=h.t4.lt
   have l3:=h.t6.lt
   exact⟨by omega,by omega,by omega⟩
 refine⟨⟨c6.at 3 rfl,Ja.f c6 3⟩,⟨Gr.set hG1 (by omega) _,cc'.upd hu hx.1,c4.upd hu hx.2,?_,h1.same hu (by simp[World.setCell]) (Mh h1 fun g hg=>(hne g hg).2.2) rfl rfl rfl,hne⟩⟩
 have:=c6.set 3 tv'
 simpa using this
end Prf
end Go.Proofs.YtcjgimlcefhhmaaGreatDoor

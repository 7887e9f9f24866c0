/- Texts: PsM PsN PsO PsP. -/
import Derived.Test.YtcjgimlcefhhmaaGreatDoorU14
import Derived.Test.YtcjgimlcefhhmaaGreatDoorU29
set_option linter.unusedVariables false
set_option linter.unusedSimpArgs false
set_option maxRecDepth 100000
set_option maxHeartbeats 12800000
namespace Go.Proofs.YtcjgimlcefhhmaaGreatDoor
namespace Prf
open Go.RowKit Go.Lib
def U6 (kd var pos ck row:Int)(mn cn vn:Nat):Prop:=
 (kd=0∧(ck=0∧row=0∧cn=0∧vn=0)∧var=0∧pos=0)∨(kd=1∧(ck=0∧row=0∧cn=0∧vn=0)∧pos=0∧mn=0)∨(kd=2∧(ck=0∧row=0∧cn=0∧vn=0)∧mn=0)∨(kd=3∧var=0∧pos=0∧mn=0)
theorem dk (z:Int):z=0∨z=1∨z=2∨z=3∨((z == 0)=false∧(z == 1)=false∧(z == 2)=false∧(z == 3)=false):=by
 by_cases h0:z=0
 ·exact .inl h0
 by_cases h1:z=1
 ·exact .inr (.inl h1)
 by_cases h2:z=2
 ·exact .inr (.inr (.inl h2))
 by_cases h3:z=3
 ·exact .inr (.inr (.inr (.inl h3)))
 ·exact .inr (.inr (.inr (.inr ⟨by simpa using h0,by simpa using h1,by simpa using h2,by simpa using h3⟩)))
def Kd (n:Jh):Prop:=U6 n.kind n.var n.pos n.cut.kind n.cut.row n.mult.length n.cut.mult.length n.cut.vars.length
theorem Zg {c:CutS}:Kh c↔(c.kind=0∧c.row=0∧c.mult.length=0∧c.vars.length=0):=by
 unfold Kh
 simp only[List.length_eq_zero_iff]
 constructor
 ·rintro⟨a,b,c,d⟩;exact⟨a,c,b,d⟩
 ·rintro⟨a,b,c,d⟩;exact⟨a,c,b,d⟩
theorem Lt {n:Jh}:Kd n↔(n.kind=0∧Kh n.cut∧n.var=0∧n.pos=0)∨(n.kind=1∧Kh n.cut∧n.pos=0∧n.mult=[])∨(n.kind=2∧Kh n.cut∧n.mult=[])∨(n.kind=3∧n.var=0∧n.pos=0∧n.mult=[]):=by
 unfold Kd U6
 simp only[Zg,List.length_eq_zero_iff]
theorem Mj {p:Prg}{n:Jh}{t s:List Jh}(h:Jn p (n :: t) s):Kd n:=by
 rw[Lt]
 cases h with
 | farkas h0 h1 h2 h3=>exact .inl ⟨h0,h1⟩
 | empty h0 h1 h2 h3 h4=>exact .inr (.inl ⟨h0,h1.1,h1.2.2,h1.2.1⟩)
 | split h0 h1 h2 h3 h4 h5=>exact .inr (.inr (.inl ⟨h0,h1.1,h1.2⟩))
 | cut h0 h1 h2 h4=>exact .inr (.inr (.inr ⟨h0,h1.2.1,h1.2.2,h1.1⟩))
theorem Z5 {p:Prg}{n:Jh}{t s:List Jh}(hp:Kd n)(hk:n.kind=0):Jn p (n :: t) s↔(n.mult.length≤p.rows.length∧Ms p n.mult)∧s=t:=by
 constructor
 ·intro h
  cases h with
  | farkas h0 h1 h2 h3=>exact⟨⟨h2,h3⟩,rfl⟩
  | _=>omega
 ·rintro⟨⟨h2,h3⟩,rfl⟩
  have h:=Lt.1 hp
  exact .farkas hk (by
   rcases h with h|h|h|h
   ·exact h.2
   ·omega
   ·omega
   ·omega) h2 h3
theorem Z6 {p:Prg}{n:Jh}{t s:List Jh}(hp:Kd n)(hk:n.kind=1):Jn p (n :: t) s↔(0≤n.var∧∃ v,p.vars[n.var.toNat]?=some v∧v.up < v.lo)∧s=t:=by
 constructor
 ·intro h
  cases h with
  | empty h0 h1 h2 h3 h4=>exact⟨⟨h2,_,h3,h4⟩,rfl⟩
  | _=>omega
 ·rintro⟨⟨h2,v,h3,h4⟩,rfl⟩
  have h:=Lt.1 hp
  exact .empty hk (by
   rcases h with h|h|h|h
   ·omega
   ·exact⟨h.2.1,h.2.2.2,h.2.2.1⟩
   ·omega
   ·omega) h2 h3 h4
theorem J54 {p:Prg}{n:Jh}{t s:List Jh}(hp:Kd n)(hk:n.kind=2):Jn p (n :: t) s↔(0≤n.var∧n.var < (p.vars.length:Int))∧(-1099511627776≤n.pos∧n.pos < 1099511627776)∧∃ r,Jn (lowPart p n.var n.pos) t r∧Jn (highPart p n.var n.pos) r s:=by
 constructor
 ·intro h
  cases h with
  | split h0 h1 h2 h3 h4 h5=>exact⟨h2,h3,_,h4,h5⟩
  | _=>omega
 ·rintro⟨h2,h3,r,h4,h5⟩
  have h:=Lt.1 hp
  exact .split hk (by
   rcases h with h|h|h|h
   ·omega
   ·omega
   ·exact h.2
   ·omega) h2 h3 h4 h5
theorem J55 {p:Prg}{n:Jh}{t s:List Jh}(hp:Kd n)(hk:n.kind=3):Jn p (n :: t) s↔∃ r,Kz p n.cut r∧Jn (addRow p r) t s:=by
 constructor
 ·intro h
  cases h with
  | cut h0 h1 h2 h4=>exact⟨_,h2,h4⟩
  | _=>omega
 ·rintro⟨r,h2,h4⟩
  have h:=Lt.1 hp
  exact .cut hk (by
   rcases h with h|h|h|h
   ·omega
   ·omega
   ·omega
   ·exact⟨h.2.2.2,h.2.1,h.2.2.1⟩) h2 h4
def U7 (w0 w:World)(base:Nat)(q:Prg)(v:Value):Prop:=
 ∃ a c b d T,v = .agg #[.slice a q.vars.length c,.slice b q.rows.length d]∧OwnL w base 62 5 encVar (.slice a q.vars.length c) q.vars∧OwnL w base 42 5 encRow (.slice b q.rows.length d) T∧T.map RowM.s=q.rows∧∀ y ∈ T,Mv w0 y
theorem U7.at {w0 w:World}{base:Nat}{q:Prg}{v:Value}(h:U7 w0 w base q v)(g:Gr w0 w):Jv w v q:=by
 obtain⟨a,c,b,d,T,rfl,h1,h2,h3,h4⟩:=h
 exact⟨a,c,b,d,rfl,h1.read,T,h2.read,h3,fun y hy=>SlL.grow (h4 y hy) g⟩
theorem OwnL.fill {α:Type}{enc:α→List Value}{sz:Nat}{e:TypeId}{w:World}{base b:Nat}{v:Value}{l:List α}(h:OwnL w base e sz enc v l)(hne:v.ownBlock≠some b)(u0 u1:Value):OwnL ((w.setCell ⟨b,0,none⟩ u0).setCell ⟨b,1,none⟩ u1) base e sz enc v l:=(h.other hne).other hne
structure Oj (w W:World)(b6 b7 b9 b10 n m ga ca ga2 ca2:Nat)(pb:Option Addr)(cb:Nat)(pb2:Option Addr)(cb2:Nat)(A B:List VarM)(T T2:List RowM):Prop where
 g:Gr w W
 t6:Ja W b6 #[.slice none 0 0,.slice none 0 0]
 t7:Ja W b7 #[.slice none 0 0,.slice none 0 0]
 t9:Ja W b9 #[.slice (some ⟨ga,0,none⟩) n ca,.slice pb m cb]
 t10:Ja W b10 #[.slice (some ⟨ga2,0,none⟩) n ca2,.slice pb2 m cb2]
 oa:OwnL W w.heap.size 62 5 encVar (.slice (some ⟨ga,0,none⟩) n ca) A
 ob:OwnL W w.heap.size 42 5 encRow (.slice pb m cb) T
 oa2:OwnL W w.heap.size 62 5 encVar (.slice (some ⟨ga2,0,none⟩) n ca2) B
 ob2:OwnL W w.heap.size 42 5 encRow (.slice pb2 m cb2) T2
structure J1m (w:World)(b6 b7 b9 b10 ga ga2:Nat)(v v2:Value):Prop where
 a0:w.heap.size≤ga
 a6:b6≠ga
 a7:b7≠ga
 a9:b9≠ga
 a10:b10≠ga
 c0:w.heap.size≤ga2
 c6:b6≠ga2
 c7:b7≠ga2
 c9:b9≠ga2
 c10:b10≠ga2
 ac:ga≠ga2
 va:v.ownBlock≠some ga
 vc:v.ownBlock≠some ga2
 ua:v2.ownBlock≠some ga
 uc:v2.ownBlock≠some ga2
 v6:v.ownBlock≠some b6
 v7:v.ownBlock≠some b7
 u6:v2.ownBlock≠some b6
 u7:v2.ownBlock≠some b7
section
variable {w W W':World}{b6 b7 b9 b10 n m ga ca ga2 ca2:Nat}{pb:Option Addr}{cb:Nat}{pb2:Option Addr}{cb2:Nat}{A B:List VarM}{T T2:List RowM}
theorem Oj.grow (h:Oj w W b6 b7 b9 b10 n m ga ca ga2 ca2 pb cb pb2 cb2 A B T T2)(g:Gr W W'):Oj w W' b6 b7 b9 b10 n m ga ca ga2 ca2 pb cb pb2 cb2 A B T T2:=
 ⟨h.g.trans g,h.t6.grow g,h.t7.grow g,h.t9.grow g,h.t10.grow g,h.oa.grow g,h.ob.grow g,h.oa2.grow g,h.ob2.grow g⟩
theorem Oj.putB (h:Oj w W b6 b7 b9 b10 n m ga ca ga2 ca2 pb cb pb2 cb2 A B T T2)(k:J1m w b6 b7 b9 b10 ga ga2 (.slice pb m cb) (.slice pb2 m cb2)){i:Nat}{x:VarM}(y:VarM)(j:Nat)(u:Value)(hx:B[i]?=some x)(hj:j < 5)(hy:encVar y=(encVar x).set j u):
  Oj w (W.setCell ⟨ga2,i * 5+j,none⟩ u) b6 b7 b9 b10 n m ga ca ga2 ca2 pb cb pb2 cb2 A (B.set i y) T T2:=
 have e:=OwnL.putS Nf h.oa2 y j u hx hj hy
 have hu:=J8 W ga2 (i * 5+j) u
 ⟨Gr.set h.g (by have:=k.c0;omega) _,h.t6.upd hu k.c6,h.t7.upd hu k.c7,h.t9.upd hu k.c9,h.t10.upd hu k.c10,h.oa.other (fun e=>k.ac (Option.some.inj e)),h.ob.other k.vc,e.2.2.2.2,h.ob2.other k.uc⟩
end
theorem J5Y {vs:List VarM}{j:Nat}{x:VarM}{m:Int}(h:vs[j]?=some x):setUp vs (j:Int) m=vs.set j { x with up:=min x.up m }:=by
 refine List.ext_getElem? fun i=>?_
 rw[Ua]
 by_cases e:i=j
 ·subst e
  rw[h,List.getElem?_set_self (List.getElem?_eq_some_iff.1 h).1]
  simp
 ·rw[List.getElem?_set_ne (by omega)]
  cases vs[i]? with
  | none=>rfl
  | some u=>simp;omega
theorem J5V {vs:List VarM}{j:Nat}{x:VarM}{m:Int}(h:vs[j]?=some x):setLo vs (j:Int) m=vs.set j { x with lo:=max x.lo m }:=by
 refine List.ext_getElem? fun i=>?_
 rw[T9]
 by_cases e:i=j
 ·subst e
  rw[h,List.getElem?_set_self (List.getElem?_eq_some_iff.1 h).1]
  simp
 ·rw[List.getElem?_set_ne (by omega)]
  cases vs[i]? with
  | none=>rfl
  | some u=>simp;omega
end Prf
end Go.Proofs.YtcjgimlcefhhmaaGreatDoor

/- Texts: RatA Row2 PrC PsA. -/
import Derived.Test.YtcjgimlcefhhmaaGreatDoorU1
import Derived.Test.YtcjgimlcefhhmaaGreatDoorU9
import Derived.Test.YtcjgimlcefhhmaaGreatDoorU13
import Derived.Test.YtcjgimlcefhhmaaGreatDoorU15
import Derived.Test.YtcjgimlcefhhmaaGreatDoorU17
import Derived.Test.YtcjgimlcefhhmaaGreatDoorU18
import Derived.Test.YtcjgimlcefhhmaaGreatDoorU19
set_option linter.unusedVariables false
set_option linter.unusedSimpArgs false
set_option maxRecDepth 100000
set_option maxHeartbeats 12800000
namespace Go.Proofs.YtcjgimlcefhhmaaGreatDoor
open Go.RowKit Go.Lib
def RatL (w:World)(v:Value)(n:Bool)(l d:List Nat):Prop:=∃ p k c q m e,v = .agg #[.bool n,.slice p k c,.slice q m e]∧NatL w (.slice p k c) l∧NatL w (.slice q m e) d
theorem RatL.grow {w w':World}{v:Value}{n:Bool}{l d:List Nat}(h:RatL w v n l d)(g:Gr w w'):RatL w' v n l d:=by
 obtain⟨p,k,c,q,m,e,rfl,h1,h2⟩:=h;exact⟨p,k,c,q,m,e,rfl,h1.grow g,h2.grow g⟩
def RatC (w:World)(v:Value)(x:Rat):Prop:=RatL w v (decide (x.num < 0)) (digs x.num.natAbs) (dd x.den)
theorem RatC.grow {w w':World}{v:Value}{x:Rat}(h:RatC w v x)(g:Gr w w'):RatC w' v x:=RatL.grow h g
def RatV (w:World)(v:Value)(x:Rat)(L:Nat):Prop:=∃ n l d,RatL w v n l d∧ratv n l d=x∧l.length≤L∧d.length≤L
theorem RatV.grow {w w':World}{v:Value}{x:Rat}{L:Nat}(h:RatV w v x L)(g:Gr w w'):RatV w' v x L:=by
 obtain⟨n,l,d,h1,h2⟩:=h;exact⟨n,l,d,h1.grow g,h2⟩
theorem RatC.v {w:World}{v:Value}{x:Rat}{L:Nat}(h:RatC w v x)(hx:Sz L x):RatV w v x L:=⟨_,_,_,h,J0c x,hx.1,Vy hx.2⟩
theorem RatL.mk {w:World}{n:Bool}{p q:Option Addr}{k c m e:Nat}{l d:List Nat}(h1:NatL w (.slice p k c) l)(h2:NatL w (.slice q m e) d):RatL w (.agg #[.bool n,.slice p k c,.slice q m e]) n l d:=
 ⟨p,k,c,q,m,e,rfl,h1,h2⟩
theorem RatC.mk {w:World}{n:Bool}{p q:Option Addr}{k c m e:Nat}{x:Rat}(h1:IntC w (.agg #[.bool n,.slice p k c]) x.num)(h2:NatL w (.slice q m e) (dd x.den)):RatC w (.agg #[.bool n,.slice p k c,.slice q m e]) x:=by
 obtain⟨p',k',c',h,h1⟩:=h1
 simp only[Value.agg.injEq,Array.mk.injEq,List.cons.injEq,Value.bool.injEq,Value.slice.injEq,and_true] at h
 obtain⟨rfl,rfl,rfl,rfl⟩:=h
 exact⟨_,_,_,_,_,_,rfl,h1,h2⟩
theorem RatC.ofInt {w:World}{n:Bool}{p:Option Addr}{k c:Nat}{z:Int}(h1:IntC w (.agg #[.bool n,.slice p k c]) z):RatC w (.agg #[.bool n,.slice p k c,.slice none 0 0]) (z:Rat):=RatC.mk h1 (NatL.nil w)
def Jk (w:World)(b:Nat)(x y z:Value):Prop:=∃ t,w.heap[b]?=some (.cells #[x,y,z] t (0,0))
theorem Jk.lt {w:World}{b:Nat}{x y z:Value}(h:Jk w b x y z):b < w.heap.size:=by
 obtain⟨t,h⟩:=h
 rcases Nat.lt_or_ge b w.heap.size with h'|h'
 ·exact h'
 ·rw[Array.getElem?_eq_none h'] at h;cases h
theorem Jk.grow {w w':World}{b:Nat}{x y z:Value}(h:Jk w b x y z)(g:Gr w w'):Jk w' b x y z:=by
 have hl:=h.lt
 obtain⟨t,h⟩:=h;exact⟨t,by rw[Below.block g b hl];exact h⟩
theorem Jk.c0 {w:World}{b:Nat}{x y z:Value}(h:Jk w b x y z):∀ w',Gr w w'→w'.cell? ⟨b,0,none⟩=some x:=fun w' g=>by
 obtain⟨t,h⟩:=h.grow g;simp[World.cell?,h]
theorem Jk.c1 {w:World}{b:Nat}{x y z:Value}(h:Jk w b x y z):∀ w',Gr w w'→w'.cell? ⟨b,1,none⟩=some y:=fun w' g=>by
 obtain⟨t,h⟩:=h.grow g;simp[World.cell?,h]
theorem Jk.c2 {w:World}{b:Nat}{x y z:Value}(h:Jk w b x y z):∀ w',Gr w w'→w'.cell? ⟨b,2,none⟩=some z:=fun w' g=>by
 obtain⟨t,h⟩:=h.grow g;simp[World.cell?,h]
theorem Jk.f0 {w:World}{b:Nat}{x y z:Value}(h:Jk w b x y z)(i:Nat):w.frozen? ⟨b,i,none⟩=false:=by
 obtain⟨t,h⟩:=h;simp[World.frozen?,h]
theorem Jk.load {w:World}{b:Nat}{x y z:Value}(h:Jk w b x y z):w.cell? ⟨b,0,none⟩=some x∧w.cell? ⟨b,1,none⟩=some y∧w.cell? ⟨b,2,none⟩=some z:=
 ⟨h.c0 w (Gr.refl w),h.c1 w (Gr.refl w),h.c2 w (Gr.refl w)⟩
theorem Jk.new (w:World)(x y z:Value)(t:TypeId):Jk (w.alloc (.cells #[x,y,z] t)) w.heap.size x y z:=⟨t,heap_alloc_new w _⟩
def set3 (w:World)(b:Nat)(x y z:Value):World:=((w.setCell ⟨b,0,none⟩ x).setCell ⟨b,1,none⟩ y).setCell ⟨b,2,none⟩ z
def set2 (w:World)(b:Nat)(x y:Value):World:=(w.setCell ⟨b,0,none⟩ x).setCell ⟨b,1,none⟩ y
theorem Jk.set {w:World}{b:Nat}{x y z:Value}(h:Jk w b x y z)(u v s:Value):Jk (((w.setCell ⟨b,0,none⟩ u).setCell ⟨b,1,none⟩ v).setCell ⟨b,2,none⟩ s) b u v s:=by
 obtain⟨t,h⟩:=h
 refine⟨t,?_⟩
 simp[World.setCell,Array.getElem?_modify,h]
def Upd (b:Nat)(w w':World):Prop:=∀ i,i≠b→w'.heap[i]?=w.heap[i]?
theorem upd2 (w:World)(b:Nat)(u v:Value):Upd b w ((w.setCell ⟨b,0,none⟩ u).setCell ⟨b,1,none⟩ v):=fun i hi=>by
 rw[Below.heap_setCell _ _ _ _ hi,Below.heap_setCell _ _ _ _ hi]
theorem upd3 (w:World)(b:Nat)(u v s:Value):Upd b w (((w.setCell ⟨b,0,none⟩ u).setCell ⟨b,1,none⟩ v).setCell ⟨b,2,none⟩ s):=fun i hi=>by
 rw[Below.heap_setCell _ _ _ _ hi,Below.heap_setCell _ _ _ _ hi,Below.heap_setCell _ _ _ _ hi]
def Ki (w:World)(b:Nat):Prop:=∃ (a:Array Value) (t:TypeId),w.heap[b]?=some (.cells a t (0,0))∧∀ (i:Nat) (k:IntKind) (z:Int),a[i]?≠some (Value.int k z)
theorem Two.noInt {w:World}{b:Nat}{s:Bool}{p:Option Addr}{k c:Nat}(h:Two w b (.bool s) (.slice p k c)):Ki w b:=by
 obtain⟨t,h⟩:=h
 refine⟨_,t,h,fun i k z=>?_⟩
 match i with
 | 0=>simp
 | 1=>simp
 | n+2=>simp
theorem Jk.noInt {w:World}{b:Nat}{s:Bool}{p q:Option Addr}{k c m e:Nat}(h:Jk w b (.bool s) (.slice p k c) (.slice q m e)):Ki w b:=by
 obtain⟨t,h⟩:=h
 refine⟨_,t,h,fun i k z=>?_⟩
 match i with
 | 0=>simp
 | 1=>simp
 | 2=>simp
 | n+3=>simp
theorem NatL.upd {w w':World}{v:Value}{l:List Nat}{b:Nat}(h:NatL w v l)(hb:Ki w b)(hu:Upd b w w'):NatL w' v l:=by
 obtain⟨h0,q,d,rfl,h1,h2,h3⟩:=h
 refine⟨h0,q,d,rfl,h1,h2,?_⟩
 rcases h3 with h3|⟨b',o,rfl,hc⟩
 ·exact .inl h3
 ·refine .inr ⟨b',o,rfl,fun i hi=>?_⟩
  have hi':=hc i hi
  have hne:b'≠b:=by
   intro e
   subst e
   obtain⟨a,ty,t,ha⟩:=hb
   simp only[World.cell?,t] at hi'
   exact ha _ _ _ hi'
  rw[World.cell?_of_block (w:=w) (hu b' hne)]
  exact hi'
theorem IntL.upd {w w':World}{v:Value}{n:Bool}{l:List Nat}{b:Nat}(h:IntL w v n l)(hb:Ki w b)(hu:Upd b w w'):IntL w' v n l:=by
 obtain⟨p,k,c,rfl,h⟩:=h;exact⟨p,k,c,rfl,h.upd hb hu⟩
theorem IntC.upd {w w':World}{v:Value}{z:Int}{b:Nat}(h:IntC w v z)(hb:Ki w b)(hu:Upd b w w'):IntC w' v z:=IntL.upd h hb hu
theorem IntV.upd {w w':World}{v:Value}{z:Int}{L b:Nat}(h:IntV w v z L)(hb:Ki w b)(hu:Upd b w w'):IntV w' v z L:=by
 obtain⟨n,l,h1,h2⟩:=h;exact⟨n,l,h1.upd hb hu,h2⟩
theorem RatL.upd {w w':World}{v:Value}{n:Bool}{l d:List Nat}{b:Nat}(h:RatL w v n l d)(hb:Ki w b)(hu:Upd b w w'):RatL w' v n l d:=by
 obtain⟨p,k,c,q,m,e,rfl,h1,h2⟩:=h;exact⟨p,k,c,q,m,e,rfl,h1.upd hb hu,h2.upd hb hu⟩
theorem RatC.upd {w w':World}{v:Value}{x:Rat}{b:Nat}(h:RatC w v x)(hb:Ki w b)(hu:Upd b w w'):RatC w' v x:=RatL.upd h hb hu
theorem RatV.upd {w w':World}{v:Value}{x:Rat}{L b:Nat}(h:RatV w v x L)(hb:Ki w b)(hu:Upd b w w'):RatV w' v x L:=by
 obtain⟨n,l,d,h1,h2⟩:=h;exact⟨n,l,d,h1.upd hb hu,h2⟩
theorem Two.upd {w w':World}{b b':Nat}{x y:Value}(h:Two w b' x y)(hu:Upd b w w')(hne:b'≠b):Two w' b' x y:=by
 obtain⟨t,h⟩:=h;exact⟨t,by rw[hu b' hne];exact h⟩
theorem Jk.upd {w w':World}{b b':Nat}{x y z:Value}(h:Jk w b' x y z)(hu:Upd b w w')(hne:b'≠b):Jk w' b' x y z:=by
 obtain⟨t,h⟩:=h;exact⟨t,by rw[hu b' hne];exact h⟩
theorem Gr.three {a w:World}(g:Gr a w){b:Nat}(hb:¬ b < a.heap.size)(u v s:Value):Gr a (((w.setCell ⟨b,0,none⟩ u).setCell ⟨b,1,none⟩ v).setCell ⟨b,2,none⟩ s):=
 Below.setCell (Below.setCell (Below.setCell g (by show a.heap.size≤b;omega) u) (by show a.heap.size≤b;omega) v) (by show a.heap.size≤b;omega) s
theorem IntV.int {w:World}{v:Value}{z:Int}{L:Nat}(h:IntV w v z L):∃ n p k c l,v = .agg #[.bool n,.slice p k c]∧NatL w (.slice p k c) l∧zval n l=z∧l.length≤L:=by
 obtain⟨n,l,⟨p,k,c,rfl,h⟩,h2,h3⟩:=h
 exact⟨n,p,k,c,l,rfl,h,h2,h3⟩
theorem IntV.mono {w:World}{v:Value}{z:Int}{L M:Nat}(h:IntV w v z L)(hM:L≤M):IntV w v z M:=by
 obtain⟨n,l,h1,h2,h3⟩:=h;exact⟨n,l,h1,h2,Nat.le_trans h3 hM⟩
theorem IntV.nat {w:World}{p:Option Addr}{k c:Nat}{l:List Nat}{L:Nat}(h:NatL w (.slice p k c) l)(hl:l.length≤L):IntV w (.agg #[.bool false,.slice p k c]) (nval l:Int) L:=
 ⟨false,l,⟨p,k,c,rfl,h⟩,rfl,hl⟩
theorem J3M (z:Int)(h1 : -4294967296 < z)(h2:z < 4294967296):(digs z.natAbs).length≤1:=by
 refine Kf ?_
 rw[Nat.pow_one]
 unfold BB
 omega
theorem Sf (w:World)(va:Value)(x:Int)(L:Nat)(hx:IntV w va x L)(hL:L≤1000000):
  Calls Tryz.prog 165 #[va] w (Ret w fun r w'=>ResV w' r x L):=by
 have hl:=hx.len
 obtain⟨n,l,h1,rfl,h3⟩:=hx
 exact v_of hl (Ou w va n l _ rfl h1 (by omega))
theorem J2v (w:World)(va:Value)(x z:Int)(L:Nat)(hx:IntV w va x L)(hz : - x=z)(hL:L≤1000000):
  Calls Tryz.prog 166 #[va] w (Ret w fun r w'=>ResV w' r z L):=by
 have h:=hx.len
 rw[show x.natAbs=z.natAbs by omega] at h
 obtain⟨n,l,h1,rfl,h3⟩:=hx
 exact v_of h (J5v w va n l z hz h1 (by omega))
theorem Sg (w:World)(va vb:Value)(x y z:Int)(L M:Nat)(hx:IntV w va x L)(hy:IntV w vb y M)(hz:x * y=z)(hL:L≤1000000)(hM:M≤1000000):
  Calls Tryz.prog 159 #[va,vb] w (Ret w fun r w'=>ResV w' r z (L+M+1)):=by
 have h:=Yq hx.len hy.len
 rw[hz] at h
 refine v_of h ?_
 obtain⟨n,l,h1,rfl,h3⟩:=hx
 obtain⟨n',l',k1,rfl,k3⟩:=hy
 exact J5u w va vb n n' l l' z hz h1 k1 (by omega) (by omega)
theorem J2u (w:World)(va vb:Value)(x y z:Int)(L M:Nat)(hx:IntV w va x L)(hy:IntV w vb y M)(hz:x+y=z)(hL:L≤1000000)(hM:M≤1000000):
  Calls Tryz.prog 162 #[va,vb] w (Ret w fun r w'=>ResV w' r z (L+M+1)):=by
 have h:=Yp hx.len hy.len
 rw[hz] at h
 refine v_of h ?_
 obtain⟨n,l,h1,rfl,h3⟩:=hx
 obtain⟨n',l',k1,rfl,k3⟩:=hy
 exact J5s w va vb n n' l l' z hz h1 k1 (by omega) (by omega)
theorem J2w (w:World)(va:Value)(x z:Int)(L:Nat)(hx:IntV w va x L)(hz:sgn x=z)(hL:L≤1000000):
  Calls Tryz.prog 109 #[va] w (Ret w fun r w'=>r = .int .i64 z):=by
 obtain⟨n,l,h1,rfl,h3⟩:=hx
 exact J5w w va n l z hz h1 (by omega)
theorem P3 (w:World)(va vb:Value)(x y Q:Int)(L M:Nat)(hx:IntV w va x L)(hy:IntV w vb y M)(h0:y≠0)(hQ:quoZ false x y=Q)(hL:L≤1000000)(hM:M≤1000000):
  Calls Tryz.prog 203 #[va,vb] w (Ret w fun r w'=>∃ q s,r = .tuple #[q,s,.int .i64 0]∧IntC w' q Q∧IntC w' s (x - Q * y)):=by
 obtain⟨n,l,h1,rfl,h3⟩:=hx
 obtain⟨n',l',k1,rfl,k3⟩:=hy
 exact J3u w va vb n n' l l' _ _ Q _ rfl rfl hQ rfl h1 k1 (by omega) (by omega) h0
theorem J6m (w:World)(va vb:Value)(x y Q:Int)(L M:Nat)(hx:IntV w va x L)(hy:IntV w vb y M)(h0:y≠0)(hQ:quoZ true x y=Q)(hL:L≤1000000)(hM:M≤1000000):
  Calls Tryz.prog 286 #[va,vb] w (Ret w fun r w'=>∃ q s,r = .tuple #[q,s,.int .i64 0]∧IntC w' q Q∧IntC w' s (x - Q * y)):=by
 obtain⟨n,l,h1,rfl,h3⟩:=hx
 obtain⟨n',l',k1,rfl,k3⟩:=hy
 exact J3r w va vb n n' l l' _ _ Q _ rfl rfl hQ rfl h1 k1 (by omega) (by omega) h0
end Go.Proofs.YtcjgimlcefhhmaaGreatDoor
namespace Go.Proofs.YtcjgimlcefhhmaaGreatDoor
open Go.RowKit
section enc
variable {α:Type}{enc:α→List Value}{sz:Nat}
theorem Kv (he:∀ x,(enc x).length=sz):∀ l:List α,(l.flatMap enc).length=l.length * sz
 | []=>by simp
 | x :: l=>by rw[List.flatMap_cons,List.length_append,he,Kv he l,List.length_cons,Nat.add_mul];omega
theorem N5 (he:∀ x,(enc x).length=sz):∀ (l:List α) (k:Nat) (x:α) (j:Nat),l[k]?=some x→j < sz→(l.flatMap enc)[k * sz+j]?=(enc x)[j]?
 | [],k,x,j,h,_=>by simp at h
 | y :: l,0,x,j,h,hj=>by
  simp at h;subst h
  rw[List.flatMap_cons,List.getElem?_append_left (by rw[he];omega)]
  simp
 | y :: l,k+1,x,j,h,hj=>by
  have ih:=N5 he l k x j (by simpa using h) hj
  rw[List.flatMap_cons,List.getElem?_append_right (by rw[he,Nat.add_mul];omega),← ih,he]
  congr 1
  rw[Nat.add_mul];omega
def SlL (w:World)(sz:Nat)(enc:α→List Value)(v:Value)(l:List α):Prop:=SlV w sz v l.length (l.flatMap enc)
theorem SlL.grow {w w':World}{v:Value}{l:List α}(h:SlL w sz enc v l)(g:Gr w w'):SlL w' sz enc v l:=SlV.grow h g
theorem SlL.parts {w:World}{v:Value}{l:List α}(h:SlL w sz enc v l):∃ p c,v = .slice p l.length c∧l.length≤c∧c≤9223372036854775807:=SlV.parts h
theorem SlL.nil (w:World):SlL w sz enc (.slice none 0 0) []:=SlV.nil w sz
theorem SlL.at {w:World}{p:Option Addr}{n c:Nat}{l:List α}(he:∀ x,(enc x).length=sz)(h:SlL w sz enc (.slice p n c) l)(hn:l.length=n){k:Nat}(hk:k < n):
  ∃ b o x,p=some ⟨b,o,none⟩∧l[k]?=some x∧∀ j u,(enc x)[j]?=some u→∀ w',Gr w w'→w'.cell? ⟨b,o+k * sz+j,none⟩=some u:=by
 unfold SlL at h
 rw[hn] at h
 obtain⟨b,o,rfl,hc⟩:=SlV.cells h (by omega)
 obtain⟨x,hx⟩:∃ x,l[k]?=some x:=⟨_,List.getElem?_eq_getElem (by omega)⟩
 refine⟨b,o,x,rfl,hx,fun j u hu w' g=>?_⟩
 have hj:j < sz:=by
  have:=(List.getElem?_eq_some_iff.1 hu).1
  rw[he] at this;exact this
 rw[Nat.add_assoc]
 exact g.cell (hc _ _ ((N5 he l k x j hx hj).trans hu))
theorem SlL.at1 {w:World}{p:Option Addr}{n c:Nat}{l:List α}(he:∀ x,(enc x).length=1)(h:SlL w 1 enc (.slice p n c) l)(hn:l.length=n){k:Nat}(hk:k < n):
  ∃ b o x,p=some ⟨b,o,none⟩∧l[k]?=some x∧∀ u,enc x=[u]→∀ w',Gr w w'→w'.cell? ⟨b,o+k,none⟩=some u:=by
 obtain⟨b,o,x,hp,hx,hc⟩:=h.at he hn hk
 refine⟨b,o,x,hp,hx,fun u hu w' g=>?_⟩
 have:=hc 0 u (by rw[hu];rfl) w' g
 simpa using this
def OwnL (w:World)(base:Nat)(e:TypeId)(sz:Nat)(enc:α→List Value)(v:Value)(l:List α):Prop:=w.ownsRow base e sz v l.length (l.flatMap enc)
theorem OwnL.read {w:World}{base:Nat}{e:TypeId}{v:Value}{l:List α}(h:OwnL w base e sz enc v l):SlL w sz enc v l:=SlV.of_own h
theorem OwnL.grow {w w':World}{base:Nat}{e:TypeId}{v:Value}{l:List α}(h:OwnL w base e sz enc v l)(g:Gr w w'):OwnL w' base e sz enc v l:=J4J h g
theorem OwnL.nil (w:World)(base:Nat)(e:TypeId):OwnL w base e sz enc (.slice none 0 0) []:=World.ownsRow_nil w base e sz
theorem OwnL.made0 (w:World)(base:Nat)(e:TypeId)(hb:base≤w.heap.size):OwnL (w.alloc (.cells #[] e)) base e sz enc (.slice (some ⟨w.heap.size,0,none⟩) 0 0) []:=
 World.ownsRow_made w #[] 0 hb (by simp[maxLen]) (by simp)
theorem OwnL.ne {w:World}{base:Nat}{e:TypeId}{v:Value}{l:List α}(h:OwnL w base e sz enc v l):some w.heap.size≠v.ownBlock:=fun e=>by
 have:=(h.lt _ e.symm).2;omega
theorem OwnL.gr {a w w':World}{e:TypeId}{v:Value}{l:List α}(h:OwnL w a.heap.size e sz enc v l)(g:Gr a w)(hg:w.grownBy w' v.ownBlock):Gr a w':=J4I g h hg
theorem SlL.new (w:World)(t:TypeId)(he:∀ x,(enc x).length=sz)(l:List α)(vs:Array Value)(n:Nat)(h:vs.toList=l.flatMap enc)(hn:l.length=n)(hl:n≤1000000000):
  Gr w (w.alloc (.cells vs t))∧SlL (w.alloc (.cells vs t)) sz enc (.slice (some ⟨w.heap.size,0,none⟩) n n) l:=by
 refine⟨(Gr.refl w).alloc _,?_⟩
 have:=SlV.new w sz n vs t (by rw[← hn,← Kv he,← h];simp) hl
 unfold SlL
 rw[hn,← h];exact this
end enc
def Ja (w:World)(b:Nat)(vs:Array Value):Prop:=∃ t,w.heap[b]?=some (.cells vs t (0,0))
theorem Ja.lt {w:World}{b:Nat}{vs:Array Value}(h:Ja w b vs):b < w.heap.size:=by
 obtain⟨t,h⟩:=h
 rcases Nat.lt_or_ge b w.heap.size with h'|h'
 ·exact h'
 ·rw[Array.getElem?_eq_none h'] at h;cases h
theorem Ja.grow {w w':World}{b:Nat}{vs:Array Value}(h:Ja w b vs)(g:Gr w w'):Ja w' b vs:=by
 have hl:=h.lt
 obtain⟨t,h⟩:=h;exact⟨t,by rw[Below.block g b hl];exact h⟩
theorem Ja.grown {w w':World}{b:Nat}{vs:Array Value}{row:Option Nat}(h:Ja w b vs)(g:w.grownBy w' row)(hne:some b≠row):Ja w' b vs:=by
 have hl:=h.lt
 obtain⟨t,h⟩:=h;exact⟨t,by rw[g.block b hl hne];exact h⟩
theorem Ja.at {w:World}{b:Nat}{vs:Array Value}(h:Ja w b vs)(j:Nat){u:Value}(hu:vs[j]?=some u):w.cell? ⟨b,j,none⟩=some u:=by
 obtain⟨t,h⟩:=h;simp[World.cell?,h,hu]
theorem Ja.c {w:World}{b:Nat}{vs:Array Value}(h:Ja w b vs)(j:Nat){u:Value}(hu:vs[j]?=some u):∀ w',Gr w w'→w'.cell? ⟨b,j,none⟩=some u:=fun w' g=>(h.grow g).at j hu
theorem Ja.f {w:World}{b:Nat}{vs:Array Value}(h:Ja w b vs)(j:Nat):w.frozen? ⟨b,j,none⟩=false:=by
 obtain⟨t,h⟩:=h;simp[World.frozen?,h]
theorem Ja.new (w:World)(vs:Array Value)(t:TypeId):Gr w (w.alloc (.cells vs t))∧Ja (w.alloc (.cells vs t)) w.heap.size vs:=⟨(Gr.refl w).alloc _,t,heap_alloc_new w _⟩
theorem Ja.set {w:World}{b:Nat}{vs:Array Value}(h:Ja w b vs)(j:Nat)(u:Value):Ja (w.setCell ⟨b,j,none⟩ u) b (vs.setIfInBounds j u):=by
 obtain⟨t,h⟩:=h
 refine⟨t,?_⟩
 simp[World.setCell,Array.getElem?_modify,h]
theorem J8 (w:World)(b i:Nat)(u:Value):Upd b w (w.setCell ⟨b,i,none⟩ u):=fun j hj=>Below.heap_setCell _ _ _ _ hj
theorem Ja.upd {w w':World}{b b':Nat}{vs:Array Value}(h:Ja w b' vs)(hu:Upd b w w')(hne:b'≠b):Ja w' b' vs:=by
 obtain⟨t,h⟩:=h;exact⟨t,by rw[hu b' hne];exact h⟩
theorem Gr.set {a w:World}(g:Gr a w){b i:Nat}(hb:¬ b < a.heap.size)(u:Value):Gr a (w.setCell ⟨b,i,none⟩ u):=
 Below.setCell g (by show a.heap.size≤b;omega) u
section append
variable {α:Type}{enc:α→List Value}{sz:Nat}{P:Program}{ops:Array Oper}{rest:List Oper}{o:Oper}{a:Act}{Q:Exit→Act→World→Prop}{w:World}
end append
end Go.Proofs.YtcjgimlcefhhmaaGreatDoor
namespace Go.Proofs.YtcjgimlcefhhmaaGreatDoor
namespace Prf
open Go.RowKit
structure RatM where
 n:Bool
 p:Option Addr
 k:Nat
 c:Nat
 q:Option Addr
 m:Nat
 e:Nat
def RatM.v (x:RatM):Value:=.agg #[.bool x.n,.slice x.p x.k x.c,.slice x.q x.m x.e]
def encRat (x:RatM):List Value:=[.bool x.n,.slice x.p x.k x.c,.slice x.q x.m x.e]
theorem Ku (x:RatM):(encRat x).length=3:=rfl
def Ke (w:World)(v:Value)(n:Nat)(a:Nat→Rat)(L:Nat):Prop:=
 ∃ T:List RatM,SlL w 3 encRat v T∧T.length=n∧∀ (i:Nat) (t:RatM),T[i]?=some t→RatV w t.v (a i) L
theorem Ke.grow {w w':World}{v:Value}{n:Nat}{a:Nat→Rat}{L:Nat}(h:Ke w v n a L)(g:Gr w w'):Ke w' v n a L:=by
 obtain⟨T,h1,h2,h3⟩:=h
 exact⟨T,h1.grow g,h2,fun i t ht=>(h3 i t ht).grow g⟩
theorem Ke.parts {w:World}{v:Value}{n:Nat}{a:Nat→Rat}{L:Nat}(h:Ke w v n a L):∃ p c,v = .slice p n c∧n≤c∧c≤9223372036854775807:=by
 obtain⟨T,h1,h2,h3⟩:=h
 rw[← h2];exact h1.parts
theorem Ke.congr {w:World}{v:Value}{n:Nat}{a b:Nat→Rat}{L:Nat}(h:Ke w v n a L)(e:∀ i,i < n→a i=b i):Ke w v n b L:=by
 obtain⟨T,h1,h2,h3⟩:=h
 exact⟨T,h1,h2,fun i t ht=>by rw[← e i (by have:=(List.getElem?_eq_some_iff.1 ht).1;omega)];exact h3 i t ht⟩
def U8 (w:World)(b o:Nat)(x:RatM):Prop:=w.cell? ⟨b,o,none⟩=some (.bool x.n)∧w.cell? ⟨b,o+1,none⟩=some (.slice x.p x.k x.c)∧w.cell? ⟨b,o+2,none⟩=some (.slice x.q x.m x.e)
theorem Ke.at {w:World}{p:Option Addr}{n m c:Nat}{a:Nat→Rat}{L:Nat}(h:Ke w (.slice p m c) n a L){k:Nat}(hk:k < n):
  ∃ b o t,p=some ⟨b,o,none⟩∧RatV w t.v (a k) L∧∀ w',Gr w w'→U8 w' b (o+k * 3) t:=by
 obtain⟨T,h1,h2,h3⟩:=h
 have hn:T.length=m:=by
  obtain⟨p',c',e,_⟩:=h1.parts
  cases e;rfl
 obtain⟨b,o,t,hp,hx,hc⟩:=h1.at Ku hn (k:=k) (by omega)
 exact⟨b,o,t,hp,h3 k t hx,fun w' g=>⟨hc 0 _ rfl w' g,hc 1 _ rfl w' g,hc 2 _ rfl w' g⟩⟩
abbrev Kx (w:World)(v:Value)(xs:List Rat)(L:Nat):Prop:=Ke w v xs.length (atQ xs) L
def encTerm (x:Jg):List Value:=[.int .i64 x.v,.int .i64 x.c]
theorem My (x:Jg):(encTerm x).length=2:=rfl
structure RowM where
 name:List UInt8
 group:Int
 kind:Int
 tp:Option Addr
 tc:Nat
 terms:List Jg
 bound:Int
def RowM.s (x:RowM):RowS:=⟨x.name,x.group,x.kind,x.terms,x.bound⟩
def encRow (x:RowM):List Value:=[.string ⟨x.name.toArray⟩,.int .i64 x.group,.int .i64 x.kind,.slice x.tp x.terms.length x.tc,.int .i64 x.bound]
theorem L1 (x:RowM):(encRow x).length=5:=rfl
def encVar (x:VarM):List Value:=[.int .i64 x.lo,.int .i64 x.up,.bool x.op,.bool x.ig,.int .i64 x.cost]
theorem Nf (x:VarM):(encVar x).length=5:=rfl
abbrev Lp (w:World)(v:Value)(l:List Jg):Prop:=SlL w 2 encTerm v l
abbrev K3 (w:World)(v:Value)(l:List VarM):Prop:=SlL w 5 encVar v l
def Mv (w:World)(x:RowM):Prop:=Lp w (.slice x.tp x.terms.length x.tc) x.terms
def Mc (w:World)(v:Value)(R:List RowS):Prop:=∃ T:List RowM,SlL w 5 encRow v T∧T.map RowM.s=R∧∀ x ∈ T,Mv w x
theorem Mc.grow {w w':World}{v:Value}{R:List RowS}(h:Mc w v R)(g:Gr w w'):Mc w' v R:=by
 obtain⟨T,h1,h2,h3⟩:=h
 exact⟨T,h1.grow g,h2,fun x hx=>SlL.grow (h3 x hx) g⟩
theorem Mc.parts {w:World}{v:Value}{R:List RowS}(h:Mc w v R):∃ p c,v = .slice p R.length c∧R.length≤c∧c≤9223372036854775807:=by
 obtain⟨T,h1,h2,h3⟩:=h
 rw[← h2,List.length_map];exact h1.parts
def U9 (w:World)(b o:Nat)(x:RowM):Prop:=w.cell? ⟨b,o,none⟩=some (.string ⟨x.name.toArray⟩)∧w.cell? ⟨b,o+1,none⟩=some (.int .i64 x.group)∧w.cell? ⟨b,o+2,none⟩=some (.int .i64 x.kind)∧
 w.cell? ⟨b,o+3,none⟩=some (.slice x.tp x.terms.length x.tc)∧w.cell? ⟨b,o+4,none⟩=some (.int .i64 x.bound)
theorem Mc.at {w:World}{p:Option Addr}{n c:Nat}{R:List RowS}(h:Mc w (.slice p n c) R){k:Nat}(hk:k < R.length):
  ∃ b o x,p=some ⟨b,o,none⟩∧R[k]?=some x.s∧Mv w x∧∀ w',Gr w w'→U9 w' b (o+k * 5) x:=by
 obtain⟨T,h1,h2,h3⟩:=h
 subst h2
 have hn:T.length=n:=by
  obtain⟨p',c',e,_⟩:=h1.parts
  cases e;rfl
 obtain⟨b,o,x,hp,hx,hc⟩:=h1.at L1 hn (k:=k) (by rw[List.length_map] at hk;omega)
 exact⟨b,o,x,hp,by rw[List.getElem?_map,hx];rfl,h3 x (List.mem_of_getElem? hx),fun w' g=>⟨hc 0 _ rfl w' g,hc 1 _ rfl w' g,hc 2 _ rfl w' g,hc 3 _ rfl w' g,hc 4 _ rfl w' g⟩⟩
def J1o (w:World)(b o:Nat)(x:VarM):Prop:=w.cell? ⟨b,o,none⟩=some (.int .i64 x.lo)∧w.cell? ⟨b,o+1,none⟩=some (.int .i64 x.up)∧w.cell? ⟨b,o+2,none⟩=some (.bool x.op)∧
 w.cell? ⟨b,o+3,none⟩=some (.bool x.ig)∧w.cell? ⟨b,o+4,none⟩=some (.int .i64 x.cost)
theorem Mn {w:World}{p:Option Addr}{n c:Nat}{l:List VarM}(h:K3 w (.slice p n c) l)(hn:l.length=n){k:Nat}(hk:k < n):
  ∃ b o x,p=some ⟨b,o,none⟩∧l[k]?=some x∧∀ w',Gr w w'→J1o w' b (o+k * 5) x:=by
 obtain⟨b,o,x,hp,hx,hc⟩:=h.at Nf hn hk
 exact⟨b,o,x,hp,hx,fun w' g=>⟨hc 0 _ rfl w' g,hc 1 _ rfl w' g,hc 2 _ rfl w' g,hc 3 _ rfl w' g,hc 4 _ rfl w' g⟩⟩
def J1n (w:World)(b o:Nat)(x:Jg):Prop:=w.cell? ⟨b,o,none⟩=some (.int .i64 x.v)∧w.cell? ⟨b,o+1,none⟩=some (.int .i64 x.c)
theorem P2 {w:World}{p:Option Addr}{n c:Nat}{l:List Jg}(h:Lp w (.slice p n c) l)(hn:l.length=n){k:Nat}(hk:k < n):
  ∃ b o x,p=some ⟨b,o,none⟩∧l[k]?=some x∧∀ w',Gr w w'→J1n w' b (o+k * 2) x:=by
 obtain⟨b,o,x,hp,hx,hc⟩:=h.at My hn hk
 exact⟨b,o,x,hp,hx,fun w' g=>⟨hc 0 _ rfl w' g,hc 1 _ rfl w' g⟩⟩
def I64 (n:Int):Prop:=-9223372036854775808≤n∧n≤9223372036854775807
def Qb (t:Jg):Prop:=I64 t.v∧I64 t.c
def RowI (r:RowS):Prop:=I64 r.group∧I64 r.kind∧I64 r.bound∧∀ t ∈ r.terms,Qb t
def VarI (v:VarM):Prop:=I64 v.lo∧I64 v.up∧I64 v.cost
def PrgI (p:Prg):Prop:=(∀ v ∈ p.vars,VarI v)∧∀ r ∈ p.rows,RowI r
def prgV (a:Option Addr)(c:Nat)(b:Option Addr)(d:Nat)(p:Prg):Value:=.agg #[.slice a p.vars.length c,.slice b p.rows.length d]
def Jv (w:World)(v:Value)(p:Prg):Prop:=∃ a c b d,v=prgV a c b d p∧K3 w (.slice a p.vars.length c) p.vars∧Mc w (.slice b p.rows.length d) p.rows
theorem Jv.grow {w w':World}{v:Value}{p:Prg}(h:Jv w v p)(g:Gr w w'):Jv w' v p:=by
 obtain⟨a,c,b,d,e,h1,h2⟩:=h
 exact⟨a,c,b,d,e,h1.grow g,h2.grow g⟩
structure Jm where
 kind:Int
 mp:Option Addr
 mn:Nat
 mc:Nat
 var:Int
 pos:Int
 ck:Int
 cp:Option Addr
 cn:Nat
 cc:Nat
 row:Int
 vp:Option Addr
 vn:Nat
 vc:Nat
def Jm.cutV (x:Jm):Value:=.agg #[.int .i64 x.ck,.slice x.cp x.cn x.cc,.int .i64 x.row,.slice x.vp x.vn x.vc]
def encNode (x:Jm):List Value:=[.int .i64 x.kind,.slice x.mp x.mn x.mc,.int .i64 x.var,.int .i64 x.pos,.int .i64 x.ck,.slice x.cp x.cn x.cc,.int .i64 x.row,.slice x.vp x.vn x.vc]
theorem Nd (x:Jm):(encNode x).length=8:=rfl
def encI (n:Int):List Value:=[.int .i64 n]
theorem Pk (x:Int):(encI x).length=1:=rfl
abbrev K5 (w:World)(v:Value)(l:List Int):Prop:=SlL w 1 encI v l
theorem L2 {w:World}{p:Option Addr}{n c:Nat}{l:List Int}(h:K5 w (.slice p n c) l)(hn:l.length=n){k:Nat}(hk:k < n):∃ b o x,p=some ⟨b,o,none⟩∧l[k]?=some x∧∀ w',Gr w w'→w'.cell? ⟨b,o+k,none⟩=some (.int .i64 x):=by
 obtain⟨b,o,x,hp,hx,hc⟩:=h.at1 Pk hn hk
 exact⟨b,o,x,hp,hx,fun w' g=>hc _ rfl w' g⟩
structure Lm (w:World)(v:Value)(c:CutS)(L:Nat):Prop where
 parts:∃ p m e q n f,v = .agg #[.int .i64 c.kind,.slice p m e,.int .i64 c.row,.slice q n f]∧Kx w (.slice p m e) c.mult L∧K5 w (.slice q n f) c.vars∧m=c.mult.length∧n=c.vars.length
theorem Lm.grow {w w':World}{v:Value}{c:CutS}{L:Nat}(h:Lm w v c L)(g:Gr w w'):Lm w' v c L:=by
 obtain⟨p,m,e,q,n,f,h1,h2,h3,h4⟩:=h.parts
 exact⟨p,m,e,q,n,f,h1,h2.grow g,h3.grow g,h4⟩
structure Kj (w:World)(x:Jm)(s:Jh)(L:Nat):Prop where
 kind:x.kind=s.kind
 var:x.var=s.var
 pos:x.pos=s.pos
 mult:Kx w (.slice x.mp x.mn x.mc) s.mult L
 mn:x.mn=s.mult.length
 cut:Lm w x.cutV s.cut L
theorem Kj.grow {w w':World}{x:Jm}{s:Jh}{L:Nat}(h:Kj w x s L)(g:Gr w w'):Kj w' x s L:=
 ⟨h.kind,h.var,h.pos,h.mult.grow g,h.mn,h.cut.grow g⟩
def J1 (w:World)(v:Value)(N:List Jh)(L:Nat):Prop:=∃ T:List Jm,SlL w 8 encNode v T∧T.length=N.length∧∀ (i:Nat) (t:Jm) (s:Jh),T[i]?=some t→N[i]?=some s→Kj w t s L
theorem J1.grow {w w':World}{v:Value}{N:List Jh}{L:Nat}(h:J1 w v N L)(g:Gr w w'):J1 w' v N L:=by
 obtain⟨T,h1,h2,h3⟩:=h
 exact⟨T,h1.grow g,h2,fun i t x ht hx=>(h3 i t x ht hx).grow g⟩
theorem J1.parts {w:World}{v:Value}{N:List Jh}{L:Nat}(h:J1 w v N L):∃ p c,v = .slice p N.length c∧N.length≤c∧c≤9223372036854775807:=by
 obtain⟨T,h1,h2,h3⟩:=h
 rw[← h2];exact h1.parts
end Prf
end Go.Proofs.YtcjgimlcefhhmaaGreatDoor
namespace Go.Proofs.YtcjgimlcefhhmaaGreatDoor
namespace Prf
open Go.RowKit Go.Lib
def Jb (P:Prop)(r:Value):Prop:=∃ t:Bool,r = .bool t∧(t=true↔P)
theorem Jb.yes {P:Prop}(h:P):Jb P (.bool true):=⟨true,rfl,by simp[h]⟩
theorem Jb.no {P:Prop}(h:¬ P):Jb P (.bool false):=⟨false,rfl,by simp[h]⟩
theorem Jb.cases {P:Prop}{r:Value}(h:Jb P r):(r = .bool true∧P)∨(r = .bool false∧¬ P):=by
 obtain⟨t,rfl,ht⟩:=h
 cases t
 ·exact .inr ⟨rfl,fun h=>by have:=ht.2 h;cases this⟩
 ·exact .inl ⟨rfl,ht.1 rfl⟩
theorem Jb.iff {P Q:Prop}{r:Value}(h:Jb P r)(e:P↔Q):Jb Q r:=by
 obtain⟨t,rfl,ht⟩:=h
 exact⟨t,rfl,ht.trans e⟩
def rowV (x:RowM):Value:=.agg #[.string ⟨x.name.toArray⟩,.int .i64 x.group,.int .i64 x.kind,.slice x.tp x.terms.length x.tc,.int .i64 x.bound]
theorem Lp.big {w:World}{p:Option Addr}{c:Nat}{l:List Jg}(h:Lp w (.slice p l.length c) l):l.length≤c∧c≤9223372036854775807:=by
 obtain⟨p',c',e,h1,h2⟩:=SlL.parts h
 cases e;exact⟨h1,h2⟩
theorem Ng {n:Nat}:∀ (l:List Jg) (last:Int) (k:Nat) (t:Jg),l[k]?=some t→Inc n last l→(last < t.v∧t.v < (n:Int)∧t.c≠0∧In t.c)
 | x :: l,last,0,t,ht,h=>by simp at ht;subst ht;exact h.1
 | x :: l,last,k+1,t,ht,h=>by
  have h1:=Ng l x.v k t (by simpa using ht) h.2
  have h2:=h.1.1
  exact⟨by omega,h1.2⟩
theorem X4 {n:Nat}(t:Jg):∀ (l:List Jg) (last:Int),Inc n last l→(∀ x,l.getLast?=some x→x.v < t.v)→(l=[]→last < t.v)→t.v < (n:Int)→t.c≠0→In t.c→Inc n last (l ++ [t])
 | [],last,_,_,h2,h3,h4,h5=>⟨⟨h2 rfl,h3,h4,h5⟩,trivial⟩
 | x :: l,last,h,h1,h2,h3,h4,h5=>⟨h.1,X4 t l x.v h.2 (fun y hy=>h1 y (by cases l<;>simp_all)) (fun e=>h1 x (by subst e;rfl)) h3 h4 h5⟩
def lastV (l:List Jg)(k:Nat):Int:=match (l.take k).getLast? with
 | some t=>t.v
 | none => -1
theorem J3J {l:List Jg}{k:Nat}{t:Jg}(h:l[k]?=some t):lastV l (k+1)=t.v:=by
 unfold lastV
 have hk:=(List.getElem?_eq_some_iff.1 h).1
 rw[List.take_succ_eq_append_getElem hk]
 have:l[k]=t:=(List.getElem?_eq_some_iff.1 h).2
 simp[this]
theorem J3g {n:Nat}{l:List Jg}{k:Nat}{t:Jg}(ht:l[k]?=some t)(h:Inc n (-1) (l.take k))(h1:lastV l k < t.v)(h2:t.v < (n:Int))(h3:t.c≠0)(h4:In t.c):Inc n (-1) (l.take (k+1)):=by
 have hk:=(List.getElem?_eq_some_iff.1 ht).1
 rw[List.take_succ_eq_append_getElem hk]
 have e:l[k]=t:=(List.getElem?_eq_some_iff.1 ht).2
 rw[e]
 unfold lastV at h1
 refine X4 t _ _ h (fun x hx=>?_) (fun e=>?_) h2 h3 h4
 ·rw[hx] at h1;exact h1
 ·rw[e] at h1;exact h1
theorem X2 {n:Nat}{l:List Jg}{k:Nat}{t:Jg}(ht:l[k]?=some t)(h:¬ (lastV l k < t.v∧t.v < (n:Int)∧t.c≠0∧In t.c)):¬ Inc n (-1) l:=fun hi=>h (by
 have h1:=Ng l (-1) k t ht hi
 refine⟨?_,h1.2⟩
 unfold lastV
 cases k with
 | zero=>simpa using h1.1
 | succ k=>
  have hk:=(List.getElem?_eq_some_iff.1 ht).1
  rw[List.take_succ_eq_append_getElem (by omega),List.getLast?_append,List.getLast?_singleton]
  exact inc_two l (-1) k t (l[k]) (List.getElem?_eq_getElem (by omega)) ht hi)
where inc_two {n:Nat}:∀ (l:List Jg) (last:Int) (k:Nat) (t x:Jg),l[k]?=some x→l[k+1]?=some t→Inc n last l→x.v < t.v
 | y :: l,last,0,t,x,hx,ht,h=>by
  simp at hx;subst hx
  exact(Ng l y.v 0 t (by simpa using ht) h.2).1
 | y :: l,last,k+1,t,x,hx,ht,h=>inc_two l y.v k t x (by simpa using hx) (by simpa using ht) h.2
end Prf
end Go.Proofs.YtcjgimlcefhhmaaGreatDoor

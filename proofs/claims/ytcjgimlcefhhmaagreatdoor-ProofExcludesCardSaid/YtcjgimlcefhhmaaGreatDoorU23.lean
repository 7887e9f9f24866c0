/- Texts: Put PrD App PrK. -/
import Derived.Test.YtcjgimlcefhhmaaGreatDoorU20
set_option linter.unusedVariables false
set_option linter.unusedSimpArgs false
set_option maxRecDepth 100000
set_option maxHeartbeats 12800000
namespace Go.Proofs.YtcjgimlcefhhmaaGreatDoor
open Go.RowKit
section put
variable {α:Type}{enc:α→List Value}{sz:Nat}
theorem Ss (he:∀ x,(enc x).length=sz):∀ (l:List α) (k:Nat) (x y:α) (j:Nat) (u:Value),l[k]?=some x→j < sz→enc y=(enc x).set j u→(l.set k y).flatMap enc=(l.flatMap enc).set (k * sz+j) u
 | [],k,x,y,j,u,h,_,_=>by simp at h
 | z :: l,0,x,y,j,u,h,hj,hy=>by
  simp at h;subst h
  rw[List.set_cons_zero,List.flatMap_cons,List.flatMap_cons,hy,List.set_append_left _ _ (by rw[he];omega)]
  simp
 | z :: l,k+1,x,y,j,u,h,hj,hy=>by
  have ih:=Ss he l k x y j u (by simpa using h) hj hy
  rw[List.set_cons_succ,List.flatMap_cons,List.flatMap_cons,ih,List.set_append_right _ _ (by rw[he,Nat.add_mul];omega),he]
  congr 2
  rw[Nat.add_mul];omega
theorem OwnL.put {w:World}{base:Nat}{e:TypeId}{v:Value}{l:List α}(he:∀ x,(enc x).length=sz)(h:OwnL w base e sz enc v l){k:Nat}{x y:α}{j:Nat}{u:Value}(hx:l[k]?=some x)(hj:j < sz)(hy:enc y=(enc x).set j u):
  ∃ g cap,v = .slice (some ⟨g,0,none⟩) l.length cap∧base≤g∧g < w.heap.size∧w.cell? ⟨g,k * sz+j,none⟩=(enc x)[j]?∧w.frozen? ⟨g,k * sz+j,none⟩=false∧OwnL (w.setCell ⟨g,k * sz+j,none⟩ u) base e sz enc v (l.set k y):=by
 have hk:k < l.length:=(List.getElem?_eq_some_iff.1 hx).1
 have hfl:=Kv he l
 have hks:k * sz+j < l.length * sz:=by
  have:(k+1) * sz≤l.length * sz:=Nat.mul_le_mul_right _ hk
  rw[Nat.add_mul] at this;omega
 obtain⟨h1,h2⟩:=h
 rcases h2 with⟨rfl,h0⟩|⟨g,cap,cur,rfl,hb,hh,hn,hm,hs,ht⟩
 ·omega
 ·have hcur:k * sz+j < cur.size:=by rw[hs];exact Nat.lt_of_lt_of_le hks (Nat.mul_le_mul_right _ hn)
  have hg:=(Array.getElem?_eq_some_iff.1 hh).1
  have hcell:cur[k * sz+j]?=(enc x)[j]?:=by
   rw[← N5 he l k x j hx hj,← ht,List.getElem?_take_of_lt (by omega)]
   simp
  refine⟨g,cap,rfl,hb,hg,?_,?_,?_,?_⟩
  ·unfold World.cell?
   rw[show(⟨g,k * sz+j,none⟩:Addr).block=g from rfl,hh]
   exact hcell
  ·unfold World.frozen?
   rw[show(⟨g,k * sz+j,none⟩:Addr).block=g from rfl,hh]
   simp
  ·rw[Ss he l k x y j u hx hj hy,List.length_set,List.length_set];exact h1
  ·rw[List.length_set]
   refine .inr ⟨g,cap,cur.setIfInBounds (k * sz+j) u,rfl,hb,?_,hn,hm,by simpa using hs,?_⟩
   ·simp[World.setCell,Array.getElem?_modify,hh]
   ·rw[Ss he l k x y j u hx hj hy,← ht]
    simp[List.take_set]
theorem OwnL.putS {w:World}{base:Nat}{e:TypeId}{g n cap:Nat}{l:List α}(he:∀ x,(enc x).length=sz)(h:OwnL w base e sz enc (.slice (some ⟨g,0,none⟩) n cap) l){k:Nat}{x:α}(y:α)(j:Nat)(u:Value)(hx:l[k]?=some x)(hj:j < sz)(hy:enc y=(enc x).set j u):
  base≤g∧g < w.heap.size∧w.cell? ⟨g,k * sz+j,none⟩=(enc x)[j]?∧w.frozen? ⟨g,k * sz+j,none⟩=false∧OwnL (w.setCell ⟨g,k * sz+j,none⟩ u) base e sz enc (.slice (some ⟨g,0,none⟩) n cap) (l.set k y):=by
 obtain⟨g',cap',hv,h1,h2,h3,h4,h5⟩:=OwnL.put he h hx hj hy
 injection hv with hv _ _
 injection hv with hv
 injection hv with hv
 subst hv
 exact⟨h1,h2,h3,h4,h5⟩
theorem OwnL.made {w:World}{base:Nat}{e:TypeId}{v:Value}{l:List α}(h:OwnL w base e sz enc v l)(hl:0 < l.length):∃ g cap,v = .slice (some ⟨g,0,none⟩) l.length cap∧base≤g∧g < w.heap.size∧l.length≤cap∧cap≤9223372036854775807:=by
 obtain⟨h1,h2⟩:=h
 rcases h2 with⟨rfl,h0⟩|⟨g,cap,cur,rfl,hb,hh,hn,hm,hs,ht⟩
 ·omega
 ·exact⟨g,cap,rfl,hb,(Array.getElem?_eq_some_iff.1 hh).1,hn,by simpa[maxLen] using hm⟩
theorem OwnL.other {w:World}{base:Nat}{e:TypeId}{v u:Value}{l:List α}{b i:Nat}(h:OwnL w base e sz enc v l)(hne:v.ownBlock≠some b):OwnL (w.setCell ⟨b,i,none⟩ u) base e sz enc v l:=by
 refine World.ownsRow.kept (row:=some b) h ⟨rfl,rfl,rfl,?_,fun k hk hn=>Below.heap_setCell _ _ _ _ (fun e=>hn (congrArg some e))⟩ (.inr hne)
 simp[World.setCell]
end put
end Go.Proofs.YtcjgimlcefhhmaaGreatDoor
namespace Go.Proofs.YtcjgimlcefhhmaaGreatDoor
namespace Prf
open Go.RowKit
def Jo (w:World)(b n:Nat)(a:Nat→Rat)(L:Nat):Prop:=∃ T:List RatM,Ja w b (T.flatMap encRat).toArray∧T.length=n∧∀ (i:Nat) (t:RatM),T[i]?=some t→RatV w t.v (a i) L
theorem J2C:∀ (T:List RatM) (i:Nat) (k:IntKind) (z:Int),(T.flatMap encRat)[i]?≠some (Value.int k z):=fun T i k z h=>by
 have:=List.mem_of_getElem? h
 obtain⟨t,_,ht⟩:=List.mem_flatMap.1 this
 simp[encRat] at ht
theorem Jo.noInt {w:World}{b n:Nat}{a:Nat→Rat}{L:Nat}(h:Jo w b n a L):Ki w b:=by
 obtain⟨T,⟨t,ht⟩,_,_⟩:=h
 exact⟨_,t,ht,fun i k z hi=>J2C T i k z (by simpa using hi)⟩
theorem Jo.grow {w w':World}{b n:Nat}{a:Nat→Rat}{L:Nat}(h:Jo w b n a L)(g:Gr w w'):Jo w' b n a L:=by
 obtain⟨T,h1,h2,h3⟩:=h
 exact⟨T,h1.grow g,h2,fun i t ht=>(h3 i t ht).grow g⟩
theorem Jo.upd {w w':World}{b b' n:Nat}{a:Nat→Rat}{L:Nat}(h:Jo w b n a L)(hb:Ki w b')(hu:Upd b' w w')(hne:b≠b'):Jo w' b n a L:=by
 obtain⟨T,h1,h2,h3⟩:=h
 exact⟨T,h1.upd hu hne,h2,fun i t ht=>(h3 i t ht).upd hb hu⟩
theorem Jo.congr {w:World}{b n:Nat}{a a':Nat→Rat}{L:Nat}(h:Jo w b n a L)(e:∀ i,i < n→a i=a' i):Jo w b n a' L:=by
 obtain⟨T,h1,h2,h3⟩:=h
 exact⟨T,h1,h2,fun i t ht=>by rw[← e i (by have:=(List.getElem?_eq_some_iff.1 ht).1;omega)];exact h3 i t ht⟩
theorem Jo.mono {w:World}{b n:Nat}{a:Nat→Rat}{L M:Nat}(h:Jo w b n a L)(hM:L≤M):Jo w b n a M:=by
 obtain⟨T,h1,h2,h3⟩:=h
 exact⟨T,h1,h2,fun i t ht=>by
  obtain⟨n,l,d,k1,k2,k3,k4⟩:=h3 i t ht
  exact⟨n,l,d,k1,k2,by omega,by omega⟩⟩
theorem Jo.at {w:World}{b n:Nat}{a:Nat→Rat}{L:Nat}(h:Jo w b n a L){k:Nat}(hk:k < n):
  ∃ t,RatV w t.v (a k) L∧(∀ w',Gr w w'→U8 w' b (k * 3) t):=by
 obtain⟨T,h1,h2,h3⟩:=h
 obtain⟨t,ht⟩:∃ t,T[k]?=some t:=⟨_,List.getElem?_eq_getElem (by omega)⟩
 refine⟨t,h3 k t ht,fun w' g=>?_⟩
 have hc:∀ j u,(encRat t)[j]?=some u→w'.cell? ⟨b,k * 3+j,none⟩=some u:=fun j u hu=>by
  have hj:j < 3:=(List.getElem?_eq_some_iff.1 hu).1
  exact(h1.grow g).at _ (by simpa using(N5 Ku T k t j ht hj).trans hu)
 exact⟨hc 0 _ rfl,hc 1 _ rfl,hc 2 _ rfl⟩
theorem Jo.f {w:World}{b n:Nat}{a:Nat→Rat}{L:Nat}(h:Jo w b n a L)(i:Nat):w.frozen? ⟨b,i,none⟩=false:=by
 obtain⟨T,h1,_,_⟩:=h
 exact h1.f i
def setRat (w:World)(b k:Nat)(t:RatM):World:=((w.setCell ⟨b,k * 3,none⟩ (.bool t.n)).setCell ⟨b,k * 3+1,none⟩ (.slice t.p t.k t.c)).setCell ⟨b,k * 3+2,none⟩ (.slice t.q t.m t.e)
theorem Oy (w:World)(b k:Nat)(t:RatM):Upd b w (setRat w b k t):=fun i hi=>by
 unfold setRat
 rw[Below.heap_setCell _ _ _ _ hi,Below.heap_setCell _ _ _ _ hi,Below.heap_setCell _ _ _ _ hi]
theorem Xr (t:RatM):∀ (T:List RatM) (k:Nat),k < T.length→
  (((T.flatMap encRat).set (k * 3) (.bool t.n)).set (k * 3+1) (.slice t.p t.k t.c)).set (k * 3+2) (.slice t.q t.m t.e)=(T.set k t).flatMap encRat
 | [],k,h=>by simp at h
 | x :: T,0,_=>by simp[encRat]
 | x :: T,k+1,h=>by
  have ih:=Xr t T k (by simpa using h)
  have e:(k+1) * 3=k * 3+1+1+1:=by omega
  rw[e,List.set_cons_succ,List.flatMap_cons,List.flatMap_cons,← ih]
  simp[encRat]
theorem Jo.set {w:World}{b n:Nat}{a a':Nat→Rat}{L:Nat}(h:Jo w b n a L){k:Nat}(hk:k < n){t:RatM}(ht:RatV w t.v (a' k) L)(e:∀ i,i < n→i≠k→a i=a' i):Jo (setRat w b k t) b n a' L:=by
 have hni:=h.noInt
 obtain⟨T,h1,h2,h3⟩:=h
 have hu:=Oy w b k t
 refine⟨T.set k t,?_,by simpa using h2,fun i s hs=>?_⟩
 ·have:=((h1.set (k * 3) (.bool t.n)).set (k * 3+1) (.slice t.p t.k t.c)).set (k * 3+2) (.slice t.q t.m t.e)
  rw[← Xr t T k (by omega)]
  unfold setRat
  simpa using this
 ·by_cases hi:i=k
  ·subst hi
   rw[List.getElem?_set_self (by omega)] at hs
   obtain rfl:=Option.some.inj hs
   exact ht.upd hni hu
  ·rw[List.getElem?_set_ne (by omega)] at hs
   have hl:=(List.getElem?_eq_some_iff.1 hs).1
   rw[← e i (by omega) hi]
   exact(h3 i s hs).upd hni hu
theorem Jo.read {w:World}{b n:Nat}{a:Nat→Rat}{L:Nat}(h:Jo w b n a L)(hn:n≤1000000000):Ke w (.slice (some ⟨b,0,none⟩) n n) n a L:=by
 obtain⟨T,h1,h2,h3⟩:=h
 refine⟨T,?_,h2,h3⟩
 subst h2
 refine⟨Kv Ku T,_,_,rfl,Nat.le_refl _,by omega,.inr ⟨b,0,rfl,fun j u hu=>?_⟩⟩
 rw[Nat.zero_add]
 exact h1.at j (by simpa using hu)
def zeroRat:RatM:=⟨false,none,0,0,none,0,0⟩
theorem P9 (w:World)(L:Nat):RatV w zeroRat.v 0 L:=⟨false,[],[],⟨none,0,0,none,0,0,rfl,NatL.nil w,NatL.nil w⟩,by decide +kernel,Nat.zero_le _,Nat.zero_le _⟩
theorem Jo.zero {w:World}{b n:Nat}(L:Nat){vs:Array Value}(h:Ja w b vs)(hv:vs=((List.replicate n zeroRat).flatMap encRat).toArray):Jo w b n (fun _=>0) L:=by
 subst hv
 refine⟨_,h,by simp,fun i t ht=>?_⟩
 have:=List.mem_of_getElem? ht
 obtain rfl:=(List.mem_replicate.1 this).2
 exact P9 w L
end Prf
end Go.Proofs.YtcjgimlcefhhmaaGreatDoor
namespace Go.Proofs.YtcjgimlcefhhmaaGreatDoor
open Go.RowKit
section append
variable {α:Type}{enc:α→List Value}{sz:Nat}{P:Program}{ops:Array Oper}{rest:List Oper}{o:Oper}{a:Act}{Q:Exit→Act→World→Prop}{w:World}
theorem Pe (t ty e:TypeId)(z:Value)(bytes:Nat)(ht:P.underlying t=some (.slice e))(hinfo:(P.info? e).map (fun i=>(i.zero,i.size,i.bytes))=some (some z,sz,bytes))(hzs:z.cells.size=sz)(hsz:0 < sz)(he:∀ x,(enc x).length=sz)(h1:∀ x,∀ u ∈ enc x,u.oneCell'=true)
  (base:Nat) (v vx:Value) (l m:List α) (hown:OwnL w base e sz enc v l) (hm:SlL w sz enc vx m)
  (hlen:(l.length+m.length) * bytes≤140737488355328) (hlen2:l.length+m.length≤1000000000000) (hbase:base≤w.heap.size) (hpos:0 < m.length):
  ∃ v' w',(Builtin.append_ #[t,t] ty #[v,vx]).run P w = .ok v' w'∧OwnL w' base e sz enc v' (l ++ m)∧w.grownBy w' v.ownBlock∧(v'.ownBlock=v.ownBlock∨v'.ownBlock=some w.heap.size):=by
 obtain⟨i0,hi,hz0,hz1,hz2⟩:=info_parts hinfo
 obtain⟨hd,p,c,rfl,k1,k2,k3⟩:=hm
 rcases k3 with rfl|⟨b,off,rfl,hc⟩
 ·omega
 ·have hnews:∀ j u,(m.flatMap enc)[j]?=some u→w.cell? ((⟨b,off,none⟩:Addr).add j)=some u:=fun j u hu=>by rw[Na];exact hc j u hu
  have hone:∀ u ∈ m.flatMap enc,u.oneCell'=true:=fun u hu=>by
   obtain⟨y,_,hy⟩:=List.mem_flatMap.1 hu
   exact h1 y u hy
  have hml:=Kv he m
  obtain⟨v',w',hr,h2,h3,_⟩:=run_append_own (P:=P) w base t ty e i0 z sz bytes ht hi hz0 hz1 hz2 hzs hsz v l.length (l.flatMap enc) hown ⟨b,off,none⟩ m.length c (m.flatMap enc) hml hnews hone (by unfold maxLen;omega) hlen hbase
  have hblk:v'.ownBlock=v.ownBlock∨v'.ownBlock=some w.heap.size:=by
   subst hz1
   subst hz2
   have hown2:=hown.2
   rcases hown2 with⟨rfl,h0⟩|⟨g,cap,cur,rfl,hbg,hg,hnc,hcm,hcs,htake⟩
   ·have hr2:=run_append_nil (P:=P) w t ty e i0 z ht hi hz0 ⟨b,off,none⟩ m.length c (m.flatMap enc) hml hnews hpos (by omega) (by have:=hlen;rw[h0] at this;simp only[Nat.zero_add] at this;omega)
    have e1:=hr.symm.trans hr2
    injection e1 with e2 e3
    subst e2
    exact .inr rfl
   ·by_cases hroom:l.length+m.length≤cap
    ·have hfit:l.length * i0.size+(m.flatMap enc).length≤cur.size:=by rw[hml,hcs,← Nat.add_mul];exact Nat.mul_le_mul_right _ hroom
     have hr2:=run_append_room (P:=P) w t ty e i0 ht hi g l.length cap cur hg ⟨b,off,none⟩ m.length c (m.flatMap enc) hml hnews hone hroom hfit
     have e1:=hr.symm.trans hr2
     injection e1 with e2 e3
     subst e2
     exact .inl rfl
    ·have holds:∀ j u,(l.flatMap enc)[j]?=some u→w.cell? ((⟨g,0,none⟩:Addr).add j)=some u:=World.ownsRow.cells (show w.ownsRow base e i0.size _ l.length (l.flatMap enc) from hown) (g:=g) rfl
     have hr2:=run_append_grow (P:=P) w t ty e i0 z ht hi hz0 ⟨g,0,none⟩ l.length cap (l.flatMap enc) hown.1 holds ⟨b,off,none⟩ m.length c (m.flatMap enc) hml hnews (by omega) (by omega) (growslice_fits (by omega) hlen)
     have e1:=hr.symm.trans hr2
     injection e1 with e2 e3
     subst e2
     exact .inr rfl
  refine⟨v',w',hr,?_,h3,hblk⟩
  unfold OwnL
  rw[List.flatMap_append,List.length_append]
  exact h2
end append
end Go.Proofs.YtcjgimlcefhhmaaGreatDoor
namespace Go.Proofs.YtcjgimlcefhhmaaGreatDoor
namespace Prf
open Go.RowKit
def Dk (w w':World):Prop:=∀ (b o:Nat) (z:Int),w.cell? ⟨b,o,none⟩=some (.int .u32 z)→w'.cell? ⟨b,o,none⟩=some (.int .u32 z)
theorem Dk.refl (w:World):Dk w w:=fun _ _ _ h=>h
theorem Dk.trans {a b c:World}(h:Dk a b)(k:Dk b c):Dk a c:=fun x y z hz=>k x y z (h x y z hz)
theorem Dk.gr {w w':World}(g:Gr w w'):Dk w w':=fun b o z h=>g.cell h
def NoU (w:World)(b:Nat):Prop:=∃ (a:Array Value) (t:TypeId),w.heap[b]?=some (.cells a t (0,0))∧∀ (i:Nat) (z:Int),a[i]?≠some (Value.int .u32 z)
theorem NoU.cell {w:World}{b o:Nat}{z:Int}(h:NoU w b):w.cell? ⟨b,o,none⟩≠some (.int .u32 z):=fun e=>by
 obtain⟨a,ty,t,ha⟩:=h
 simp only[World.cell?,t] at e
 exact ha _ _ e
theorem Zi {w:World}{b:Nat}(h:Ki w b):NoU w b:=by
 obtain⟨a,t,h1,h2⟩:=h
 exact⟨a,t,h1,fun i z=>h2 i _ z⟩
theorem NoU.of {w:World}{b:Nat}{vs:Array Value}(h:Ja w b vs)(hv:∀ v ∈ vs,∀ z,v≠Value.int .u32 z):NoU w b:=by
 obtain⟨t,h⟩:=h
 exact⟨vs,t,h,fun i z e=>hv _ (Array.mem_of_getElem? e) z rfl⟩
theorem Dk.upd {w w':World}{b:Nat}(hb:NoU w b)(hu:Upd b w w'):Dk w w':=fun x o z h=>by
 have hne:x≠b:=fun e=>by subst e;exact hb.cell h
 rw[World.cell?_of_block (w:=w) (hu x hne)]
 exact h
theorem Dk.grown {w w':World}{row:Option Nat}(hg:w.grownBy w' row)(hr:∀ g,row=some g→NoU w g):Dk w w':=fun x o z h=>by
 have hlt:=World.block_lt_of_cell? (w:=w) _ h
 have hne:some x≠row:=fun e=>(hr x e.symm).cell h
 rw[World.cell?_of_block (w:=w) (hg.block x hlt hne)]
 exact h
theorem Te {w w':World}{v:Value}{l:List Nat}(h:NatL w v l)(d:Dk w w'):NatL w' v l:=by
 obtain⟨h0,p,c,rfl,h1,h2,h3⟩:=h
 refine⟨h0,p,c,rfl,h1,h2,?_⟩
 rcases h3 with h3|⟨b,o,rfl,hc⟩
 ·exact .inl h3
 ·exact .inr ⟨b,o,rfl,fun i hi=>d _ _ _ (hc i hi)⟩
theorem Qr {w w':World}{v:Value}{z:Int}(h:IntC w v z)(d:Dk w w'):IntC w' v z:=by
 obtain⟨p,k,c,rfl,h⟩:=h;exact⟨p,k,c,rfl,Te h d⟩
theorem J07 {w w':World}{v:Value}{n:Bool}{l e:List Nat}(h:RatL w v n l e)(d:Dk w w'):RatL w' v n l e:=by
 obtain⟨p,k,c,q,m,f,rfl,h1,h2⟩:=h;exact⟨p,k,c,q,m,f,rfl,Te h1 d,Te h2 d⟩
theorem Ot {w w':World}{v:Value}{x:Rat}(h:RatC w v x)(d:Dk w w'):RatC w' v x:=J07 h d
theorem Pw {w w':World}{v:Value}{x:Rat}{L:Nat}(h:RatV w v x L)(d:Dk w w'):RatV w' v x L:=by
 obtain⟨n,l,e,h1,h2⟩:=h;exact⟨n,l,e,J07 h1 d,h2⟩
theorem Q1 {w w':World}{b n:Nat}{a:Nat→Rat}{L:Nat}(h:Jo w b n a L)(d:Dk w w')(hb:w'.heap[b]?=w.heap[b]?):Jo w' b n a L:=by
 obtain⟨T,⟨t,h1⟩,h2,h3⟩:=h
 exact⟨T,⟨t,by rw[hb];exact h1⟩,h2,fun i t ht=>Pw (h3 i t ht) d⟩
theorem Kt {w w':World}{b:Nat}{vs:Array Value}(h:Ja w b vs)(hb:w'.heap[b]?=w.heap[b]?):Ja w' b vs:=by
 obtain⟨t,h⟩:=h;exact⟨t,by rw[hb];exact h⟩
theorem Ja.three {w:World}{b:Nat}{x y z:Value}(h:Ja w b #[x,y,z]):Jk w b x y z:=h
theorem fill5 {a w:World}{b:Nat}{x0 x1 x2 x3 x4:Value}(u0 u1 u2 u3 u4:Value)(h:Ja w b #[x0,x1,x2,x3,x4])(g:Gr a w)(hb:a.heap.size≤b):
  Gr a (((((w.setCell ⟨b,0,none⟩ u0).setCell ⟨b,1,none⟩ u1).setCell ⟨b,2,none⟩ u2).setCell ⟨b,3,none⟩ u3).setCell ⟨b,4,none⟩ u4)∧
  Ja (((((w.setCell ⟨b,0,none⟩ u0).setCell ⟨b,1,none⟩ u1).setCell ⟨b,2,none⟩ u2).setCell ⟨b,3,none⟩ u3).setCell ⟨b,4,none⟩ u4) b #[u0,u1,u2,u3,u4]∧
  Upd b w (((((w.setCell ⟨b,0,none⟩ u0).setCell ⟨b,1,none⟩ u1).setCell ⟨b,2,none⟩ u2).setCell ⟨b,3,none⟩ u3).setCell ⟨b,4,none⟩ u4):=by
 have hb':¬ b < a.heap.size:=by omega
 refine⟨Gr.set (Gr.set (Gr.set (Gr.set (Gr.set g hb' _) hb' _) hb' _) hb' _) hb' _,?_,fun i hi=>?_⟩
 ·have:=((((h.set 0 u0).set 1 u1).set 2 u2).set 3 u3).set 4 u4
  simpa using this
 ·rw[Below.heap_setCell _ _ _ _ hi,Below.heap_setCell _ _ _ _ hi,Below.heap_setCell _ _ _ _ hi,Below.heap_setCell _ _ _ _ hi,Below.heap_setCell _ _ _ _ hi]
def Jz (w:World)(base:Nat)(v:Value)(l:List Jg):Prop:=OwnL w base 75 2 encTerm v l∧∀ g,v.ownBlock=some g→NoU w g
theorem Jz.grow {w w':World}{base:Nat}{v:Value}{l:List Jg}(h:Jz w base v l)(g:Gr w w'):Jz w' base v l:=by
 refine⟨h.1.grow g,fun b hb=>?_⟩
 obtain⟨a,t,h1,h2⟩:=h.2 b hb
 have hlt:=(h.1.lt b hb).2
 exact⟨a,t,by rw[Below.block g b hlt];exact h1,h2⟩
theorem Jz.same {w w':World}{base b:Nat}{v:Value}{l:List Jg}(h:Jz w base v l)(hu:Upd b w w')(hs:w'.heap.size=w.heap.size)(hne:v.ownBlock≠some b)(ho:w'.os=w.os)(ht:w'.tape=w.tape)(hp:w'.output=w.output):Jz w' base v l:=by
 refine⟨World.ownsRow.kept (row:=some b) h.1 ⟨ho,ht,hp,by omega,fun k hk hn=>hu k (fun e=>hn (congrArg some e))⟩ (.inr hne),fun g hg=>?_⟩
 obtain⟨a,t,h1,h2⟩:=h.2 g hg
 exact⟨a,t,by rw[hu g (fun e=>hne (by rw[hg,e]))];exact h1,h2⟩
theorem Jz.nil (w:World)(base:Nat):Jz w base (.slice none 0 0) []:=⟨OwnL.nil w base _,fun g h=>by cases h⟩
theorem J0L:(Tryz.prog.info? 75).map (fun i=>(i.zero,i.size,i.bytes))=some (some (.agg #[.int .i64 0,.int .i64 0]),2,16):=by kernel_rfl
theorem Xg:∀ x,∀ u ∈ encTerm x,u.oneCell'=true:=fun x u hu=>by
 simp[encTerm] at hu
 rcases hu with rfl|rfl<;>rfl
theorem Xh:∀ (l:List Jg),∀ u ∈ l.flatMap encTerm,∀ z,u≠Value.int .u32 z:=fun l u hu z=>by
 obtain⟨t,_,ht⟩:=List.mem_flatMap.1 hu
 simp[encTerm] at ht
 rcases ht with rfl|rfl<;>(intro h;cases h)
theorem J1c (n:Nat):∀ u ∈ Builtin.zeroCells (Value.agg #[.int .i64 0,.int .i64 0]).cells n,∀ z,u≠Value.int .u32 z:=fun u hu z=>by
 obtain⟨i,_,rfl⟩:=Array.mem_map.1 hu
 have h3:i % 2=0∨i % 2=1:=by omega
 simp only[Value.cells]
 rcases h3 with h|h<;>simp[h,Value.cells]
theorem J1x (w:World)(base:Nat)(v vx:Value)(l:List Jg)(t:Jg)(ty:TypeId)(hown:Jz w base v l)(hm:Lp w vx [t])(hlen:l.length≤1000000)(hbase:base≤w.heap.size):
  ∃ v' w',(Builtin.append_ #[40,40] ty #[v,vx]).run Tryz.prog w = .ok v' w'∧Jz w' base v' (l ++ [t])∧w.grownBy w' v.ownBlock∧Dk w w'∧(v'.ownBlock=v.ownBlock∨v'.ownBlock=some w.heap.size):=by
 obtain⟨v',w',hr,h1,h2,h3⟩:=Pe (ty:=ty) 40 75 _ 16 Tryz.underlying40 J0L rfl (by decide) My Xg base v vx l [t] hown.1 hm (by simp;omega) (by simp;omega) hbase (by simp)
 refine⟨v',w',hr,⟨h1,fun g hg=>?_⟩,h2,Dk.grown h2 hown.2,h3⟩
 obtain⟨i0,hi,hz0,hz1,hz2⟩:=info_parts J0L
 obtain⟨hd,p,c,rfl,k1,k2,k3⟩:=hm
 rcases k3 with rfl|⟨b,off,rfl,hc⟩
 ·simp at k1
 have hnews:∀ j u,(([t]:List Jg).flatMap encTerm)[j]?=some u→w.cell? ((⟨b,off,none⟩:Addr).add j)=some u:=fun j u hu=>by rw[Na];exact hc j u hu
 have hml:(([t]:List Jg).flatMap encTerm).length=1 * i0.size:=by rw[hz1];exact Kv My [t]
 have hu1:=Xh [t]
 rcases hown.1.2 with⟨rfl,h0⟩|⟨g0,cap,cur,rfl,hbg,hg0,hnc,hcm,hcs,htake⟩
 ·have hr2:=run_append_nil (P:=Tryz.prog) w 40 ty 75 i0 _ Tryz.underlying40 hi hz0 ⟨b,off,none⟩ 1 c _ hml hnews (by omega) (by omega) (by rw[hz2];omega)
  have e1:=hr.symm.trans hr2
  injection e1 with e2 e3
  subst e2 e3
  obtain rfl:w.heap.size=g:=by simpa[Value.ownBlock] using hg
  refine⟨_,_,heap_alloc_new w.drew _,fun i z e=>?_⟩
  rcases Array.mem_append.1 (Array.mem_of_getElem? e) with h|h
  ·exact hu1 _ (by simpa using h) z rfl
  ·exact J1c _ _ h z rfl
 ·by_cases hroom:l.length+1≤cap
  ·have hfit:l.length * i0.size+(([t]:List Jg).flatMap encTerm).length≤cur.size:=by
    have:=Nat.mul_le_mul_right 2 hroom
    rw[hml,hcs,hz1];omega
   have hr2:=run_append_room (P:=Tryz.prog) w 40 ty 75 i0 Tryz.underlying40 hi g0 l.length cap cur hg0 ⟨b,off,none⟩ 1 c _ hml hnews (fun u hu=>Xg t u (by simpa using hu)) hroom hfit
   have e1:=hr.symm.trans hr2
   injection e1 with e2 e3
   subst e2 e3
   obtain rfl:g0=g:=by simpa[Value.ownBlock] using hg
   obtain⟨a,ta,ha1,ha2⟩:=hown.2 g0 rfl
   rw[hg0] at ha1
   injection ha1 with ha1
   injection ha1 with q1 q2 q3
   subst q1
   refine⟨(cur.toList.take (l.length * i0.size) ++ ([t]:List Jg).flatMap encTerm ++ cur.toList.drop (l.length * i0.size+(([t]:List Jg).flatMap encTerm).length)).toArray,75,by simp[World.setRow,Array.getElem?_modify,hg0],fun i z e=>?_⟩
   have hmem:=Array.mem_of_getElem? e
   rw[List.mem_toArray] at hmem
   rcases List.mem_append.1 hmem with h|h
   ·rcases List.mem_append.1 h with h|h
    ·obtain⟨j,hj,hje⟩:=List.getElem_of_mem (List.mem_of_mem_take h)
     exact ha2 j z (by rw[← hje];simp at hj;simp[hj])
    ·exact hu1 _ h z rfl
   ·obtain⟨j,hj,hje⟩:=List.getElem_of_mem (List.mem_of_mem_drop h)
    exact ha2 j z (by rw[← hje];simp at hj;simp[hj])
  ·have holds:∀ j u,(l.flatMap encTerm)[j]?=some u→w.cell? ((⟨g0,0,none⟩:Addr).add j)=some u:=World.ownsRow.cells (show w.ownsRow base 75 2 _ l.length (l.flatMap encTerm) from hown.1) (g:=g0) rfl
   have hr2:=run_append_grow (P:=Tryz.prog) w 40 ty 75 i0 _ Tryz.underlying40 hi hz0 ⟨g0,0,none⟩ l.length cap _ (by rw[hz1];exact Kv My l) holds ⟨b,off,none⟩ 1 c _ hml hnews (by omega) (by omega) (growslice_fits (by omega) (by rw[hz2];omega))
   have e1:=hr.symm.trans hr2
   injection e1 with e2 e3
   subst e2 e3
   obtain rfl:w.heap.size=g:=by simpa[Value.ownBlock] using hg
   refine⟨_,_,heap_alloc_new w.drew _,fun i z e=>?_⟩
   rcases Array.mem_append.1 (Array.mem_of_getElem? e) with h|h
   ·rcases Array.mem_append.1 h with h|h
    ·exact Xh l _ (by simpa using h) z rfl
    ·exact hu1 _ (by simpa using h) z rfl
   ·exact J1c _ _ h z rfl
end Prf
end Go.Proofs.YtcjgimlcefhhmaaGreatDoor

/- Texts: Slc. -/
import Derived.OwnWalk
import Derived.Test.YtcjgimlcefhhmaaGreatDoorU1
set_option linter.unusedVariables false
set_option linter.unusedSimpArgs false
set_option maxRecDepth 100000
set_option maxHeartbeats 12800000
namespace Go.Proofs.YtcjgimlcefhhmaaGreatDoor
open Go.RowKit
def Hold (p:Prop):Prop:=p
theorem Hold.hold {p:Prop}(h:Hold p):p:=h
theorem Hold.go {p:Prop}(h:p):Hold p:=h
def SlV (w:World)(sz:Nat)(v:Value)(n:Nat)(xs:List Value):Prop:=
 xs.length=n * sz∧∃ p c,v = .slice p n c∧n≤c∧c≤9223372036854775807∧(c=0∨∃ b o,p=some ⟨b,o,none⟩∧∀ j u,xs[j]?=some u→w.cell? ⟨b,o+j,none⟩=some u)
theorem SlV.grow {w w':World}{sz n:Nat}{v:Value}{xs:List Value}(h:SlV w sz v n xs)(g:Gr w w'):SlV w' sz v n xs:=by
 obtain⟨h0,p,c,rfl,h1,h2,h3⟩:=h
 refine⟨h0,p,c,rfl,h1,h2,?_⟩
 rcases h3 with h3|⟨b,o,hp,hc⟩
 ·exact .inl h3
 ·exact .inr ⟨b,o,hp,fun j u hu=>g.cell (hc j u hu)⟩
theorem SlV.parts {w:World}{sz n:Nat}{v:Value}{xs:List Value}(h:SlV w sz v n xs):∃ p c,v = .slice p n c∧n≤c∧c≤9223372036854775807:=by
 obtain⟨-,p,c,hv,h1,h2,-⟩:=h
 exact⟨p,c,hv,h1,h2⟩
theorem SlV.cells {w:World}{sz n c:Nat}{p:Option Addr}{xs:List Value}(h:SlV w sz (.slice p n c) n xs)(hn:0 < n):∃ b o,p=some ⟨b,o,none⟩∧∀ j u,xs[j]?=some u→w.cell? ⟨b,o+j,none⟩=some u:=by
 obtain⟨h0,p',c',hv,h1,h2,h3⟩:=h
 cases hv
 rcases h3 with h3|h3
 ·omega
 ·exact h3
theorem SlV.nil (w:World)(sz:Nat):SlV w sz (.slice none 0 0) 0 []:=⟨by simp,none,0,rfl,Nat.le_refl _,by decide,.inl rfl⟩
theorem Na (b o i:Nat):(⟨b,o,none⟩:Addr).add i=⟨b,o+i,none⟩:=by
 cases i<;>simp[Addr.add]
theorem SlV.of_own {w:World}{base:Nat}{e:TypeId}{sz n:Nat}{v:Value}{xs:List Value}(h:w.ownsRow base e sz v n xs):SlV w sz v n xs:=by
 have h':=h
 obtain⟨h1,h2⟩:=h
 refine⟨h1,?_⟩
 rcases h2 with⟨rfl,rfl⟩|⟨g,cap,cur,rfl,hb,hh,hn,hm,hs,ht⟩
 ·exact⟨none,0,rfl,Nat.le_refl _,by decide,.inl rfl⟩
 ·refine⟨_,cap,rfl,hn,by simpa[maxLen] using hm,.inr ⟨g,0,rfl,fun j u hu=>?_⟩⟩
  have:=World.ownsRow.cells h' (g:=g) rfl j u hu
  rwa [Na] at this
theorem SlV.new (w:World)(sz n:Nat)(vs:Array Value)(t:TypeId)(h:vs.size=n * sz)(hn:n≤1000000000):SlV (w.alloc (.cells vs t)) sz (.slice (some ⟨w.heap.size,0,none⟩) n n) n vs.toList:=
 ⟨by simpa using h,_,n,rfl,Nat.le_refl _,by omega,.inr ⟨w.heap.size,0,rfl,fun j u hu=>by
  unfold World.cell?
  rw[show(⟨w.heap.size,0+j,none⟩:Addr).block=w.heap.size from rfl,heap_alloc_new]
  simpa using hu⟩⟩
theorem J4I {a w w':World}{e:TypeId}{sz n:Nat}{v:Value}{xs:List Value}(g:Gr a w)(h:w.ownsRow a.heap.size e sz v n xs)(hg:w.grownBy w' v.ownBlock):Gr a w':=
 Below.grown g hg g.size (fun k hk=>(h.lt k hk).1)
theorem J4J {w w':World}{base:Nat}{e:TypeId}{sz n:Nat}{v:Value}{xs:List Value}(h:w.ownsRow base e sz v n xs)(g:Gr w w'):w'.ownsRow base e sz v n xs:=by
 refine h.kept (row:=none) ⟨g.os,g.tape,g.output,g.size,fun k hk _=>Below.block g k hk⟩ ?_
 cases v.ownBlock<;>simp
end Go.Proofs.YtcjgimlcefhhmaaGreatDoor

/- Texts: Slc. -/
import Derived.Test.YtcjgimlcefhhmaaGreatDoorC1
set_option linter.unusedVariables false
set_option linter.unusedSimpArgs false
set_option maxRecDepth 100000
set_option maxHeartbeats 12800000
namespace Go.Proofs.YtcjgimlcefhhmaaGreatDoor
open Go.RowKit
def Hold (p:Prop):Prop:=p
theorem Hold.hold {p:Prop}(h:Hold p):p:=h
theorem Hold.go {p:Prop}(h:p):Hold p:=h
def SlV (w:World)(sz:Nat)(v:Value)(n:Nat)(xs:List Value):Prop:=
 xs.length=n * sz∧∃ p c,v = .slice p n c∧n≤c∧c≤9223372036854775807∧(c=0∨∃ b o,p=some ⟨b,o,none⟩∧∀ j u,xs[j]?=some u→w.cell? ⟨b,o+j,none⟩=some u)
theorem SlV.grow {w w':World}{sz n:Nat}{v:Value}{xs:List Value}(h:SlV w sz v n xs)(g:Gr w w'):SlV w' sz v n xs:=by
 obtain⟨d,p,c,rfl,f,i,a⟩:=h;refine⟨d,p,c,rfl,f,i,?_⟩;rcases a with a|⟨b,o,l,k⟩
 ·exact .inl a
 ·exact .inr ⟨b,o,l,fun j u m=>g.cell (k j u m)⟩
theorem SlV.parts {w:World}{sz n:Nat}{v:Value}{xs:List Value}(h:SlV w sz v n xs):∃ p c,v = .slice p n c∧n≤c∧c≤9223372036854775807:=by
 obtain⟨-,p,c,d,a,b,-⟩:=h;exact⟨p,c,d,a,b⟩
theorem SlV.cells {w:World}{sz n c:Nat}{p:Option Addr}{xs:List Value}(h:SlV w sz (.slice p n c) n xs)(k:0 < n):∃ b o,p=some ⟨b,o,none⟩∧∀ j u,xs[j]?=some u→w.cell? ⟨b,o+j,none⟩=some u:=by
 obtain⟨f,p',c',d,g,i,a⟩:=h
 cases d
 rcases a with a|a
 ·omega
 ·exact a
theorem SlV.nil (w:World)(sz:Nat):SlV w sz (.slice none 0 0) 0 []:=⟨by simp,none,0,rfl,Nat.le_refl _,by decide,.inl rfl⟩
theorem Nv (b o i:Nat):(⟨b,o,none⟩:Addr).add i=⟨b,o+i,none⟩:=by
 cases i<;>simp[Addr.add]
theorem SlV.of_own {w:World}{base:Nat}{e:TypeId}{sz n:Nat}{v:Value}{xs:List Value}(h:w.ownsRow base e sz v n xs):SlV w sz v n xs:=by
 have b:=h;obtain⟨c,d⟩:=h;refine⟨c,?_⟩;rcases d with⟨rfl,rfl⟩|⟨g,a,l,rfl,m,o,i,f,p,q⟩
 ·exact⟨none,0,rfl,Nat.le_refl _,by decide,.inl rfl⟩
 ·refine⟨_,a,rfl,i,by simpa[maxLen] using f,.inr ⟨g,0,rfl,fun j u k=>?_⟩⟩;have:=World.ownsRow.cells b (g:=g) rfl j u k
  rwa [Nv] at this
theorem SlV.new (w:World)(sz n:Nat)(a:Array Value)(t:TypeId)(h:a.size=n * sz)(c:n≤1000000000):SlV (w.alloc (.cells a t)) sz (.slice (some ⟨w.heap.size,0,none⟩) n n) n a.toList:=
 ⟨by simpa using h,_,n,rfl,Nat.le_refl _,by omega,.inr ⟨w.heap.size,0,rfl,fun j u b=>by
  unfold World.cell?;rw[show(⟨w.heap.size,0+j,none⟩:Addr).block=w.heap.size from rfl,heap_alloc_new];simpa using b⟩⟩
theorem J4W {a w w':World}{e:TypeId}{sz n:Nat}{v:Value}{xs:List Value}(g:Gr a w)(h:w.ownsRow a.heap.size e sz v n xs)(b:w.grownBy w' v.ownBlock):Gr a w':=
 Below.grown g b g.size (fun k c=>(h.lt k c).1)
theorem J4X {w w':World}{base:Nat}{e:TypeId}{sz n:Nat}{v:Value}{xs:List Value}(h:w.ownsRow base e sz v n xs)(g:Gr w w'):w'.ownsRow base e sz v n xs:=by
 refine h.kept (row:=none) ⟨g.os,g.tape,g.output,g.size,fun k a _=>Below.block g k a⟩ ?_
 cases v.ownBlock<;>simp
end Go.Proofs.YtcjgimlcefhhmaaGreatDoor

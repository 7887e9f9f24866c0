/- Texts: PyE. -/
import Derived.OwnWalkIn
import Derived.Test.YtcjgimlcefhhmaaGreatDoorU29
import Derived.Test.YtcjgimlcefhhmaaGreatDoorU42
import Derived.Test.YtcjgimlcefhhmaaGreatDoorU48
import Derived.Test.YtcjgimlcefhhmaaGreatDoorU49
set_option linter.unusedVariables false
set_option linter.unusedSimpArgs false
set_option maxRecDepth 100000
set_option maxHeartbeats 12800000
namespace Go.Proofs.YtcjgimlcefhhmaaGreatDoor
namespace Prf
open Go.RowKit Go.Lib
theorem J2z:∀ (l:List Jm),∀ u ∈ l.flatMap encNode,∀ z,u≠Value.int .u32 z:=fun l u hu z=>by
 obtain⟨t,_,ht⟩:=List.mem_flatMap.1 hu
 simp[encNode] at ht
 rcases ht with rfl|rfl|rfl|rfl|rfl|rfl|rfl|rfl<;>(intro h;cases h)
theorem J6V (n:Nat):∀ u ∈ Builtin.zeroCells (Value.agg nodeZ).cells n,∀ z,u≠Value.int .u32 z:=fun u hu z=>by
 obtain⟨i,_,rfl⟩:=Array.mem_map.1 hu
 have h3:i % 8=0∨i % 8=1∨i % 8=2∨i % 8=3∨i % 8=4∨i % 8=5∨i % 8=6∨i % 8=7:=by omega
 simp only[Value.cells]
 rcases h3 with h|h|h|h|h|h|h|h<;>simp[h,Value.cells]
abbrev Oh (w:World)(base:Nat)(v:Value)(l:List Jm):Prop:=OwnU w base 47 8 encNode v l
theorem J4b:(Tryz.prog.info? 47).map (fun i=>(i.zero,i.size,i.bytes))=some (some (.agg nodeZ),8,112):=by kernel_rfl
theorem J2y:∀ x,∀ u ∈ encNode x,u.oneCell'=true:=fun x u hu=>by
 simp[encNode] at hu
 rcases hu with rfl|rfl|rfl|rfl|rfl|rfl|rfl|rfl<;>rfl
theorem Oh.nil (w:World)(base:Nat):Oh w base (.slice none 0 0) []:=⟨OwnL.nil w base _,fun g h=>by cases h⟩
theorem J1v (w:World)(base:Nat)(v vx:Value)(l:List Jm)(t:Jm)(ty:TypeId)(hown:Oh w base v l)(hm:SlL w 8 encNode vx [t])(hlen:l.length≤1000)(hbase:base≤w.heap.size):
  ∃ v' w',(Builtin.append_ #[26,26] ty #[v,vx]).run Tryz.prog w = .ok v' w'∧Oh w' base v' (l ++ [t])∧w.grownBy w' v.ownBlock∧Dk w w'∧(v'.ownBlock=v.ownBlock∨v'.ownBlock=some w.heap.size):=
 Ru 26 47 ty _ 112 Tryz.underlying26 J4b rfl (by decide) (by decide) Nd J2y (fun x u hu=>J2z [x] u (by simpa using hu)) J6V w base v vx l t hown hm (by omega) hbase
def NoD (w:World)(b:Nat):Prop:=∀ (o:Nat) (z:Int),w.cell? ⟨b,o,none⟩≠some (.int .u32 z)
theorem NoU.d {w:World}{b:Nat}(h:NoU w b):NoD w b:=fun o z=>h.cell
theorem NoD.obj {w:World}{b:Nat}{o:Obj}(h:w.heap[b]?=some o)(ho:o.isCells=false):NoD w b:=fun i z e=>by
 obtain⟨o',h1,h2⟩:=cells_of_cell e
 rw[h] at h1
 cases h1
 rw[ho] at h2;cases h2
theorem Dk.grownD {w w':World}{row:Option Nat}(hg:w.grownBy w' row)(hr:∀ g,row=some g→NoD w g):Dk w w':=fun x o z h=>by
 have hlt:=World.block_lt_of_cell? (w:=w) _ h
 have hne:some x≠row:=fun e=>hr x e.symm o z h
 rw[World.cell?_of_block (w:=w) (hg.block x hlt hne)]
 exact h
theorem ExX.kept {W W':World}{row:Option Nat}{k:Nat}{x:Jm}(h:ExX W k x)(hg:W.grownBy W' row)(hd:Dk W W')(hne:∀ a,x.mp=some a→some a.block≠row):ExX W' k x:=by
 rcases h with h|h|⟨s,z,p,c,u,h1,h2,rfl,h4,h5⟩
 ·exact .inl h
 ·exact .inr (.inl h)
 ·exact .inr (.inr ⟨s,z,p,c,u,h1,h2,rfl,SlL.grownA h4 hg hne,Ot h5 hd⟩)
structure ExO (W:World)(n0:Nat)(v:Value)(T:List Jm):Prop where
 own:Oh W n0 v T
 each:∀ k x,T[k]?=some x→ExX W k x∧∀ a,x.mp=some a→n0≤a.block∧a.block < W.heap.size∧v.ownBlock≠some a.block
theorem ExO.kept {W W':World}{row:Option Nat}{n0:Nat}{v:Value}{T:List Jm}(h:ExO W n0 v T)(hg:W.grownBy W' row)(hd:∀ r,row=some r→NoD W r)(hr:∀ r,row=some r→r < n0∨∃ o:Obj,W.heap[r]?=some o∧o.isCells=false):ExO W' n0 v T:=by
 have hown:∀ g,v.ownBlock=some g→n0≤g∧g < W.heap.size∧some g≠row:=fun g e=>by
  have h1:=h.own.1.lt g e
  refine⟨h1.1,h1.2,fun e2=>?_⟩
  rcases hr g e2.symm with h2|⟨o,h2,h3⟩
  ·omega
  ·obtain⟨a,t,h4,_⟩:=h.own.2 g e
   rw[h2] at h4
   cases h4
   cases h3
 refine⟨⟨World.ownsRow.kept h.own.1 hg ?_,fun g e=>?_⟩,fun k x hx=>?_⟩
 ·cases e:v.ownBlock with
  | none=>exact .inl rfl
  | some g=>exact .inr (hown g e).2.2
 ·obtain⟨a,t,h1,h2⟩:=h.own.2 g e
  have:=hown g e
  exact⟨a,t,(hg.block g this.2.1 this.2.2).trans h1,h2⟩
 ·obtain⟨h1,h2⟩:=h.each k x hx
  refine⟨h1.kept hg (Dk.grownD hg hd) (fun a ha e=>?_),fun a ha=>⟨(h2 a ha).1,Nat.lt_of_lt_of_le (h2 a ha).2.1 hg.size,(h2 a ha).2.2⟩⟩
  rcases hr _ e.symm with h3|⟨o,h3,h4⟩
  ·have:=(h2 a ha).1;omega
  ·rcases h1 with⟨_,rfl⟩|⟨_,rfl⟩|⟨s,z,p,c,u,_,_,rfl,h5,_⟩
   ·cases ha
   ·cases ha
   ·obtain⟨b,o',y,hp,hy,hc⟩:=SlL.at Ku h5 rfl (k:=0) (by decide)
    have hp':p=some a:=ha
    rw[hp] at hp'
    cases hp'
    obtain⟨o2,k1,k2⟩:=cells_of_cell (hc 0 _ rfl W (Gr.refl W))
    rw[h3] at k1
    cases k1
    rw[h4] at k2;cases k2
theorem Xy {W W':World}(g:Gr W W'):W.grownBy W' none:=⟨g.os,g.tape,g.output,g.size,fun k hk _=>Below.block g k hk⟩
theorem ExO.grow {W W':World}{n0:Nat}{v:Value}{T:List Jm}(h:ExO W n0 v T)(g:Gr W W'):ExO W' n0 v T:=
 h.kept (Xy g) (fun r e=>by cases e) (fun r e=>by cases e)
theorem ExX.lt {W:World}{k:Nat}{x:Jm}{a:Addr}(h:ExX W k x)(ha:x.mp=some a):a.block < W.heap.size:=by
 rcases h with⟨_,rfl⟩|⟨_,rfl⟩|⟨s,z,p,c,u,_,_,rfl,h5,_⟩
 ·cases ha
 ·cases ha
 ·obtain⟨b,o',y,hp,hy,hc⟩:=SlL.at Ku h5 rfl (k:=0) (by decide)
  have hp':p=some a:=ha
  rw[hp] at hp'
  cases hp'
  exact World.block_lt_of_cell? (w:=W) _ (hc 0 _ rfl W (Gr.refl W))
theorem ExO.push {W:World}{n0:Nat}{v vx:Value}{T:List Jm}{x:Jm}(ty:TypeId)(h:ExO W n0 v T)(hx:ExX W T.length x)(hxa:∀ a,x.mp=some a→n0≤a.block∧v.ownBlock≠some a.block)(hm:SlL W 8 encNode vx [x])(hlen:T.length≤1000)(hb:n0≤W.heap.size):
  ∃ v' w',(Builtin.append_ #[26,26] ty #[v,vx]).run Tryz.prog W = .ok v' w'∧ExO w' n0 v' (T ++ [x])∧W.grownBy w' v.ownBlock:=by
 obtain⟨v',w',hr,h1,h2,h3,h4⟩:=J1v W n0 v vx T x ty h.own hm hlen hb
 have far:∀ a:Addr,a.block < W.heap.size→v.ownBlock≠some a.block→v'.ownBlock≠some a.block:=fun a h5 h6 h7=>by
  rcases h4 with h8|h8
  ·exact h6 (h8.symm.trans h7)
  ·rw[h8] at h7
   have:=Option.some.inj h7
   omega
 refine⟨v',w',hr,⟨h1,fun k y hy=>?_⟩,h2⟩
 by_cases hi:k < T.length
 ·rw[List.getElem?_append_left hi] at hy
  obtain⟨k1,k2⟩:=h.each k y hy
  exact⟨k1.kept h2 h3 (fun a ha e=>(k2 a ha).2.2 e.symm),fun a ha=>⟨(k2 a ha).1,Nat.lt_of_lt_of_le (k2 a ha).2.1 h2.size,far a (k2 a ha).2.1 (k2 a ha).2.2⟩⟩
 ·rw[List.getElem?_append_right (by omega)] at hy
  have h0:k - T.length=0:=by
   rcases Nat.eq_zero_or_pos (k - T.length) with h|h
   ·exact h
   ·rw[List.getElem?_eq_none (by simp;omega)] at hy;cases hy
  rw[h0] at hy
  cases hy
  obtain rfl:k=T.length:=by omega
  exact⟨hx.kept h2 h3 (fun a ha e=>(hxa a ha).2 e.symm),fun a ha=>⟨(hxa a ha).1,Nat.lt_of_lt_of_le (hx.lt ha) h2.size,far a (hx.lt ha) (hxa a ha).2⟩⟩
theorem ExO.list {W:World}{n0:Nat}{v:Value}{T:List Jm}{n:Nat}(h:ExO W n0 v T)(hn:T.length=n):ExL W v n:=⟨T,h.own.1.read,hn,fun k x hx=>(h.each k x hx).1⟩
theorem J6J {F:Fence}{n:Nat}{P:Program}{w:World}{ops:Array Oper}{rest:List Oper}{o:Oper}{a:Act}{Q:Exit→Act→World→Prop}(hg:o.guard=none)(s x:Operand)(t:TypeId)
  (hop:o.op=Op.call { callee:=Callee.builtin Builtin.append,args:=#[s,x],argTypes:=#[t,t] }) (v vx v':Value) (w':World) (hs:a.eval s=v) (hx:a.eval x=vx) (hrun:(Builtin.append_ #[t,t] o.type #[v,vx]).run P w = .ok v' w')
  (h:wpListIn F n P ops Q rest (a.put o.dst v') w'):wpListIn F n P ops Q (o :: rest) a w:=by
 refine wpListIn_plain hg fun K hK'=>?_
 unfold Oper.wpIn
 refine⟨?_,?_⟩
 ·simp[Oper.about,hop,resolve,Target.leads,Sem.run_pure]
 ·rw[Oper.semAt_plain F _ _ (by rw[hop];intro c hc';cases hc')]
  simp[execOp,hop,resolve,invoke,builtin,hs,hx,hrun,Result.andThen]
  exact hK' _ _ h
end Prf
end Go.Proofs.YtcjgimlcefhhmaaGreatDoor

/- Texts: PyE. -/
import Derived.OwnWalkIn
import Derived.Test.YtcjgimlcefhhmaaGreatDoorC33
import Derived.Test.YtcjgimlcefhhmaaGreatDoorC39
import Derived.Test.YtcjgimlcefhhmaaGreatDoorC40
set_option linter.unusedVariables false
set_option linter.unusedSimpArgs false
set_option maxRecDepth 100000
set_option maxHeartbeats 12800000
namespace Go.Proofs.YtcjgimlcefhhmaaGreatDoor
namespace Prf
open Go.RowKit Go.Lib
theorem J2Z:∀ (l:List Jr),∀ u ∈ l.flatMap encNode,∀ z,u≠Value.int .u32 z:=fun l u b z=>by
 obtain⟨t,_,a⟩:=List.mem_flatMap.1 b;simp[encNode] at a;rcases a with rfl|rfl|rfl|rfl|rfl|rfl|rfl|rfl<;>(intro h;cases h)
theorem J72 (n:Nat):∀ u ∈ Builtin.zeroCells (Value.agg nodeZ).cells n,∀ z,u≠Value.int .u32 z:=fun u b z=>by
 obtain⟨i,_,rfl⟩:=Array.mem_map.1 b;have a:i % 8=0∨i % 8=1∨i % 8=2∨i % 8=3∨i % 8=4∨i % 8=5∨i % 8=6∨i % 8=7:=by omega
 simp only[Value.cells];rcases a with h|h|h|h|h|h|h|h<;>simp[h,Value.cells]
abbrev O9 (w:World)(base:Nat)(v:Value)(l:List Jr):Prop:=OwnU w base 47 8 encNode v l
theorem J4q:(Tryz.prog.info? 47).map (fun i=>(i.zero,i.size,i.bytes))=some (some (.agg nodeZ),8,112):=by kernel_rfl
theorem J2Y:∀ x,∀ u ∈ encNode x,u.oneCell'=true:=fun x u a=>by
 simp[encNode] at a;rcases a with rfl|rfl|rfl|rfl|rfl|rfl|rfl|rfl<;>rfl
theorem O9.nil (w:World)(base:Nat):O9 w base (.slice none 0 0) []:=⟨OwnL.nil w base _,fun g h=>by cases h⟩
theorem J26 (w:World)(base:Nat)(v vx:Value)(l:List Jr)(t:Jr)(ty:TypeId)(d:O9 w base v l)(c:SlL w 8 encNode vx [t])(g:l.length≤1000)(b:base≤w.heap.size):
  ∃ a w',(Builtin.append_ #[26,26] ty #[v,vx]).run Tryz.prog w = .ok a w'∧O9 w' base a (l ++ [t])∧w.grownBy w' v.ownBlock∧Dk w w'∧(a.ownBlock=v.ownBlock∨a.ownBlock=some w.heap.size):=
 J27 26 47 ty _ 112 Tryz.underlying26 J4q rfl (by decide) (by decide) N0 J2Y (fun x u f=>J2Z [x] u (by simpa using f)) J72 w base v vx l t d c (by omega) b
def NoD (w:World)(b:Nat):Prop:=∀ (o:Nat) (z:Int),w.cell? ⟨b,o,none⟩≠some (.int .u32 z)
theorem NoU.d {w:World}{b:Nat}(h:NoU w b):NoD w b:=fun o z=>h.cell
theorem NoD.obj {w:World}{b:Nat}{o:Obj}(h:w.heap[b]?=some o)(d:o.isCells=false):NoD w b:=fun i z e=>by
 obtain⟨f,a,c⟩:=cells_of_cell e;rw[h] at a
 cases a
 rw[d] at c;cases c
theorem Dk.grownD {w w':World}{row:Option Nat}(a:w.grownBy w' row)(d:∀ g,row=some g→NoD w g):Dk w w':=fun x o z h=>by
 have b:=World.block_lt_of_cell? (w:=w) _ h;have c:some x≠row:=fun e=>d x e.symm o z h;rw[World.cell?_of_block (w:=w) (a.block x b c)];exact h
theorem ExX.kept {W b:World}{row:Option Nat}{k:Nat}{x:Jr}(h:ExX W k x)(l:W.grownBy b row)(j:Dk W b)(m:∀ a,x.mp=some a→some a.block≠row):ExX b k x:=by
 rcases h with h|h|⟨s,z,p,c,u,d,f,rfl,g,i⟩
 ·exact .inl h
 ·exact .inr (.inl h)
 ·exact .inr (.inr ⟨s,z,p,c,u,d,f,rfl,SlL.grownA g l m,Pn i j⟩)
structure ExO (W:World)(n0:Nat)(v:Value)(T:List Jr):Prop where
 own:O9 W n0 v T
 each:∀ k x,T[k]?=some x→ExX W k x∧∀ a,x.mp=some a→n0≤a.block∧a.block < W.heap.size∧v.ownBlock≠some a.block
theorem ExO.kept {W q:World}{row:Option Nat}{n:Nat}{v:Value}{T:List Jr}(h:ExO W n v T)(j:W.grownBy q row)(H:∀ r,row=some r→NoD W r)(B:∀ r,row=some r→r < n∨∃ o:Obj,W.heap[r]?=some o∧o.isCells=false):ExO q n v T:=by
 have w:∀ g,v.ownBlock=some g→n≤g∧g < W.heap.size∧some g≠row:=fun g e=>by
  have i:=h.own.1.lt g e;refine⟨i.1,i.2,fun E=>?_⟩;rcases B g E.symm with d|⟨o,d,l⟩
  ·omega
  ·obtain⟨a,t,m,_⟩:=h.own.2 g e;rw[d] at m
   cases m
   cases l
 refine⟨⟨World.ownsRow.kept h.own.1 j ?_,fun g e=>?_⟩,fun k x J=>?_⟩
 ·cases e:v.ownBlock with
  | none=>exact .inl rfl
  | some g=>exact .inr (w g e).2.2
 ·obtain⟨a,t,i,d⟩:=h.own.2 g e;have:=w g e;exact⟨a,t,(j.block g this.2.1 this.2.2).trans i,d⟩
 ·obtain⟨i,d⟩:=h.each k x J;refine⟨i.kept j (Dk.grownD j H) (fun a f e=>?_),fun a f=>⟨(d a f).1,Nat.lt_of_lt_of_le (d a f).2.1 j.size,(d a f).2.2⟩⟩;rcases B _ e.symm with l|⟨o,l,m⟩
  ·have:=(d a f).1;omega
  ·rcases i with⟨_,rfl⟩|⟨_,rfl⟩|⟨s,z,p,c,u,_,_,rfl,F,_⟩
   ·cases f
   ·cases f
   ·obtain⟨b,L,y,I,K,G⟩:=SlL.at L9 F rfl (k:=0) (by decide);have A:p=some a:=f;rw[I] at A
    cases A
    obtain⟨M,C,D⟩:=cells_of_cell (G 0 _ rfl W (Gr.refl W));rw[l] at C
    cases C
    rw[m] at D;cases D
theorem Ye {W a:World}(g:Gr W a):W.grownBy a none:=⟨g.os,g.tape,g.output,g.size,fun k b _=>Below.block g k b⟩
theorem ExO.grow {W a:World}{b:Nat}{v:Value}{T:List Jr}(h:ExO W b v T)(g:Gr W a):ExO a b v T:=
 h.kept (Ye g) (fun r e=>by cases e) (fun r e=>by cases e)
theorem ExX.lt {W:World}{k:Nat}{x:Jr}{a:Addr}(h:ExX W k x)(d:x.mp=some a):a.block < W.heap.size:=by
 rcases h with⟨_,rfl⟩|⟨_,rfl⟩|⟨s,z,p,c,u,_,_,rfl,g,_⟩
 ·cases d
 ·cases d
 ·obtain⟨b,m,y,j,l,i⟩:=SlL.at L9 g rfl (k:=0) (by decide);have f:p=some a:=d;rw[j] at f
  cases f
  exact World.block_lt_of_cell? (w:=W) _ (i 0 _ rfl W (Gr.refl W))
theorem ExO.push {W:World}{g:Nat}{v vx:Value}{T:List Jr}{x:Jr}(ty:TypeId)(h:ExO W g v T)(m:ExX W T.length x)(n:∀ a,x.mp=some a→g≤a.block∧v.ownBlock≠some a.block)(A:SlL W 8 encNode vx [x])(z:T.length≤1000)(u:g≤W.heap.size):
  ∃ i w',(Builtin.append_ #[26,26] ty #[v,vx]).run Tryz.prog W = .ok i w'∧ExO w' g i (T ++ [x])∧W.grownBy w' v.ownBlock:=by
 obtain⟨i,w',B,r,d,p,s⟩:=J26 W g v vx T x ty h.own A z u;have o:∀ a:Addr,a.block < W.heap.size→v.ownBlock≠some a.block→i.ownBlock≠some a.block:=fun a D t j=>by
  rcases s with l|l
  ·exact t (l.symm.trans j)
  ·rw[l] at j;have:=Option.some.inj j;omega
 refine⟨i,w',B,⟨r,fun k y c=>?_⟩,d⟩;by_cases w:k < T.length
 ·rw[List.getElem?_append_left w] at c;obtain⟨C,f⟩:=h.each k y c;exact⟨C.kept d p (fun a b e=>(f a b).2.2 e.symm),fun a b=>⟨(f a b).1,Nat.lt_of_lt_of_le (f a b).2.1 d.size,o a (f a b).2.1 (f a b).2.2⟩⟩
 ·rw[List.getElem?_append_right (by omega)] at c;have q:k - T.length=0:=by
   rcases Nat.eq_zero_or_pos (k - T.length) with h|h
   ·exact h
   ·rw[List.getElem?_eq_none (by simp;omega)] at c;cases c
  rw[q] at c
  cases c
  obtain rfl:k=T.length:=by omega
  exact⟨m.kept d p (fun a b e=>(n a b).2 e.symm),fun a b=>⟨(n a b).1,Nat.lt_of_lt_of_le (m.lt b) d.size,o a (m.lt b) (n a b).2⟩⟩
theorem ExO.list {W:World}{c:Nat}{v:Value}{T:List Jr}{n:Nat}(h:ExO W c v T)(a:T.length=n):ExL W v n:=⟨T,h.own.1.read,a,fun k x b=>(h.each k x b).1⟩
theorem J6T {F:Fence}{n:Nat}{P:Program}{w:World}{ops:Array Oper}{d:List Oper}{o:Oper}{a:Act}{Q:Exit→Act→World→Prop}(j:o.guard=none)(s x:Operand)(t:TypeId)
  (b:o.op=Op.call { callee:=Callee.builtin Builtin.append,args:=#[s,x],argTypes:=#[t,t] }) (v vx f:Value) (w':World) (l:a.eval s=v) (m:a.eval x=vx) (k:(Builtin.append_ #[t,t] o.type #[v,vx]).run P w = .ok f w')
  (h:wpListIn F n P ops Q d (a.put o.dst f) w'):wpListIn F n P ops Q (o :: d) a w:=by
 refine wpListIn_plain j fun K g=>?_;unfold Oper.wpIn;refine⟨?_,?_⟩
 ·simp[Oper.about,b,resolve,Target.leads,Sem.run_pure]
 ·rw[Oper.semAt_plain F _ _ (by rw[b];intro c i;cases i)];simp[execOp,b,resolve,invoke,builtin,l,m,k,Result.andThen];exact g _ _ h
end Prf
end Go.Proofs.YtcjgimlcefhhmaaGreatDoor

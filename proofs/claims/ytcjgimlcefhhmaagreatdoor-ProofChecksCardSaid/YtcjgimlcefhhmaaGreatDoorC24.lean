/- Texts: PsO Owu. -/
import Derived.Test.YtcjgimlcefhhmaaGreatDoorC23
set_option linter.unusedVariables false
set_option linter.unusedSimpArgs false
set_option maxRecDepth 100000
set_option maxHeartbeats 12800000
namespace Go.Proofs.YtcjgimlcefhhmaaGreatDoor
namespace Prf
open Go.RowKit Go.Lib
def Kg (n:Jk):Prop:=Jh n.kind n.var n.pos n.cut.kind n.cut.row n.mult.length n.cut.mult.length n.cut.vars.length
theorem Z1 {c:CutS}:Ko c↔(c.kind=0∧c.row=0∧c.mult.length=0∧c.vars.length=0):=by
 unfold Ko;simp only[List.length_eq_zero_iff];constructor
 ·rintro⟨a,b,c,d⟩;exact⟨a,c,b,d⟩
 ·rintro⟨a,b,c,d⟩;exact⟨a,c,b,d⟩
theorem Lp {n:Jk}:Kg n↔(n.kind=0∧Ko n.cut∧n.var=0∧n.pos=0)∨(n.kind=1∧Ko n.cut∧n.pos=0∧n.mult=[])∨(n.kind=2∧Ko n.cut∧n.mult=[])∨(n.kind=3∧n.var=0∧n.pos=0∧n.mult=[]):=by
 unfold Kg Jh;simp only[Z1,List.length_eq_zero_iff]
theorem Mp {p:Prg}{n:Jk}{t s:List Jk}(h:Jm p (n :: t) s):Kg n:=by
 rw[Lp]
 cases h with
 | farkas h0 h1 h2 h3=>exact .inl ⟨h0,h1⟩
 | empty h0 h1 h2 h3 h4=>exact .inr (.inl ⟨h0,h1.1,h1.2.2,h1.2.1⟩)
 | split h0 h1 h2 h3 h4 h5=>exact .inr (.inr (.inl ⟨h0,h1.1,h1.2⟩))
 | cut h0 h1 h2 h4=>exact .inr (.inr (.inr ⟨h0,h1.2.1,h1.2.2,h1.1⟩))
theorem Rq {p:Prg}{n:Jk}{t s:List Jk}(d:Kg n)(c:n.kind=0):Jm p (n :: t) s↔(n.mult.length≤p.rows.length∧Lw p n.mult)∧s=t:=by
 constructor
 ·intro h
  cases h with
  | farkas h0 h1 a b=>exact⟨⟨a,b⟩,rfl⟩
  | _=>omega
 ·rintro⟨⟨a,b⟩,rfl⟩;have h:=Lp.1 d;exact .farkas c (by
   rcases h with h|h|h|h
   ·exact h.2
   ·omega
   ·omega
   ·omega) a b
theorem Rr {p:Prg}{n:Jk}{t s:List Jk}(f:Kg n)(d:n.kind=1):Jm p (n :: t) s↔(0≤n.var∧∃ v,p.vars[n.var.toNat]?=some v∧v.up < v.lo)∧s=t:=by
 constructor
 ·intro h
  cases h with
  | empty h0 h1 a b c=>exact⟨⟨a,_,b,c⟩,rfl⟩
  | _=>omega
 ·rintro⟨⟨a,v,b,c⟩,rfl⟩;have h:=Lp.1 f;exact .empty d (by
   rcases h with h|h|h|h
   ·omega
   ·exact⟨h.2.1,h.2.2.2,h.2.2.1⟩
   ·omega
   ·omega) a b c
theorem Uo {p:Prg}{n:Jk}{t s:List Jk}(g:Kg n)(f:n.kind=2):Jm p (n :: t) s↔(0≤n.var∧n.var < (p.vars.length:Int))∧(-1099511627776≤n.pos∧n.pos < 1099511627776)∧∃ r,Jm (lowPart p n.var n.pos) t r∧Jm (highPart p n.var n.pos) r s:=by
 constructor
 ·intro h
  cases h with
  | split h0 h1 a b c d=>exact⟨a,b,_,c,d⟩
  | _=>omega
 ·rintro⟨a,b,r,c,d⟩;have h:=Lp.1 g;exact .split f (by
   rcases h with h|h|h|h
   ·omega
   ·omega
   ·exact h.2
   ·omega) a b c d
theorem Up {p:Prg}{n:Jk}{t s:List Jk}(d:Kg n)(c:n.kind=3):Jm p (n :: t) s↔∃ r,Kn p n.cut r∧Jm (addRow p r) t s:=by
 constructor
 ·intro h
  cases h with
  | cut h0 h1 a b=>exact⟨_,a,b⟩
  | _=>omega
 ·rintro⟨r,a,b⟩;have h:=Lp.1 d;exact .cut c (by
   rcases h with h|h|h|h
   ·omega
   ·omega
   ·omega
   ·exact⟨h.2.2.2,h.2.1,h.2.2.1⟩) a b
end Prf
end Go.Proofs.YtcjgimlcefhhmaaGreatDoor
namespace Go.Proofs.YtcjgimlcefhhmaaGreatDoor
namespace Prf
open Go.RowKit Go.Lib
section
variable {α:Type}{enc:α→List Value}{sz:Nat}
def OwnU (w:World)(base:Nat)(e:TypeId)(sz:Nat)(enc:α→List Value)(v:Value)(l:List α):Prop:=OwnL w base e sz enc v l∧∀ g,v.ownBlock=some g→NoU w g
theorem OwnU.nil (w:World)(base:Nat)(e:TypeId):OwnU w base e sz enc (.slice none 0 0) []:=⟨OwnL.nil w base _,fun g h=>by cases h⟩
theorem OwnU.grow {w w':World}{base:Nat}{e:TypeId}{v:Value}{l:List α}(h:OwnU w base e sz enc v l)(g:Gr w w'):OwnU w' base e sz enc v l:=by
 refine⟨h.1.grow g,fun b c=>?_⟩;obtain⟨a,t,d,f⟩:=h.2 b c;have i:=(World.ownsRow.lt h.1 b c).2;exact⟨a,t,by rw[Below.block g b i];exact d,f⟩
theorem OwnU.kept {w w':World}{base:Nat}{e:TypeId}{v:Value}{l:List α}{row:Option Nat}(h:OwnU w base e sz enc v l)(c:w.grownBy w' row)(d:∀ g,v.ownBlock=some g→some g≠row):OwnU w' base e sz enc v l:=by
 refine⟨World.ownsRow.kept h.1 c ?_,fun g b=>?_⟩
 ·cases hv:v.ownBlock with
  | none=>exact .inl rfl
  | some g=>exact .inr (d g hv)
 ·obtain⟨a,t,f,i⟩:=h.2 g b;have j:=(World.ownsRow.lt h.1 g b).2;exact⟨a,t,(c.block g j (d g b)).trans f,i⟩
theorem J27 (t e ty:TypeId)(z:Value)(bytes:Nat)(G:Tryz.prog.underlying t=some (.slice e))(W:(Tryz.prog.info? e).map (fun i=>(i.zero,i.size,i.bytes))=some (some z,sz,bytes))(a9:z.cells.size=sz)(a8:0 < sz)(a4:bytes≤1000)
  (J:∀ x,(enc x).length=sz) (S:∀ x,∀ u ∈ enc x,u.oneCell'=true) (A:∀ x,∀ u ∈ enc x,∀ k,u≠Value.int .u32 k) (hz:∀ n,∀ u ∈ Builtin.zeroCells z.cells n,∀ k,u≠Value.int .u32 k)
  (w:World) (base:Nat) (v vx:Value) (l:List α) (x:α) (r:OwnU w base e sz enc v l) (D:SlL w sz enc vx [x]) (b2:l.length≤1000000) (a3:base≤w.heap.size):
  ∃ f w',(Builtin.append_ #[t,t] ty #[v,vx]).run Tryz.prog w = .ok f w'∧OwnU w' base e sz enc f (l ++ [x])∧w.grownBy w' v.ownBlock∧Dk w w'∧(f.ownBlock=v.ownBlock∨f.ownBlock=some w.heap.size):=by
 have V:(l.length+1) * bytes≤140737488355328:=Nat.le_trans (Nat.mul_le_mul_left _ a4) (by omega);obtain⟨f,w',F,h1,T,h3⟩:=Q1 (ty:=ty) t e z bytes G W a9 a8 J S base v vx l [x] r.1 D (by simpa using V) (by simp;omega) a3 (by simp);refine⟨f,w',F,⟨h1,fun g K=>?_⟩,T,Dk.grown T r.2,h3⟩;have a0:∀ (m:List α),∀ u ∈ m.flatMap enc,∀ k,u≠Value.int .u32 k:=fun m u D=>by
  obtain⟨y,_,hy⟩:=List.mem_flatMap.1 D;exact A y u hy
 obtain⟨i0,M,a1,R,a2⟩:=info_parts W;obtain⟨hd,p,c,rfl,k1,k2,k3⟩:=D;rcases k3 with rfl|⟨b,H,rfl,hc⟩
 ·simp at k1
 have O:∀ j u,(([x]:List α).flatMap enc)[j]?=some u→w.cell? ((⟨b,H,none⟩:Addr).add j)=some u:=fun j u A=>by rw[Nv];exact hc j u A
 have E:(([x]:List α).flatMap enc).length=1 * i0.size:=by rw[R];exact K4 J [x]
 have Q:=a0 [x];rcases r.1.2 with⟨rfl,h0⟩|⟨d,I,B,rfl,b0,L,b3,b1,a5,b4⟩
 ·have s:=run_append_nil (P:=Tryz.prog) w t ty e i0 _ G M a1 ⟨b,H,none⟩ 1 c _ E O (by omega) (by omega) (by rw[a2];omega);have o:=F.symm.trans s;injection o with e2 e3;subst e2 e3;obtain rfl:w.heap.size=g:=by simpa[Value.ownBlock] using K
  refine⟨_,_,heap_alloc_new w.drew _,fun i z e=>?_⟩;rcases Array.mem_append.1 (Array.mem_of_getElem? e) with h|h
  ·exact Q _ (by simpa using h) z rfl
  ·exact hz _ _ h z rfl
 ·by_cases Y:l.length+1≤I
  ·have a6:l.length * i0.size+(([x]:List α).flatMap enc).length≤B.size:=by
    have:=Nat.mul_le_mul_right sz Y;rw[E,a5,R,← Nat.add_mul];exact this
   have s:=run_append_room (P:=Tryz.prog) w t ty e i0 G M d l.length I B L ⟨b,H,none⟩ 1 c _ E O (fun u A=>S x u (by simpa using A)) Y a6;have o:=F.symm.trans s;injection o with e2 e3;subst e2 e3;obtain rfl:d=g:=by simpa[Value.ownBlock] using K
   obtain⟨a,ta,C,U⟩:=r.2 d rfl;rw[L] at C;injection C with C;injection C with q1 q2 q3;subst q1;refine⟨(B.toList.take (l.length * i0.size) ++ ([x]:List α).flatMap enc ++ B.toList.drop (l.length * i0.size+(([x]:List α).flatMap enc).length)).toArray,e,by simp[World.setRow,Array.getElem?_modify,L],fun i z e=>?_⟩;have X:=Array.mem_of_getElem? e;rw[List.mem_toArray] at X;rcases List.mem_append.1 X with h|h
   ·rcases List.mem_append.1 h with h|h
    ·obtain⟨j,q,N⟩:=List.getElem_of_mem (List.mem_of_mem_take h);exact U j z (by rw[← N];simp at q;simp[q])
    ·exact Q _ h z rfl
   ·obtain⟨j,q,N⟩:=List.getElem_of_mem (List.mem_of_mem_drop h);exact U j z (by rw[← N];simp at q;simp[q])
  ·have a7:∀ j u,(l.flatMap enc)[j]?=some u→w.cell? ((⟨d,0,none⟩:Addr).add j)=some u:=World.ownsRow.cells (show w.ownsRow base e sz _ l.length (l.flatMap enc) from r.1) (g:=d) rfl;have s:=run_append_grow (P:=Tryz.prog) w t ty e i0 _ G M a1 ⟨d,0,none⟩ l.length I _ (by rw[R];exact K4 J l) a7 ⟨b,H,none⟩ 1 c _ E O (by omega) (by omega) (growslice_fits (by omega) (by rw[a2];exact V));have o:=F.symm.trans s;injection o with e2 e3;subst e2 e3;obtain rfl:w.heap.size=g:=by simpa[Value.ownBlock] using K
   refine⟨_,_,heap_alloc_new w.drew _,fun i z e=>?_⟩;rcases Array.mem_append.1 (Array.mem_of_getElem? e) with h|h
   ·rcases Array.mem_append.1 h with h|h
    ·exact a0 l _ (by simpa using h) z rfl
    ·exact Q _ (by simpa using h) z rfl
   ·exact hz _ _ h z rfl
end
end Prf
end Go.Proofs.YtcjgimlcefhhmaaGreatDoor

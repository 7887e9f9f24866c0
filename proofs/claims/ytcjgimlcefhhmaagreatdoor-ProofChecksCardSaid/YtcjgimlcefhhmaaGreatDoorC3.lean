/- Texts: Own Leaf LeafB LeafC LeafD LeafE LeafF. -/
import Derived.Test.YtcjgimlcefhhmaaGreatDoorProg
import Derived.Test.YtcjgimlcefhhmaaGreatDoorC1
import Derived.Test.YtcjgimlcefhhmaaGreatDoorC2
set_option linter.unusedVariables false
set_option linter.unusedSimpArgs false
set_option maxRecDepth 100000
set_option maxHeartbeats 12800000
namespace Go.Proofs.YtcjgimlcefhhmaaGreatDoor
open Go.RowKit
def NatL (w:World)(v:Value)(l:List Nat):Prop:=
 Dig l∧∃ p c,v = .slice p l.length c∧l.length≤c∧c≤9223372036854775807∧
  (c=0∨∃ b o,p=some ⟨b,o,none⟩∧∀ i,i < l.length→w.cell? ⟨b,o+i,none⟩=some (.int .u32 (gd l i)))
theorem NatL.dig {w:World}{v:Value}{l:List Nat}(h:NatL w v l):Dig l:=h.1
theorem NatL.grow {w w':World}{v:Value}{l:List Nat}(h:NatL w v l)(g:Gr w w'):NatL w' v l:=by
 obtain⟨f,p,c,r,j,k,d⟩:=h;refine⟨f,p,c,r,j,k,?_⟩;rcases d with d|⟨b,o,q,m⟩
 ·exact .inl d
 ·exact .inr ⟨b,o,q,fun i n=>g.cell (m i n)⟩
theorem Q0 (b o i:Nat):(⟨b,o,none⟩:Addr).add i=⟨b,o+i,none⟩:=by
 cases i<;>simp[Addr.add]
theorem NatL.at {w:World}{p:Option Addr}{n c:Nat}{l:List Nat}(h:NatL w (.slice p n c) l)(i:Nat)(g:i < l.length):
  ∃ b o,p=some ⟨b,o,none⟩∧w.cell? ⟨b,o+i,none⟩=some (.int .u32 (gd l i)):=by
 obtain⟨m,p',c',k,q,r,d⟩:=h
 cases k
 rcases d with d|⟨b,o,j,f⟩
 ·omega
 ·exact⟨b,o,j,f i g⟩
theorem NatL.len {w:World}{p:Option Addr}{n c:Nat}{l:List Nat}(h:NatL w (.slice p n c) l):l.length=n:=by
 obtain⟨d,p',c',b,f,g,i⟩:=h
 cases b;rfl
theorem NatL.parts {w:World}{v:Value}{l:List Nat}(h:NatL w v l):∃ p c,v = .slice p l.length c∧l.length≤c∧c≤9223372036854775807∧Dig l:=by
 obtain⟨b,p,c,g,d,f,-⟩:=h;exact⟨p,c,g,d,f,b⟩
theorem NatL.one (w:World)(e:Int)(x:Nat)(b:e=x)(d:x < BB)(t:TypeId):NatL (w.alloc (.cells #[.int .u32 e] t)) (.slice (some ⟨w.heap.size,0,none⟩) 1 1) [x]:=by
 subst b;refine⟨Dig.cons d Dig.nil,_,1,rfl,by simp,by omega,.inr ⟨w.heap.size,0,rfl,fun i c=>?_⟩⟩;have:i=0:=by simpa using c
 subst this;simp[go_sem,gd]
theorem NatL.nil (w:World):NatL w (.slice none 0 0) []:=⟨Dig.nil,none,0,rfl,by simp,by omega,.inl rfl⟩
theorem NatL.take {w:World}{p:Option Addr}{n c:Nat}{l:List Nat}(h:NatL w (.slice p n c) l)(k k':Nat)(v:k≤l.length)(x:k≤k')(u:k'≤c):
  NatL w (.slice p k k') (l.take k):=by
 obtain⟨j,p',c',r,s,t,d⟩:=h
 cases r
 have g:(l.take k).length=k:=by rw[List.length_take];omega
 refine⟨j.take k,p,k',by rw[g],by omega,by omega,?_⟩;rcases d with d|⟨b,o,q,m⟩
 ·exact .inl (by omega)
 ·refine .inr ⟨b,o,q,fun i f=>?_⟩;rw[g] at f;rw[m i (by omega),show gd (l.take k) i=gd l i from by unfold gd;rw[List.getD_eq_getElem?_getD,List.getD_eq_getElem?_getD,List.getElem?_take_of_lt f]]
def cellsN (l:List Nat):List Value:=l.map fun(d:Nat)=>Value.int .u32 (d:Int)
theorem St (l:List Nat):(cellsN l).length=l.length:=by simp[cellsN]
theorem J2t (l:List Nat):∀ u ∈ cellsN l,u.oneCell'=true:=by
 intro u b;obtain⟨d,_,rfl⟩:=List.mem_map.1 b;rfl
theorem Q2 {l:List Nat}{i:Nat}(h:i < l.length):(cellsN l)[i]?=some (.int .u32 (gd l i)):=by
 unfold cellsN;rw[List.getElem?_map,List.getElem?_eq_getElem h,Nk h];rfl
theorem J2s (l m:List Nat):cellsN (l ++ m)=cellsN l ++ cellsN m:=by simp[cellsN]
def OwnN (w:World)(base:Nat)(v:Value)(l:List Nat):Prop:=w.ownsRow base 153 1 v l.length (cellsN l)∧Dig l
theorem OwnN.nil (w:World)(base:Nat):OwnN w base (.slice none 0 0) []:=⟨World.ownsRow_nil w base _ 1,Dig.nil⟩
theorem OwnN.read {w:World}{base:Nat}{v:Value}{l:List Nat}(h:OwnN w base v l):NatL w v l:=by
 obtain⟨⟨m,c⟩,r⟩:=h;rcases c with⟨rfl,c⟩|⟨g,b,k,rfl,q,s,j,f,u,x⟩
 ·have:l=[]:=List.eq_nil_of_length_eq_zero c;subst this;exact NatL.nil w
 ·refine⟨r,_,b,rfl,j,by simpa[maxLen] using f,.inr ⟨g,0,rfl,fun i t=>?_⟩⟩;have p:(cellsN l)[i]?=some (.int .u32 (gd l i)):=Q2 t;have d:=World.ownsRow.cells (w:=w) (base:=base) (e:=153) (size:=1) (v:=.slice (some ⟨g,0,none⟩) l.length b) (n:=l.length) (xs:=cellsN l)
   ⟨m,.inr ⟨g,b,k,rfl,q,s,j,f,u,x⟩⟩ (g:=g) rfl i _ p
  rw[Q0] at d;simpa using d
theorem OwnN.made0 (w:World)(base:Nat)(b:base≤w.heap.size):OwnN (w.alloc (.cells #[] 153)) base (.slice (some ⟨w.heap.size,0,none⟩) 0 0) []:=
 ⟨World.ownsRow_made w #[] 0 b (by simp[maxLen]) (by simp),Dig.nil⟩
theorem OwnN.grow {w w':World}{base:Nat}{v:Value}{l:List Nat}(h:OwnN w base v l)(g:Gr w w'):OwnN w' base v l:=by
 refine⟨h.1.kept (row:=none) ⟨g.os,g.tape,g.output,g.size,fun k b _=>Below.block g k b⟩ ?_,h.2⟩
 cases v.ownBlock<;>simp
theorem OwnN.lt {w:World}{base:Nat}{v:Value}{l:List Nat}(h:OwnN w base v l):∀ k,v.ownBlock=some k→base≤k∧k < w.heap.size:=h.1.lt
def Own (base:Nat)(w w':World):Prop:=Below base w w'
theorem Own.refl (base:Nat)(w:World):Own base w w:=Below.refl _ _
theorem Own.trans {base:Nat}{a b c:World}(h:Own base a b)(k:Own base b c):Own base a c:=Below.trans h k
theorem Own.drewN (base:Nat)(w:World)(n:Nat):Own base w (w.drewN n):=⟨rfl,rfl,rfl,Nat.le_refl _,fun _ _=>rfl⟩
theorem Own.of_gr {base:Nat}{w w':World}(h:Gr w w')(b:base≤w.heap.size):Own base w w':=Below.mono h b
theorem Own.gr {w w':World}(h:Own w.heap.size w w'):Gr w w':=h
theorem Own.size {base:Nat}{w w':World}(h:Own base w w'):w.heap.size≤w'.heap.size:=Below.size h
theorem Own.grown {base:Nat}{w w':World}{row:Option Nat}(c:w.grownBy w' row)(b:base≤w.heap.size)(d:∀ k,row=some k→base≤k):Own base w w':=
 Below.grown (Below.refl _ _) c b d
theorem Gr.own {w b w':World}(h:Gr w b)(g:Own w.heap.size b w'):Gr w w':=Below.trans h g
theorem NatL.own {base:Nat}{b w':World}{v:Value}{l:List Nat}(h:NatL b v l)(c:base=b.heap.size)(g:Own base b w'):NatL w' v l:=by
 subst c;exact h.grow g
theorem Ys:(Tryz.prog.info? 153).map (fun i=>(i.zero,i.size,i.bytes))=some (some (.int .u32 0),1,4):=by kernel_rfl
section
variable {P:Program}{ops:Array Oper}{rest:List Oper}{o:Oper}{a:Act}{Q:Exit→Act→World→Prop}{w:World}
theorem Mv (z:o.guard=none)(s x:Operand)(t:TypeId)(B:o.op = .call { callee:=.builtin .append,args:=#[s,x],argTypes:=#[t,t] })
  (r:Tryz.prog.underlying t=some (.slice 153)) (base:Nat) (v vx:Value) (l m:List Nat) (C:a.eval s=v) (d:OwnN w base v l) (D:a.eval x=vx) (L:NatL w vx m)
  (a0:l.length+m.length≤35184372088832) (f:base≤w.heap.size)
  (h:∀ n w',OwnN w' base n (l ++ m)→Own base w w'→base≤w'.heap.size→wpList Tryz.prog ops Q rest (a.put o.dst n) w'):wpList Tryz.prog ops Q (o :: rest) a w:=by
 obtain⟨i0,q,U,V,W⟩:=info_parts Ys;obtain⟨I,p,c,rfl,Y,h2,F⟩:=L;have T:∀ k,v.ownBlock=some k→base≤k:=fun k J=>(d.lt k J).1;rcases F with rfl|⟨b,X,rfl,H⟩
 ·have M:m=[]:=List.eq_nil_of_length_eq_zero (by omega);subst M;have E:=h v w (by simpa using d) (Own.refl _ _) f;refine wpList_plain z (fun K G=>?_);have S:(Builtin.append_ #[t,t] o.type #[v,.slice p 0 0]).run Tryz.prog w = .ok v w:=by
   rcases p with _|p<;>rcases d.1.2 with⟨rfl,_⟩|⟨g,cap,cur,rfl,_,hh,N,_⟩;all_goals first
    | (have O:l.length≤cap:=N
       simp[Builtin.append_,run_underlying r,sizeOf,typeInfo,q,Builtin.lenOf,Builtin.firstCells,loadCells,loadCellsFrom,O,storeCells])
    | simp[Builtin.append_,run_underlying r,sizeOf,typeInfo,q,Builtin.lenOf,Builtin.firstCells,loadCells,loadCellsFrom]
  unfold Oper.wp execOp;simp only[B,resolve,invoke,builtin,Sem.run_bind,Sem.run_pure,Result.andThen_ok,List.map_toArray,List.map_cons,List.map_nil,C,D,List.length_nil,S];exact G _ _ E
 ·refine wpList_append_own _ z s x t B base 153 i0 (.int .u32 0) 1 4 r q U V W rfl (by omega) v l.length (cellsN l) C d.1 ⟨b,X,none⟩ m.length c (cellsN m) D
   (by rw[St];omega) (fun j u i=>?_) (J2t m) (by unfold maxLen;omega) (by omega) f (fun n w' R y _=>?_)
  ·have A:j < m.length:=by
    have:=(List.getElem?_eq_some_iff.1 i).1
    rwa [St] at this
   rw[Q2 A] at i;have:=H j A;simp only[Option.some.injEq] at i;subst i;rw[Q0];exact this
  ·refine h n w' ⟨?_,d.2.append I⟩ (Own.grown y f T) (Nat.le_trans f y.size);rw[J2s,List.length_append];exact R
end
def RowN (w:World)(g:Nat)(l:List Nat):Prop:=w.heap[g]?=some (.cells (cellsN l).toArray 153 (0,0))∧Dig l
theorem RowN.dig {w:World}{g:Nat}{l:List Nat}(h:RowN w g l):Dig l:=h.2
theorem RowN.cell {w:World}{g:Nat}{l:List Nat}(h:RowN w g l){i:Nat}(b:i < l.length):w.cell? ⟨g,i,none⟩=some (.int .u32 (gd l i)):=by
 simp[World.cell?,h.1,Q2 b]
theorem RowN.free {w:World}{g:Nat}{l:List Nat}(h:RowN w g l)(i:Nat):w.frozen? ⟨g,i,none⟩=false:=by
 simp[World.frozen?,h.1]
theorem RowN.lt {w:World}{g:Nat}{l:List Nat}(h:RowN w g l):g < w.heap.size:=by
 rcases Nat.lt_or_ge g w.heap.size with b|b
 ·exact b
 ·have:=h.1;rw[Array.getElem?_eq_none b] at this;cases this
theorem RowN.grow {w w':World}{g:Nat}{l:List Nat}(h:RowN w g l)(b:Gr w w'):RowN w' g l:=
 ⟨by rw[Below.block b g h.lt];exact h.1,h.2⟩
theorem RowN.read {w:World}{g:Nat}{l:List Nat}(h:RowN w g l)(c:Nat)(b:l.length≤c)(f:c≤9223372036854775807):NatL w (.slice (some ⟨g,0,none⟩) l.length c) l:=
 ⟨h.2,_,c,rfl,b,f,.inr ⟨g,0,rfl,fun i d=>by rw[Nat.zero_add];exact h.cell d⟩⟩
theorem RowN.set {w:World}{g:Nat}{l:List Nat}(h:RowN w g l)(i x:Nat)(e:Int)(b:e=x)(c:x < BB):RowN (w.setCell ⟨g,i,none⟩ (.int .u32 e)) g (l.set i x):=by
 subst b;refine⟨?_,h.2.set i x c⟩;simp only[World.setCell,Array.getElem?_modify,h.1,if_true,Option.map_some];simp[cellsN,List.map_set]
theorem Own.setCell {base:Nat}(w:World){g:Nat}(b:base≤g)(i:Nat)(v:Value):Own base w (w.setCell ⟨g,i,none⟩ v):=
 Below.setCell (Below.refl _ _) b v
section
variable {ops:Array Oper}{rest:List Oper}{o:Oper}{a:Act}{Q:Exit→Act→World→Prop}{w:World}
theorem Qs (g:o.guard=none)(x y:Operand)(t:TypeId)(k:o.op = .makeSlice t x y)(m:Tryz.prog.underlying t=some (.slice 153))(n:Nat)(e:Int)(p:a.eval x = .int .i64 e)(q:a.eval y = .int .i64 e)(f:e=n)
  (A:n≤35184372088832) (h:∀ w',RowN w' w.heap.size (List.replicate n 0)→Gr w w'→w.heap.size < w'.heap.size→wpList Tryz.prog ops Q rest (a.put o.dst (.slice (some ⟨w.heap.size,0,none⟩) n n)) w'):wpList Tryz.prog ops Q (o :: rest) a w:=by
 subst f;obtain⟨i0,i,r,s,u⟩:=info_parts Ys;refine wpList_plain g (fun K b=>?_);have l:=run_make (P:=Tryz.prog) w t 153 i0 (.int .u32 0) m i r .i64 .i64 n n (by omega) (by omega) (by rw[u];omega) (by omega);unfold Oper.wp execOp;simp only[k,p,q,Sem.run_bind,Sem.run_pure,Result.andThen_ok,l,Oper.upon,Int.toNat_natCast];refine b _ _ (h _ ⟨?_,?_⟩ ((Gr.refl w).alloc _) (by simp))
 ·rw[s,Nat.mul_one];have e:madeCells (Value.int .u32 0).cells n=(cellsN (List.replicate n 0)).toArray:=by
   apply Array.ext';simp[madeCells,cellsN,Value.cells,Nat.mod_one];refine List.ext_getElem (by simp) (fun j v z=>by simp)
  rw[e];exact heap_alloc_new w _
 ·intro d c;rw[(List.mem_replicate.1 c).2];exact Jt
end
def Jp (g:Nat)(w w':World):Prop:=w.grownBy w' (some g)
theorem Jp.refl (g:Nat)(w:World):Jp g w w:=⟨rfl,rfl,rfl,Nat.le_refl _,fun _ _ _=>rfl⟩
theorem Jp.trans {g:Nat}{a b c:World}(h:Jp g a b)(k:Jp g b c):Jp g a c:=
 ⟨k.os.trans h.os,k.tape.trans h.tape,k.output.trans h.output,Nat.le_trans h.size k.size,fun i d f=>(k.block i (Nat.lt_of_lt_of_le d h.size) f).trans (h.block i d f)⟩
theorem Jp.set (g:Nat)(w:World)(i:Nat)(v:Value):Jp g w (w.setCell ⟨g,i,none⟩ v):=
 ⟨rfl,rfl,rfl,by simp[World.setCell],fun k _ b=>Below.heap_setCell _ _ _ _ (fun e=>b (by rw[e]))⟩
theorem Jp.drewN (g:Nat)(w:World)(n:Nat):Jp g w (w.drewN n):=⟨rfl,rfl,rfl,Nat.le_refl _,fun _ _ _=>rfl⟩
theorem Jp.of_gr {g:Nat}{w w':World}(h:Gr w w'):Jp g w w':=⟨h.os,h.tape,h.output,h.size,fun k b _=>Below.block h k b⟩
theorem Jp.own {g base:Nat}{w w':World}(h:Jp g w w')(b:base≤w.heap.size)(c:base≤g):Own base w w':=
 Own.grown h b (fun k d=>by cases d;exact c)
def Nt (g:Nat)(v:Value):Prop:=∀ b o n c,v = .slice (some ⟨b,o,none⟩) n c→b≠g
theorem NatL.keep {g:Nat}{w w':World}{v:Value}{l:List Nat}(h:NatL w v l)(q:Nt g v)(s:Jp g w w'):NatL w' v l:=by
 obtain⟨k,p,c,rfl,m,n,d⟩:=h;refine⟨k,p,c,rfl,m,n,?_⟩;rcases d with d|⟨b,o,rfl,f⟩
 ·exact .inl d
 ·refine .inr ⟨b,o,rfl,fun i j=>?_⟩;have r:=q b o _ _ rfl;rw[World.cell?_of_block (w:=w) (w':=w') (a:=⟨b,o+i,none⟩) (s.block b (World.block_lt_of_cell? w _ (f i j)) (fun e=>r (by cases e;rfl)))];exact f i j
theorem RowN.keep {g b:Nat}{w w':World}{l:List Nat}(h:RowN w g l)(c:g≠b)(d:Jp b w w'):RowN w' g l:=
 ⟨by rw[d.block g h.lt (fun e=>c (by cases e;rfl))];exact h.1,h.2⟩
theorem J0S {k:IntKind}{a b:Int}(h:a=b):Ending.returned (.int k a) = .returned (.int k b):=by rw[h]
theorem Po (w:World)(v:Value)(l:List Nat)(i:Nat)(h:NatL w v l)(s:i≤140737488351232):
  Calls Tryz.prog 158 #[v,.int .i64 i] w fun e w'=>e = .returned (.int .u64 (gd l i))∧w=w':=by
 obtain⟨k,p,c,rfl,n,q,d⟩:=h;have m:=k.gd i;rw[Jd] at m;by_cases j:i < l.length
 ·rcases d with⟨_,d⟩|⟨b,o,rfl,g⟩
  ·omega
  have r:=g i j;clear g;go_enter Tryz.func158,Tryz.ntmps158;go_wp2;go_ret;exact⟨rfl,rfl⟩
 ·have f:gd l i=0:=Qc (Nat.le_of_not_lt j);rw[f];clear d f;go_enter Tryz.func158,Tryz.ntmps158;go_wp2;go_ret;exact⟨rfl,rfl⟩
theorem Mo (w:World)(v:Value)(l:List Nat)(i:Nat)(h:NatL w v l)(s:i≤140737488351232):
  Calls Tryz.prog 225 #[v,.int .i64 i] w fun e w'=>e = .returned (.int .u64 (gd l i))∧w=w':=by
 obtain⟨k,p,c,rfl,n,q,d⟩:=h;have m:=k.gd i;rw[Jd] at m;by_cases j:i < l.length
 ·rcases d with⟨_,d⟩|⟨b,o,rfl,g⟩
  ·omega
  have r:=g i j;clear g;go_enter Tryz.func225,Tryz.ntmps225;go_wp2;go_ret;exact⟨rfl,rfl⟩
 ·have f:gd l i=0:=Qc (Nat.le_of_not_lt j);rw[f];clear d f;go_enter Tryz.func225,Tryz.ntmps225;go_wp2;go_ret;exact⟨rfl,rfl⟩
theorem J5T (w:World)(E F:Value)(f lb:List Nat)(A:NatL w E f)(B:NatL w F lb):
  Calls Tryz.prog 214 #[E,F] w (Ret w fun r _=>r = .bool (decide (f=lb))):=by
 obtain⟨G,H⟩:=Z2 A B;obtain⟨I,p,c,rfl,l,g,-⟩:=A;obtain⟨J,q,d,rfl,O,R,-⟩:=B;by_cases m:f.length=lb.length
 ·have y:=Z m;obtain⟨n,s⟩:∃ n,f.length=n:=⟨_,rfl⟩
  rw[← m,s];rw[s] at l;have j:=Z s;clear m s I J;go_enter Tryz.func214,Tryz.ntmps214;go_wp2;go_loopw [5] (fun i K=>∃ k:Nat,k≤n∧i = .int .i64 k∧f.take k=lb.take k∧Gr w K) (fun i _=>n - (intOf i).toNat)
  case atStart=>exact⟨0,Nat.zero_le _,rfl,by simp,Gr.refl w⟩
  case round=>
   obtain⟨k,N,rfl,D,h⟩:=hrel;have z:=Z D;clear D;by_cases C:k < n
   ·obtain⟨v,x⟩:=Z2 (show k < f.length by rw[j.o];exact C) (show k < lb.length by rw[← y.o,j.o];exact C);obtain⟨b,o,rfl,L⟩:=(G.o.grow h).at k v.o;obtain⟨b',S,rfl,c2⟩:=(H.o.grow h).at k x.o;have u:=Z h;clear h;go_wp2
    go_quiet (fail)
    go_wp2
    ·go_ret;rename_i t;refine⟨_,rfl,u.o.drewN nq,?_⟩;have g:¬ f=lb:=fun e=>by rw[e] at t;simp at t
     simp[g]
    ·rename_i t
     go_roundw
     case rel=>
      refine⟨k+1,by omega,by go_num,?_,u.o.drewN nq⟩;rw[J6o v.o x.o z.o];have M:(gd f k:Int)=gd lb k:=by simpa using t
      omega
     case measure=>simp[intOf];omega
   ·go_wp2;go_ret;refine⟨_,rfl,h,?_⟩;obtain rfl:k=n:=by omega
    have l:=z.o;have g:f=lb:=by
     rw[List.take_of_length_le (by rw[j.o];omega),List.take_of_length_le (by rw[← y.o,j.o];omega)] at l;exact l
    simp[g]
 ·go_enter Tryz.func214,Tryz.ntmps214;go_wp2;go_ret;refine⟨_,rfl,Gr.refl w,?_⟩;have g:¬ f=lb:=fun e=>m (by rw[e]);simp[g]
theorem Vf {l:List Nat}{k:Nat}(b:k < l.length)(h:trimL (l.take (k+1))=trimL l)(c:gd l k=0):trimL (l.take k)=trimL l:=by
 rw[← h,List.take_succ_eq_append_getElem b,← Nk b,c,J1o]
theorem Vd {l:List Nat}{k:Nat}(b:Dig l)(c:k < l.length)(h:trimL (l.take (k+1))=trimL l)(d:gd l k≠0):l.take (k+1)=trimL l:=by
 rw[← h,List.take_succ_eq_append_getElem c,← Nk c,J1n _ _ (b.take k) (b.gd k) d]
theorem Ve {l:List Nat}(h:trimL (l.take 0)=trimL l):l.take 0=trimL l:=by
 rw[← h];simp[trimL,nval,Kr]
theorem Lh (l:List Nat):trimL l=digs (nval l):=rfl
theorem Lq (w:World)(v:Value)(l:List Nat)(h:NatL w v l)(E:l.length≤35184372088832):
  Calls Tryz.prog 157 #[v] w (Ret w fun r w'=>NatL w' r (trimL l)):=by
 have g:=Z h;obtain⟨u,p,c,rfl,B,I,-⟩:=h;have z:=Z u;obtain⟨n,m⟩:∃ n,l.length=n:=⟨_,rfl⟩
 have f:=Z m;rw[m] at B E ⊢;rw[m] at g;clear m u;go_enter Tryz.func157,Tryz.ntmps157;go_wp2;go_loopw [3] (fun i H=>∃ k:Nat,k≤n∧i = .int .i64 k∧trimL (l.take k)=trimL l∧H=w) (fun i _=>(intOf i).toNat)
 case atStart=>exact⟨n,Nat.le_refl _,rfl,by rw[List.take_of_length_le (by rw[f.o];exact Nat.le_refl _)],rfl⟩
 case round=>
  obtain⟨k,K,rfl,y,rfl⟩:=hrel;have q:=Z y;clear y;have x:wr.heap.size≤(wr.alloc (.cells #[] 153)).heap.size:=by simp
  by_cases D:k=0
  ·obtain rfl:=D;have F:=Z (Ve q.o);go_wp2_with (at_builtin;refine Mv rfl _ _ 64 rfl (by kernel_rfl) wr.heap.size _ (.slice p 0 c) [] (l.take 0) rfl (OwnN.made0 wr _ (Nat.le_refl _)) rfl ((g.o.take 0 c (by omega) (by omega) (Nat.le_refl _)).grow ((Gr.refl wr).alloc _)) (by simp) x ?_;intro G w' t s C);go_ret;refine⟨_,rfl,((Gr.refl _).alloc _).own s,?_⟩;rw[← F.o];exact t.read
  ·obtain⟨j,rfl⟩:∃ j,k=j+1:=⟨k - 1,by omega⟩
   obtain⟨b,o,rfl,J⟩:=g.o.at j (by rw[f.o];omega);by_cases d:gd l j=0
   ·have A:((gd l j:Int) == 0)=true:=by rw[d];rfl
    have Hd:=Z d;clear d;go_wp2
    go_roundw
    case rel=>
     exact⟨j,by omega,rfl,Vf (by rw[f.o];omega) q.o Hd.o,trivial⟩
    case measure=>simp[intOf]
   ·have A:((gd l j:Int) == 0)=false:=by simpa using d
    have Hd:=Z d;clear d;go_wp2_with (at_builtin;refine Mv rfl _ _ 64 rfl (by kernel_rfl) wr.heap.size _ (.slice _ (j+1) c) [] (l.take (j+1)) rfl (OwnN.made0 wr _ (Nat.le_refl _)) rfl ((g.o.take (j+1) c (by rw[f.o];omega) (by omega) (Nat.le_refl _)).grow ((Gr.refl wr).alloc _)) (by rw[List.length_take];simp;omega) x ?_;intro G w' t s C);go_ret;refine⟨_,rfl,((Gr.refl _).alloc _).own s,?_⟩;rw[← Vd z.o (by rw[f.o];omega) q.o Hd.o];exact t.read
theorem R0 (w:World)(S T:Value)(m lb:List Nat)(N:NatL w S m)(O:NatL w T lb)(a5:m.length≤35184372088832)(a6:lb.length≤35184372088832):
  Calls Tryz.prog 215 #[S,T] w (Ret w fun r _=>r = .int .i64 (cmpZ (nval m) (nval lb))):=by
 obtain⟨HA,HB,a9,b0,da,db⟩:=Z6 N O a5 a6 (L5 m N.dig) (L5 lb O.dig);clear N O a5 a6;go_enter Tryz.func215,Tryz.ntmps215;go_wp2_with fail;refine(Lq _ S m HA.o a9.o).mono ?_;rintro _ U ⟨ra,rfl,g1,a7⟩;obtain⟨a0,I⟩:=Z2 a7 g1;clear a7 g1;go_wp2_with fail;refine(Lq _ T lb (HB.o.grow I.o) b0.o).mono ?_;rintro _ w2 ⟨rb,rfl,M,a8⟩;obtain⟨z,A,J⟩:=Z3 (a0.o.grow M) a8 (I.o.trans M);clear a8 M a0 I;obtain⟨p,c,rfl,a1,a2,a3⟩:=z.o.parts;obtain⟨q,d,rfl,b1,b2,L⟩:=A.o.parts;obtain⟨f,v⟩:∃ f,trimL m=f:=⟨_,rfl⟩
 obtain⟨g,x⟩:∃ g,trimL lb=g:=⟨_,rfl⟩
 obtain⟨s,t,X,Y⟩:=Z4 (show nval m=nval f by rw[← v];exact(Jf _).symm) (show nval lb=nval g by rw[← x];exact(Jf _).symm) (show f=digs (nval f) by rw[← v];unfold trimL;rw[Jf]) (show g=digs (nval g) by rw[← x];unfold trimL;rw[Jf]);rw[v] at z a1 a3;rw[x] at A b1 L;simp only[v,x];obtain⟨V,W⟩:=Z2 a3 L;clear a3 L v x da db;obtain⟨y,F⟩:∃ n,f.length=n:=⟨_,rfl⟩
 obtain⟨R,G⟩:∃ n,g.length=n:=⟨_,rfl⟩
 rw[F] at z a1;rw[G] at A b1;simp only[F,G];obtain⟨C,D⟩:=Z2 F G;clear F G;rcases Nat.lt_trichotomy y R with u|u|u
 ·have H:((y:Int) != R)=true:=by simp;omega
  have h:=Z (Ua (a:=nval f) (b:=nval g) (by rw[← X.o,← Y.o,C.o,D.o];exact u));go_wp2;go_ret;exact⟨_,rfl,J.o,by rw[s.o,t.o,Pc h.o];rfl⟩
 ·subst u;go_wp2;go_loopw [5] (fun i U=>∃ k:Nat,k≤y∧i = .int .i64 ((k:Int) - 1)∧nval (f.drop k)=nval (g.drop k)∧Gr w U∧Gr w2 U) (fun i _=>((intOf i)+1).toNat)
  case atStart=>exact⟨y,Nat.le_refl _,rfl,by rw[List.drop_eq_nil_of_le (by rw[C.o];exact Nat.le_refl _),List.drop_eq_nil_of_le (by rw[D.o];exact Nat.le_refl _)],J.o,Gr.refl _⟩
  case round=>
   obtain⟨k,hk,rfl,hp,hg,a4⟩:=hrel;obtain⟨E,B,K⟩:=Z3 hp hg a4;clear hp hg a4;by_cases b4:k=0
   ·obtain rfl:=b4;go_wp2;go_ret;refine⟨_,rfl,B.o,?_⟩;have h0:nval f=nval g:=by simpa using E.o
    rw[s.o,t.o,Xb h0];rfl
   ·obtain⟨j,rfl⟩:∃ j,k=j+1:=⟨k - 1,by omega⟩
    obtain⟨b,o,rfl,c1⟩:=(z.o.grow K.o).at j (by rw[C.o];omega);obtain⟨b',o',rfl,c2⟩:=(A.o.grow K.o).at j (by rw[D.o];omega);rcases Nat.lt_trichotomy (gd f j) (gd g j) with l|l|l
    ·have H:((gd f j:Int) != gd g j)=true:=by simp;omega
     have h:=Z (Ro V.o W.o E.o l);go_wp2
     go_quiet (fail)
     go_wp2
     go_quiet (fail)
     go_wp2;go_ret;exact⟨_,rfl,(B.o.drewN _).drewN _,by rw[s.o,t.o,Pc h.o];rfl⟩
    ·have H:((gd f j:Int) != gd g j)=false:=by rw[l];simp
     have h:=Z (J05 E.o l);clear l;go_wp2
     go_quiet (fail)
     go_wp2
     go_roundw
     case rel=>exact⟨j,by omega,by go_num,h.o,B.o.drewN _,K.o.drewN _⟩
     case measure=>simp[intOf]
    ·have H:((gd f j:Int) != gd g j)=true:=by simp;omega
     have h:=Z (Ro W.o V.o E.o.symm l);go_wp2
     go_quiet (fail)
     go_wp2
     go_quiet (fail)
     go_wp2;go_ret;exact⟨_,rfl,(B.o.drewN _).drewN _,by rw[s.o,t.o,Sv h.o];rfl⟩
 ·have H:((y:Int) != R)=true:=by simp;omega
  have h:=Z (Ua (a:=nval g) (b:=nval f) (by rw[← X.o,← Y.o,C.o,D.o];exact u));go_wp2;go_ret;exact⟨_,rfl,J.o,by rw[s.o,t.o,Sv h.o];rfl⟩
theorem Vz {b lb l:List Nat}{k c s:Nat}(d:l.length=k)(h:nval l+BB ^ k * c=nval (b.take k)+nval (lb.take k))(f:s=c+gd b k+gd lb k):
  nval (l ++ [s % BB])+BB ^ (k+1) * (s / BB)=nval (b.take (k+1))+nval (lb.take (k+1)):=by
 rw[Pj,d,Lo,Lo,Nat.pow_succ,Nat.mul_assoc,Nat.add_assoc,← Nat.mul_add,Nat.mod_add_div,f,Nat.mul_add,Nat.mul_add];omega
theorem Rz (w:World)(R S:Value)(f lb:List Nat)(x:NatL w R f)(y:NatL w S lb)(a6:f.length≤17592186044416)(a7:lb.length≤17592186044416):
  Calls Tryz.prog 105 #[R,S] w (Ret w fun r w'=>NatL w' r (digs (nval f+nval lb))):=by
 obtain⟨E,F⟩:=Z2 x y;obtain⟨p,c,rfl,a1,a2,a3⟩:=x.parts;obtain⟨q,d,rfl,b1,b2,I⟩:=y.parts;obtain⟨U,V⟩:=Z2 a3 I;clear x y a3 I;obtain⟨h,A⟩:∃ n,f.length=n:=⟨_,rfl⟩
 obtain⟨m,B⟩:∃ n,lb.length=n:=⟨_,rfl⟩
 rw[A] at E a1 a6 ⊢;rw[B] at F b1 a7 ⊢;obtain⟨Y,a0⟩:=Z2 A B;clear A B;go_enter Tryz.func105,Tryz.ntmps105;go_wp2_with fail;go_loopw [5,6,7] (fun v b i T=>∃ (k:Nat) (l:List Nat) (c:Nat),(k≤h∨k≤m)∧i = .int .i64 k∧OwnN T w.heap.size v l∧l.length=k∧b = .int .u64 c∧c≤1∧
   nval l+BB ^ k * c=nval (f.take k)+nval (lb.take k)∧Own w.heap.size w T) (fun _ _ i _=>h+m - (intOf i).toNat)
 case atStart=>
  exact⟨0,[],0,by omega,rfl,OwnN.made0 w _ (Nat.le_refl _),rfl,rfl,by omega,by simp[nval],Own.of_gr ((Gr.refl w).alloc _) (Nat.le_refl _)⟩
 case round=>
  obtain⟨k,l,b,hk,rfl,M,L,rfl,hc,N,C⟩:=hrel;obtain⟨G,g,H,u,t⟩:=Z5 M L N C (show w.heap.size≤wr.heap.size from C.size);clear M L N C;by_cases a8:k < h∨k < m
  ·have ga:=U.o.gd k;have gb:=V.o.gd k;rw[Jd] at ga gb;obtain⟨s,j⟩:∃ s,s=b+gd f k+gd lb k:=⟨_,rfl⟩
   obtain⟨Hs,W,X,b0⟩:=Z4 j (show((b:Int)+gd f k+gd lb k) % 4294967296=((s % BB:Nat):Int) by rw[j,Jd];omega) (show((b:Int)+gd f k+gd lb k) / 4294967296=((s / BB:Nat):Int) by rw[j,Jd];omega) (show s / BB≤1 by rw[j,Jd];omega);clear j;have b5:k≤17592186044416:=by omega
   have a9:k < h∨(¬ k < h∧k < m):=by omega
   clear a8;rcases a9 with K|⟨K,a5⟩;all_goals
    go_wp2_with fail;refine(Po _ _ f k (E.o.own rfl u.o) (by omega)).mono ?_;rintro _ _ ⟨rfl,rfl⟩;go_wp2_with fail;refine(Po _ _ lb k (F.o.own rfl u.o) (by omega)).mono ?_;rintro _ _ ⟨rfl,rfl⟩;go_wp2_with (at_builtin;go_must (refine Mv rfl _ _ 64 rfl (by kernel_rfl) w.heap.size _ (.slice (some ⟨wr.heap.size,0,none⟩) 1 1) l [s % BB] rfl (G.o.grow ((Gr.refl wr).alloc _)) rfl (NatL.one wr _ (s % BB) W.o (Nat.mod_lt _ Jt) _) (by rw[g.o];simp;omega) (Nat.le_trans t.o (by simp)) ?_;intro O w' D z a4));refine⟨⟨k+1,l ++ [s % BB],s / BB,by omega,by go_num,D,by rw[List.length_append,g.o];rfl,by rw[X.o],b0.o,Vz g.o H.o Hs.o,?_⟩,by simp[intOf];omega⟩;exact(u.o.trans (Own.of_gr ((Gr.refl wr).alloc _) t.o)).trans z
  ·have K:¬ k < h:=by omega
   have a5:¬ k < m:=by omega
   have b4:=Z (show b % BB=b from Nat.mod_eq_of_lt (by rw[Jd];omega));go_wp2_with (at_builtin;go_must (refine Mv rfl _ _ 64 rfl (by kernel_rfl) w.heap.size _ (.slice (some ⟨wr.heap.size,0,none⟩) 1 1) l [b] rfl (G.o.grow ((Gr.refl wr).alloc _)) rfl (NatL.one wr _ b rfl (by rw[Jd];omega) _) (by rw[g.o];simp;omega) (Nat.le_trans t.o (by simp)) ?_;intro O w' D z a4));refine(Lq _ O _ D.read (by rw[List.length_append,g.o];simp;omega)).mono ?_;rintro _ w2 ⟨r,rfl,g2,hr⟩;go_wp2;go_ret;refine⟨_,rfl,((u.o.trans (Own.of_gr ((Gr.refl wr).alloc _) t.o)).trans z).gr.trans g2,?_⟩;have e:nval (l ++ [b])=nval f+nval lb:=by
    have J:=H.o;rw[List.take_of_length_le (by rw[Y.o];omega),List.take_of_length_le (by rw[a0.o];omega)] at J;rw[Pj,g.o];exact J
   rw[← e];exact hr
theorem U7 {b lb l:List Nat}{k c x:Nat}(g:l.length=k)(h:nval l+nval (lb.take k)=nval (b.take k)+BB ^ k * c)(n:x+gd lb k+c=BB+gd b k)(m:x / BB≤1):
  nval (l ++ [x % BB])+nval (lb.take (k+1))=nval (b.take (k+1))+BB ^ (k+1) * (1 - x / BB):=by
 rw[Pj,g,Lo,Lo,Nat.pow_succ];obtain⟨y,i⟩:∃ y,1 - x / BB=y:=⟨_,rfl⟩
 have e:=Nat.mod_add_div x BB;have j:BB * (x / BB)+BB * y=BB:=by rw[← Nat.mul_add,show x / BB+y=1 from by omega,Nat.mul_one]
 rw[i];have d:x % BB+gd lb k+c=BB * y+gd b k:=by omega
 have f:=congrArg (fun z=>BB ^ k * z) d;simp only[Nat.mul_add] at f;rw[Nat.mul_assoc (BB ^ k) BB y];omega
theorem J1i {b lb l:List Nat}{c:Nat}(j:Dig b)(m:l.length=b.length)(k:Dig l)(h:nval l+nval (lb.take b.length)=nval b+BB ^ b.length * c)(r:nval lb≤nval b)(q:c≤1):nval l=nval b - nval lb:=by
 have p:=Ln b j;have f:=Ln l k;have g:=Nm lb b.length;have i:nval (lb.drop b.length)=0:=by
  refine Nat.eq_zero_of_not_pos fun n=>?_;have:BB ^ b.length * 1≤BB ^ b.length * nval (lb.drop b.length):=Nat.mul_le_mul_left _ n;omega
 rw[i,Nat.mul_zero,Nat.add_zero] at g;rw[m] at f;rcases Nat.eq_zero_or_pos c with d|d
 ·subst d;simp at h;omega
 ·have:c=1:=by omega
  subst this;rw[Nat.mul_one] at h;omega
theorem J0Q (w:World)(R D:Value)(b lb:List Nat)(y:NatL w R b)(z:NatL w D lb)(L:b.length≤17592186044416)(b1:lb.length≤17592186044416)(M:nval lb≤nval b):
  Calls Tryz.prog 216 #[R,D] w (Ret w fun r w'=>∃ x,r = .tuple #[x,.int .i64 0]∧NatL w' x (digs (nval b - nval lb))):=by
 obtain⟨j,s⟩:=Z2 y z;have a5:¬ cmpZ (nval b) (nval lb) < 0:=by rw[Nw];omega
 obtain⟨I,A⟩:∃ I,cmpZ (nval b) (nval lb)=I:=⟨_,rfl⟩
 rw[A] at a5;obtain⟨Y,a4⟩:=Z2 A M;obtain⟨p,c,rfl,a1,a2,a3⟩:=y.parts;obtain⟨F,S⟩:=Z2 a3 z.dig;obtain⟨h,B⟩:∃ n,b.length=n:=⟨_,rfl⟩
 rw[B] at j a1 ⊢;obtain⟨t,a0⟩:=Z2 B L;have b2:h≤17592186044416:=by omega
 clear y z a3 M A B L;go_enter Tryz.func216,Tryz.ntmps216;go_wp2_with fail;refine(R0 _ _ D b lb j.o s.o (Nat.le_trans a0.o (by omega)) (by omega)).mono ?_;rintro _ d ⟨_,rfl,g1,rfl⟩;rw[Y.o];obtain⟨W,X,V⟩:=Z3 (j.o.grow g1) (s.o.grow g1) g1;clear j s g1;go_wp2_with fail;go_loopw [6,7,8] (fun v f i E=>∃ (k:Nat) (l:List Nat) (c:Nat),k≤h∧i = .int .i64 k∧OwnN E d.heap.size v l∧l.length=k∧f = .int .u64 c∧c≤1∧
   nval l+nval (lb.take k)=nval (b.take k)+BB ^ k * c∧Own d.heap.size d E) (fun _ _ i _=>h - (intOf i).toNat)
 case atStart=>
  exact⟨0,[],0,by omega,rfl,OwnN.made0 d _ (Nat.le_refl _),rfl,rfl,by omega,by simp[nval],Own.of_gr ((Gr.refl d).alloc _) (Nat.le_refl _)⟩
 case round=>
  obtain⟨k,l,f,hk,rfl,N,K,rfl,hc,O,C⟩:=hrel;obtain⟨u,g,H,m,G⟩:=Z5 N K O C (show d.heap.size≤wr.heap.size from C.size);clear N K O C;by_cases b0:k < h
  ·have ga:=F.o.gd k;have gb:=S.o.gd k;rw[Jd] at ga gb;obtain⟨x,q⟩:∃ x,x=4294967296+gd b k - gd lb k - f:=⟨_,rfl⟩
   obtain⟨Hx,T,U,a8⟩:=Z4 (show x+gd lb k+f=BB+gd b k by rw[Jd];omega) (show((4294967296:Int)+gd b k - gd lb k - f) % 4294967296=((x % BB:Nat):Int) by rw[q,Jd];omega) (show 1 - ((4294967296:Int)+gd b k - gd lb k - f) / 4294967296=((1 - x / BB:Nat):Int) by rw[q,Jd];omega) (show x / BB≤1 by rw[q,Jd];omega);clear q;go_wp2_with fail;refine(Po _ _ b k (W.o.own rfl m.o) (by omega)).mono ?_;rintro _ _ ⟨rfl,rfl⟩;go_wp2_with fail;refine(Po _ _ lb k (X.o.own rfl m.o) (by omega)).mono ?_;rintro _ _ ⟨rfl,rfl⟩;go_wp2_with (at_builtin;go_must (refine Mv rfl _ _ 64 rfl (by kernel_rfl) d.heap.size _ (.slice (some ⟨wr.heap.size,0,none⟩) 1 1) l [x % BB] rfl (u.o.grow ((Gr.refl wr).alloc _)) rfl (NatL.one wr _ (x % BB) T.o (Nat.mod_lt _ Jt) _) (by rw[g.o];simp;omega) (Nat.le_trans G.o (by simp)) ?_;intro v' w' a7 a6 a9));refine⟨⟨k+1,l ++ [x % BB],1 - x / BB,by omega,by go_num,a7,by rw[List.length_append,g.o];rfl,by rw[U.o],Nat.sub_le _ _,U7 g.o H.o Hx.o a8.o,?_⟩,by simp[intOf];omega⟩;exact(m.o.trans (Own.of_gr ((Gr.refl wr).alloc _) G.o)).trans a6
  ·obtain rfl:k=h:=by omega
   go_wp2_with fail;refine(Lq _ u6 _ u.o.read (by rw[g.o];omega)).mono ?_;rintro _ E ⟨r,rfl,g2,hr⟩;go_wp2;go_ret2;refine⟨_,rfl,(V.o.trans m.o.gr).trans g2,_,rfl,?_⟩;have J:=H.o;rw[List.take_of_length_le (l:=b) (by rw[t.o];omega),← t.o] at J;rw[← J1i F.o (by rw[g.o,t.o]) u.o.2 J a4.o hc];exact hr
theorem J0P (w:World)(va vb:Value)(b lb:List Nat)(I:NatL w va b)(J:NatL w vb lb)(b7:b.length≤8796093022208)(b8:lb.length≤8796093022208):
  Calls Tryz.prog 163 #[va,vb] w (Ret w fun r w'=>NatL w' r (digs (nval b * nval lb))):=by
 obtain⟨R,S⟩:=Z2 I J;obtain⟨p,c,rfl,a1,a2,a3⟩:=I.parts;obtain⟨q,d,rfl,b1,b2,Y⟩:=J.parts;obtain⟨A3,B3⟩:=Z2 a3 Y;clear I J a3 Y;obtain⟨g,L⟩:∃ n,b.length=n:=⟨_,rfl⟩
 obtain⟨f,M⟩:∃ n,lb.length=n:=⟨_,rfl⟩
 rw[L] at R a1 b7 ⊢;rw[M] at S b1 b8 ⊢;obtain⟨T,U⟩:=Z2 L M;clear L M;obtain⟨u,a0⟩:∃ u,w.heap.size=u:=⟨_,rfl⟩
 have A:=Z a0;clear a0;go_enter Tryz.func163,Tryz.ntmps163;go_wp2_with (first|(go_at_call 999)|(refine Qs rfl _ _ 64 rfl (by kernel_rfl) (g+f+1) _ rfl rfl (by omega) (by omega) ?_;rw[A.o];intro w1 a7 a4 c3));go_loopw [6] (fun i O=>∃ (k:Nat) (l:List Nat),k≤g∧i = .int .i64 k∧RowN O u l∧l.length=g+f+1∧
   nval l=nval (b.take k) * nval lb∧(∀ j,k+f≤j→gd l j=0)∧Own u w O) (fun i _=>g - (intOf i).toNat)
 case atStart=>
  have e0:∀ j,gd (List.replicate (g+f+1) 0) j=0:=fun j=>by
   unfold gd;rw[List.getD_eq_getElem?_getD,List.getElem?_replicate];split<;>rfl
  exact⟨0,_,by omega,rfl,a7,by simp,by rw[Qi];simp[nval],fun j _=>e0 j,Own.of_gr a4 (by rw[A.o];exact Nat.le_refl _)⟩
 case round=>
  obtain⟨k,l,hk,rfl,a8,hl,hv,hz,ho⟩:=hrel;obtain⟨F,B,V,Hz,E⟩:=Z5 a8 hl hv hz ho;clear a7 a8 hl hv hz ho a4 c3;by_cases b6:k < g
  ·go_wp2_with fail;obtain⟨wo,N⟩:∃ wo:World,wo=wr:=⟨_,rfl⟩
   rw[← N];rw[← N] at F E;clear N;go_loopw [7,8] (fun cr i w3=>∃ (j:Nat) (m:List Nat) (c:Nat),j≤f∧i = .int .i64 j∧cr = .int .u64 c∧c < BB∧RowN w3 u m∧m.length=g+f+1∧
     nval m+BB ^ (k+j) * c=nval (b.take k) * nval lb+BB ^ k * (gd b k * nval (lb.take j))∧(∀ t,k+f≤t→gd m t=0)∧Own u w w3) (fun _ i _=>f - (intOf i).toNat)
   case atStart=>
    exact⟨0,l,0,by omega,rfl,rfl,Jt,F.o,B.o,by simp[nval];exact V.o,Hz.o,E.o⟩
   case round=>
    obtain⟨j,m,z,hj,rfl,rfl,K,a9,hm,b0,b4,a6⟩:=hrel;obtain⟨h,v,X,G,C,c4⟩:=Z6 a9 hm b0 b4 a6 K;rw[Jd] at K;clear a9 hm b0 b4 a6;by_cases b5:j < f
    ·obtain⟨bA,oA,rfl,cA⟩:=(R.o.own A.o.symm C.o).at k (by rw[T.o];exact b6);obtain⟨bB,oB,rfl,cB⟩:=(S.o.own A.o.symm C.o).at j (by rw[U.o];exact b5);have cR:=h.o.cell (i:=k+j) (by rw[v.o];omega);have fR:=h.o.free (k+j);have ga:=A3.o.gd k;have gb:=B3.o.gd j;have gm:=h.o.dig.gd (k+j);have a5:=Rk ga gb;rw[Jd] at ga gb gm;have c6:(0:Int)≤(gd b k:Int) * gd lb j:=by have:=Int.natCast_nonneg (gd b k * gd lb j);rwa [Int.natCast_mul] at this
     have b9:(gd b k:Int) * gd lb j≤18446744065119617025:=by have:=Int.ofNat_le.2 a5;rwa [Int.natCast_mul] at this
     clear a5;go_wp2_with fail
     go_quiet (fail)
     go_wp2_with fail;obtain⟨P,hP⟩:∃ P,gd b k * gd lb j=P:=⟨_,rfl⟩
     have H:(gd b k:Int) * gd lb j=(P:Int):=by rw[← hP];exact(Int.natCast_mul _ _).symm
     obtain⟨s,D⟩:∃ s,s=z+P+gd m (k+j):=⟨_,rfl⟩
     have c5:P≤18446744065119617025:=by rw[H] at b9;omega
     have c0:s / BB < BB:=by rw[D,Jd];omega
     have E2:((z:Int)+(gd b k:Int) * gd lb j+gd m (k+j)) / 4294967296=((s / BB:Nat):Int):=by rw[H,D,Jd];omega
     have E1:((z:Int)+(gd b k:Int) * gd lb j+gd m (k+j)) % 4294967296=((s % BB:Nat):Int):=by rw[H,D,Jd];omega
     have c2:=Ud (l:=m) (i:=k) (k:=j) (c:=z) (s:=s) (x:=gd b k) (y:=gd lb j) (W:=nval (lb.take j)) (by rw[v.o];omega) X.o (by rw[hP];exact D);refine⟨⟨j+1,m.set (k+j) (s % BB),s / BB,by omega,by go_num,by rw[E2],c0,(h.o.grow ((Gr.refl wr).drewN nq)).set (k+j) (s % BB) _ E1 (Nat.mod_lt _ Jt),by rw[List.length_set];exact v.o,?_,?_,?_⟩,by simp[intOf];omega⟩
     ·rw[Lo];exact c2
     ·intro t ht;rw[Ma (by omega)];exact G.o t ht
     ·exact(C.o.trans (Own.drewN _ _ _)).trans (Own.setCell _ (Nat.le_refl _) _ _)
    ·obtain rfl:j=f:=by omega
     have cR:=h.o.cell (i:=k+j) (by rw[v.o];omega);have fR:=h.o.free (k+j);go_wp2_with fail;refine⟨⟨k+1,m.set (k+j) z,by omega,by go_num,h.o.set (k+j) z _ rfl (by rw[Jd];exact K),by rw[List.length_set];exact v.o,?_,?_,?_⟩,by simp[intOf];omega⟩
     ·rw[Zo (by rw[v.o];omega) (G.o _ (Nat.le_refl _)) X.o,List.take_of_length_le (l:=lb) (by rw[U.o];exact Nat.le_refl _),Lo,Nat.add_mul,Nat.mul_assoc]
     ·intro t ht;rw[Ma (by omega)];exact G.o t (by omega)
     ·exact C.o.trans (Own.setCell _ (Nat.le_refl _) _ _)
  ·obtain rfl:k=g:=by omega
   go_wp2_with fail;refine(Lq _ _ l (by rw[← B.o];exact F.o.read _ (Nat.le_refl _) (by rw[B.o];omega)) (by rw[B.o];omega)).mono ?_;rintro _ O ⟨r,rfl,g2,hr⟩;go_wp2;go_ret;refine⟨_,rfl,Gr.trans (by have:=E.o;rw[← A.o] at this;exact this.gr) g2,?_⟩;have e:nval l=nval b * nval lb:=by rw[V.o,List.take_of_length_le (by rw[T.o];exact Nat.le_refl _)]
   rw[← e];exact hr
theorem Uj (w:World)(p:Option Addr)(n c:Nat)(l:List Nat)(h:NatL w (.slice p n c) l):
  Calls Tryz.prog 234 #[.slice p n c] w fun e w'=>(∃ k,e = .returned (.slice p k k)∧NatL w (.slice p k k) (trimL l))∧w=w':=by
 have m:=Z h;have g:=h.len;obtain⟨p',c',z,x,B,s⟩:=h.parts
 cases z
 have u:=Z s;obtain⟨n,g⟩:∃ n,l.length=n:=⟨_,rfl⟩
 have f:=Z g;rw[g] at x ⊢;rw[g] at m;clear g s h;go_enter Tryz.func234,Tryz.ntmps234;go_wp2;go_loopw [3] (fun i A=>∃ k:Nat,k≤n∧i = .int .i64 k∧trimL (l.take k)=trimL l∧A=w) (fun i _=>(intOf i).toNat)
 case atStart=>exact⟨n,Nat.le_refl _,rfl,by rw[List.take_of_length_le (by rw[f.o];exact Nat.le_refl _)],rfl⟩
 case round=>
  obtain⟨k,D,rfl,t,rfl⟩:=hrel;have q:=Z t;clear t;by_cases y:k=0
  ·obtain rfl:=y;have r:=Z (Ve q.o);go_wp2;go_ret;exact⟨⟨0,rfl,by rw[← r.o];exact m.o.take 0 0 (by omega) (Nat.le_refl _) (by omega)⟩,rfl⟩
  ·obtain⟨j,rfl⟩:∃ j,k=j+1:=⟨k - 1,by omega⟩
   obtain⟨b,o,rfl,C⟩:=m.o.at j (by rw[f.o];omega);by_cases d:gd l j=0
   ·have v:((gd l j:Int) == 0)=true:=by rw[d];rfl
    have Hd:=Z d;clear d;go_wp2
    go_roundw
    case rel=>
     exact⟨j,by omega,rfl,Vf (by rw[f.o];omega) q.o Hd.o,trivial⟩
    case measure=>simp[intOf]
   ·have v:((gd l j:Int) == 0)=false:=by simpa using d
    have Hd:=Z d;clear d;have r:=Z (Vd u.o (by rw[f.o];omega) q.o Hd.o);go_wp2;go_ret;exact⟨⟨j+1,rfl,by rw[← r.o];exact m.o.take (j+1) (j+1) (by rw[f.o];omega) (Nat.le_refl _) (by omega)⟩,rfl⟩
theorem L3 (w:World)(v:Value)(l:List Nat)(h:NatL w v l):
  Calls Tryz.prog 234 #[v] w fun e w'=>(∃ p k,e = .returned (.slice p k k)∧NatL w (.slice p k k) (trimL l))∧w=w':=by
 obtain⟨p,c,rfl,-⟩:=h.parts;exact(Uj w p _ c l h).mono fun e w' ⟨⟨k,b,d⟩,f⟩=>⟨⟨p,k,b,d⟩,f⟩
theorem Ug (w:World)(va vb:Value)(b lb:List Nat)(H:NatL w va b)(I:NatL w vb lb)(b7:b.length≤8796093022208)(b8:lb.length≤8796093022208):
  Calls Tryz.prog 195 #[va,vb] w (Ret w fun r w'=>NatL w' r (digs (nval b * nval lb))):=by
 obtain⟨O,R⟩:=Z2 H I;obtain⟨p,c,rfl,a1,a2,a3⟩:=H.parts;obtain⟨q,d,rfl,b1,b2,X⟩:=I.parts;obtain⟨A3,B3⟩:=Z2 a3 X;clear H I a3 X;obtain⟨g,K⟩:∃ n,b.length=n:=⟨_,rfl⟩
 obtain⟨f,L⟩:∃ n,lb.length=n:=⟨_,rfl⟩
 rw[K] at O a1 b7 ⊢;rw[L] at R b1 b8 ⊢;obtain⟨S,T⟩:=Z2 K L;clear K L;obtain⟨u,a0⟩:∃ u,w.heap.size=u:=⟨_,rfl⟩
 have A:=Z a0;clear a0;go_enter Tryz.func195,Tryz.ntmps195;go_wp2_with (first|(go_at_call 999)|(at_make;go_must (refine Qs rfl _ _ 64 rfl (by kernel_rfl) (g+f) _ rfl rfl (by omega) (by omega) ?_;rw[A.o];intro w1 a7 a4 c3)));go_loopw [20] (fun i w2=>∃ (k:Nat) (l:List Nat),k≤g∧i = .int .i64 k∧RowN w2 u l∧l.length=g+f∧
   nval l=nval (b.take k) * nval lb∧(∀ j,k+f≤j→gd l j=0)∧Own u w w2) (fun i _=>g - (intOf i).toNat)
 case atStart=>
  have e0:∀ j,gd (List.replicate (g+f) 0) j=0:=fun j=>by
   unfold gd;rw[List.getD_eq_getElem?_getD,List.getElem?_replicate];split<;>rfl
  exact⟨0,_,by omega,rfl,a7,by simp,by rw[Qi];simp[nval],fun j _=>e0 j,Own.of_gr a4 (by rw[A.o];exact Nat.le_refl _)⟩
 case round=>
  obtain⟨k,l,hk,rfl,a8,hl,hv,hz,ho⟩:=hrel;obtain⟨E,C,U,Hz,B⟩:=Z5 a8 hl hv hz ho;clear a7 a8 hl hv hz ho a4 c3;by_cases b6:k < g
  ·obtain⟨bA,oA,rfl,cA⟩:=(O.o.own A.o.symm B.o).at k (by rw[S.o];exact b6);go_wp2_with fail;obtain⟨wo,N⟩:∃ wo:World,wo=wr:=⟨_,rfl⟩
   rw[← N];rw[← N] at E B;clear cA;clear N;go_loopw [8,27] (fun cr i w3=>∃ (j:Nat) (m:List Nat) (c:Nat),j≤f∧i = .int .i64 j∧cr = .int .u64 c∧c < BB∧RowN w3 u m∧m.length=g+f∧
     nval m+BB ^ (k+j) * c=nval (b.take k) * nval lb+BB ^ k * (gd b k * nval (lb.take j))∧(∀ t,k+f≤t→gd m t=0)∧Own u w w3) (fun _ i _=>f - (intOf i).toNat)
   case atStart=>
    exact⟨0,l,0,by omega,rfl,rfl,Jt,E.o,C.o,by simp[nval];exact U.o,Hz.o,B.o⟩
   case round=>
    obtain⟨j,m,z,hj,rfl,rfl,J,a9,hm,b0,b4,a6⟩:=hrel;obtain⟨h,v,V,F,D,c4⟩:=Z6 a9 hm b0 b4 a6 J;rw[Jd] at J;clear a9 hm b0 b4 a6;by_cases b5:j < f
    ·skip
     obtain⟨bB,oB,rfl,cB⟩:=(R.o.own A.o.symm D.o).at j (by rw[T.o];exact b5);have cR:=h.o.cell (i:=k+j) (by rw[v.o];omega);have fR:=h.o.free (k+j);have Y:=A3.o.gd k;have gb:=B3.o.gd j;have gm:=h.o.dig.gd (k+j);have a5:=Rk Y gb;rw[Jd] at Y gb gm;have c6:(0:Int)≤(gd b k:Int) * gd lb j:=by have:=Int.natCast_nonneg (gd b k * gd lb j);rwa [Int.natCast_mul] at this
     have b9:(gd b k:Int) * gd lb j≤18446744065119617025:=by have:=Int.ofNat_le.2 a5;rwa [Int.natCast_mul] at this
     clear a5;go_wp2_with fail;obtain⟨P,hP⟩:∃ P,gd b k * gd lb j=P:=⟨_,rfl⟩
     have G:(gd b k:Int) * gd lb j=(P:Int):=by rw[← hP];exact(Int.natCast_mul _ _).symm
     obtain⟨s,M⟩:∃ s,s=P+gd m (k+j)+z:=⟨_,rfl⟩
     have c5:P≤18446744065119617025:=by rw[G] at b9;omega
     have c0:s / BB < BB:=by rw[M,Jd];omega
     have E2:((gd b k:Int) * gd lb j+gd m (k+j)+z) / 4294967296=((s / BB:Nat):Int):=by rw[G,M,Jd];omega
     have E1:((gd b k:Int) * gd lb j+gd m (k+j)+z) % 4294967296=((s % BB:Nat):Int):=by rw[G,M,Jd];omega
     have c2:=Ud (l:=m) (i:=k) (k:=j) (c:=z) (s:=s) (x:=gd b k) (y:=gd lb j) (W:=nval (lb.take j)) (by rw[v.o];omega) V.o (by rw[hP];omega);refine⟨⟨j+1,m.set (k+j) (s % BB),s / BB,by omega,by go_num,by rw[E2],c0,h.o.set (k+j) (s % BB) _ E1 (Nat.mod_lt _ Jt),by rw[List.length_set];exact v.o,?_,?_,?_⟩,by simp[intOf];omega⟩
     ·rw[Lo];exact c2
     ·intro t ht;rw[Ma (by omega)];exact F.o t ht
     ·exact D.o.trans (Own.setCell _ (Nat.le_refl _) _ _)
    ·obtain rfl:j=f:=by omega
     have cR:=h.o.cell (i:=k+j) (by rw[v.o];omega);have fR:=h.o.free (k+j);go_wp2_with fail;refine⟨⟨k+1,m.set (k+j) z,by omega,by go_num,h.o.set (k+j) z _ rfl (by rw[Jd];exact J),by rw[List.length_set];exact v.o,?_,?_,?_⟩,by simp[intOf];omega⟩
     ·rw[Zo (by rw[v.o];omega) (F.o _ (Nat.le_refl _)) V.o,List.take_of_length_le (l:=lb) (by rw[T.o];exact Nat.le_refl _),Lo,Nat.add_mul,Nat.mul_assoc]
     ·intro t ht;rw[Ma (by omega)];exact F.o t (by omega)
     ·exact D.o.trans (Own.setCell _ (Nat.le_refl _) _ _)
  ·obtain rfl:k=g:=by omega
   go_wp2_with fail;refine(L3 _ _ l (by rw[← C.o];exact E.o.read _ (Nat.le_refl _) (by rw[C.o];omega))).mono ?_;rintro _ _ ⟨⟨r,kk,rfl,hr⟩,rfl⟩;have Hr:=Z hr;clear hr;go_wp2;go_ret;refine⟨_,rfl,(by have:=B.o;rw[← A.o] at this;exact this.gr),?_⟩;have e:nval l=nval b * nval lb:=by rw[U.o,List.take_of_length_le (by rw[S.o];exact Nat.le_refl _)]
   rw[← e];exact Hr.o
theorem Or (w:World)(E F:Value)(b lb:List Nat)(t:NatL w E b)(u:NatL w F lb)(T:b.length≤35184372088832)(U:lb.length≤35184372088832):
  Calls Tryz.prog 174 #[E,F] w fun e w'=>e = .returned (.int .i64 (cmpZ (nval b) (nval lb)))∧w=w':=by
 obtain⟨A,B⟩:=Z2 t u;obtain⟨p,c,rfl,J,a2,a3⟩:=t.parts;obtain⟨q,d,rfl,K,Y,C⟩:=u.parts;obtain⟨y,z⟩:=Z2 a3 C;clear t u a3 C;obtain⟨g,v⟩:∃ n,b.length=n:=⟨_,rfl⟩
 obtain⟨l,x⟩:∃ n,lb.length=n:=⟨_,rfl⟩
 rw[v] at A J T ⊢;rw[x] at B K U ⊢;obtain⟨H,I⟩:=Z2 v x;clear v x;obtain⟨m,V,W,a0,R⟩:∃ m:Nat,g≤m∧l≤m∧m≤35184372088832∧(m=l∧g < l∨m=g∧l≤g):=by
  rcases Nat.lt_or_ge g l with h|h
  ·exact⟨l,by omega,by omega,by omega,.inl ⟨rfl,by omega⟩⟩
  ·exact⟨g,by omega,by omega,by omega,.inr ⟨rfl,h⟩⟩
 have G:=Z (show nval (b.drop m)=nval (lb.drop m) by rw[List.drop_eq_nil_of_le (by rw[H.o];exact V),List.drop_eq_nil_of_le (by rw[I.o];exact W)]);rcases R with⟨rfl,O⟩|⟨rfl,O⟩;all_goals
  go_enter Tryz.func174,Tryz.ntmps174;go_wp2_with fail;go_loopw [5] (fun i X=>∃ k:Nat,k≤m∧i = .int .i64 ((k:Int) - 1)∧nval (b.drop k)=nval (lb.drop k)∧w=X) (fun i _=>((intOf i)+1).toNat)
  case atStart=>exact⟨m,Nat.le_refl _,rfl,G.o,rfl⟩
  case round=>
   obtain⟨k,hk,rfl,D,rfl⟩:=hrel;have s:=Z D;clear D;by_cases S:k=0
   ·obtain rfl:=S;go_wp2_with fail;go_ret;have M:nval b=nval lb:=by simpa using s.o
    rw[Xb M];exact⟨rfl,rfl⟩
   ·obtain⟨j,rfl⟩:∃ j,k=j+1:=⟨k - 1,by omega⟩
    have L:=Z (show((j+1:Nat):Int) - 1=(j:Int) by omega);rw[L.o];go_wp2_with fail;refine(Mo _ _ b j A.o (by omega)).mono ?_;rintro _ _ ⟨rfl,rfl⟩;go_wp2_with fail;refine(Mo _ _ lb j B.o (by omega)).mono ?_;rintro _ _ ⟨rfl,rfl⟩;rcases Nat.lt_trichotomy (gd b j) (gd lb j) with f|f|f
    ·have r:=Z (Pc (Ro y.o z.o s.o f));go_wp2_with fail;go_ret;rw[r.o];exact⟨rfl,rfl⟩
    ·have r:=Z (J05 s.o f);have N:¬ gd b j < gd lb j:=by omega
     have h2:¬ gd lb j < gd b j:=by omega
     clear f;go_wp2_with fail;exact⟨⟨j,by omega,rfl,r.o,trivial⟩,by simp[intOf]⟩
    ·have r:=Z (Sv (Ro z.o y.o s.o.symm f));have N:¬ gd b j < gd lb j:=by omega
     go_wp2_with fail;go_ret;rw[r.o];exact⟨rfl,rfl⟩
def So (fn:Nat)(D C:Nat→Nat→Nat→Nat):Prop:=
 ∀ (w:World) (x y c:Nat),x < BB→y < BB→c≤1→D x y c < BB∧C x y c≤1∧
  Calls Tryz.prog fn #[.int .u64 x,.int .u64 y,.int .u64 c] w fun e w'=>e = .returned (.tuple #[.int .u32 (D x y c),.int .u64 (C x y c)])∧w=w'
theorem Zw (w:World)(va vb:Value)(b lb:List Nat)(y:NatL w va b)(z:NatL w vb lb)(a7:b.length≤17592186044416)(a8:lb.length≤17592186044416)
  (u:Nat) (a5:u=250∨u=284) (D C:Nat→Nat→Nat→Nat) (U:So u D C) (I:Nat→List Nat→Nat→Prop) (T:I 0 [] 0)
  (S:∀ k l c,I k l c→l.length=k→c≤1→I (k+1) (l ++ [D (gd b k) (gd lb k) c]) (C (gd b k) (gd lb k) c)):
  Calls Tryz.prog 249 #[va,vb,.func (.func u) #[] #[]] w (Ret w fun r w'=>∃ l c,I (max b.length lb.length+1) l c∧l.length=max b.length lb.length+1∧Dig l∧c≤1∧NatL w' r (trimL l)):=by
 obtain⟨G,H⟩:=Z2 y z;obtain⟨p,c,rfl,a1,a2,a3⟩:=y.parts;obtain⟨q,d,rfl,b1,b2,L⟩:=z.parts;obtain⟨A3,B3,HF,a0,HI⟩:=Z5 a3 L U T S;clear y z a3 L U S T;obtain⟨g,B⟩:∃ n,b.length=n:=⟨_,rfl⟩
 obtain⟨j,E⟩:∃ n,lb.length=n:=⟨_,rfl⟩
 rw[B] at G a1 a7 ⊢;rw[E] at H b1 a8 ⊢;obtain⟨b0,b4⟩:=Z2 B E;clear B E;obtain⟨m,b7,b8,b9,a4⟩:∃ m:Nat,g≤m∧j≤m∧m≤17592186044416∧(m=j∧g < j∨m=g∧j≤g):=by
  rcases Nat.lt_or_ge g j with h|h
  ·exact⟨j,by omega,by omega,by omega,.inl ⟨rfl,by omega⟩⟩
  ·exact⟨g,by omega,by omega,by omega,.inr ⟨rfl,h⟩⟩
 have X:max g j=m:=by omega
 rw[X];clear X;rcases a4 with⟨rfl,hc⟩|⟨rfl,hc⟩;all_goals rcases a5 with rfl|rfl
 all_goals
  go_enter Tryz.func249,Tryz.ntmps249;go_wp2_with fail;go_loopw [7,8,17] (fun v f i w1=>∃ (k:Nat) (l:List Nat) (c:Nat),k≤m+1∧i = .int .i64 k∧OwnN w1 w.heap.size v l∧l.length=k∧f = .int .u64 c∧c≤1∧I k l c∧Own w.heap.size w w1) (fun _ _ i _=>m+1 - (intOf i).toNat)
  case atStart=>exact⟨0,[],0,by omega,rfl,OwnN.nil w _,rfl,rfl,by omega,a0.o,Own.refl _ _⟩
  case round=>
   obtain⟨k,l,f,hk,rfl,Y,W,rfl,A,V,F⟩:=hrel;obtain⟨x,s,K,t,J⟩:=Z5 Y W V F (show w.heap.size≤wr.heap.size from F.size);clear Y W V F;by_cases b6:k < m+1
   ·have O:=A3.o.gd k;have R:=B3.o.gd k;obtain⟨M,d2,N⟩:=HF.o wr _ _ f O R A;obtain⟨D3,D1⟩:=Z2 N M;clear N M;rw[Jd] at O R;go_wp2_with fail;refine(Mo _ _ b k (G.o.own rfl t.o) (by omega)).mono ?_;rintro _ _ ⟨rfl,rfl⟩;go_wp2_with fail;refine(Mo _ _ lb k (H.o.own rfl t.o) (by omega)).mono ?_;rintro _ _ ⟨rfl,rfl⟩;go_wp2_with fail;refine D3.o.mono ?_;rintro _ _ ⟨rfl,rfl⟩;go_wp2_with (at_builtin;go_must (refine Mv rfl _ _ 64 rfl (by kernel_rfl) w.heap.size _ (.slice (some ⟨wr.heap.size,0,none⟩) 1 1) l [D (gd b k) (gd lb k) f] rfl (x.o.grow ((Gr.refl wr).alloc _)) rfl (NatL.one wr _ _ rfl D1.o _) (by rw[s.o];simp;omega) (Nat.le_trans J.o (by simp)) ?_;intro v' w' a9 a6 b5));refine⟨⟨k+1,l ++ [D (gd b k) (gd lb k) f],_,by omega,by go_num,a9,by rw[List.length_append,s.o];rfl,rfl,d2,HI.o k l f K.o s.o A,?_⟩,by simp[intOf];omega⟩;exact(t.o.trans (Own.of_gr ((Gr.refl wr).alloc _) J.o)).trans a6
   ·obtain rfl:k=m+1:=by omega
    go_wp2_with fail;refine(L3 _ _ l x.o.read).mono ?_;rintro _ _ ⟨⟨r,kk,rfl,hr⟩,rfl⟩;have Hr:=Z hr;clear hr;go_wp2_with fail;go_ret;exact⟨_,rfl,t.o.gr,l,f,K.o,s.o,x.o.2,A,Hr.o⟩
theorem J4d:So 250 (fun x y c=>(x+y+c) % BB) (fun x y c=>(x+y+c) / BB):=by
 intro w x y c b d j;have h:=b;have i:=d;rw[Jd] at h i;refine⟨Nat.mod_lt _ Jt,(by show(x+y+c) / BB≤1;rw[Jd];omega),?_⟩;show Calls _ _ _ _ fun e w'=>e = .returned (.tuple #[.int .u32 ((x+y+c) % BB:Nat),.int .u64 ((x+y+c) / BB:Nat)])∧w=w';obtain⟨f,g⟩:=Z2 (show((x:Int)+y+c) % 4294967296=(((x+y+c) % BB:Nat):Int) by rw[Jd];omega) (show((x:Int)+y+c) / 4294967296=(((x+y+c) / BB:Nat):Int) by rw[Jd];omega);clear b d;go_enter Tryz.func250,Tryz.ntmps250;go_wp2;go_ret2;exact⟨by rw[← f.o,← g.o];rfl,rfl⟩
theorem U5 {x y c:Nat}(d:x < 4294967296)(f:y < 4294967296)(b:c≤1)(h:x < y+c):
  IntKind.u64.wrap (IntKind.u64.wrap ((x:Int) - y) - c) % 4294967296=(((BB+x - y - c) % BB:Nat):Int)∧IntKind.u64.wrap (IntKind.u64.wrap ((x:Int) - y) - c) / 9223372036854775808=((1:Nat):Int):=by
 simp only[IntKind.wrap_u64,Jd];omega
theorem U4 {x y c:Nat}(d:x < 4294967296)(f:y < 4294967296)(b:c≤1)(h:¬ x < y+c):
  ((x:Int) - y - c)=(((BB+x - y - c) % BB:Nat):Int)∧((x:Int) - y - c) / 9223372036854775808=((0:Nat):Int):=by
 simp only[Jd];omega
theorem J4j:So 284 (fun x y c=>(BB+x - y - c) % BB) (fun x y c=>if x < y+c then 1 else 0):=by
 intro w x y c b d f;refine⟨Nat.mod_lt _ Jt,(by show(if x < y+c then 1 else 0)≤1;split<;>omega),?_⟩;show Calls _ _ _ _ fun e w'=>e = .returned (.tuple #[.int .u32 ((BB+x - y - c) % BB:Nat),.int .u64 ((if x < y+c then 1 else 0:Nat):Int)])∧w=w';rw[Jd] at b d;by_cases h:x < y+c
 ·rw[if_pos h];go_enter Tryz.func284,Tryz.ntmps284;go_wp2;go_ret2;exact⟨by rw[← (U5 b d f h).1,← (U5 b d f h).2];rfl,rfl⟩
 ·rw[if_neg h];go_enter Tryz.func284,Tryz.ntmps284;go_wp2;go_ret2;exact⟨by rw[← (U4 b d f h).1,← (U4 b d f h).2];rfl,rfl⟩
theorem J6s:2≤BB:=by rw[Jd];omega
theorem Un (m:Nat):BB ^ m * 2≤BB ^ (m+1):=by rw[Nat.pow_succ];exact Nat.mul_le_mul_left _ J6s
theorem J21 {A B L X Y c:Nat}(g:X * 2≤Y)(d:A < X)(f:B < X)(i:c≤1)(h:L+Y * c=A+B):L=A+B:=by
 rcases Nat.eq_zero_or_pos c with b|b
 ·subst b;simpa using h
 ·have:c=1:=by omega
  subst this;omega
theorem J20 {b lb l:List Nat}{m c:Nat}(g:Dig b)(i:Dig lb)(d:b.length≤m)(f:lb.length≤m)(j:c≤1)
  (h:nval l+BB ^ (m+1) * c=nval (b.take (m+1))+nval (lb.take (m+1))):nval l=nval b+nval lb:=by
 rw[List.take_of_length_le (Nat.le_succ_of_le d),List.take_of_length_le (Nat.le_succ_of_le f)] at h;exact J21 (Un m) (Nat.lt_of_lt_of_le (Ln b g) (Nat.pow_le_pow_right Jt d)) (Nat.lt_of_lt_of_le (Ln lb i) (Nat.pow_le_pow_right Jt f)) j h
theorem Qg (w:World)(m n:Value)(b lb:List Nat)(d:NatL w m b)(f:NatL w n lb)(x:b.length≤17592186044416)(y:lb.length≤17592186044416):
  Calls Tryz.prog 204 #[m,n] w (Ret w fun r w'=>NatL w' r (digs (nval b+nval lb))):=by
 have H:=Z (Zw w m n b lb d f x y 250 (.inl rfl) _ _ J4d (fun k l c=>nval l+BB ^ k * c=nval (b.take k)+nval (lb.take k)) (by simp[nval])
  (fun k l c h j i=>Vz j h (by omega)))
 obtain⟨s,t⟩:=Z2 d f;clear d f;go_enter Tryz.func204,Tryz.ntmps204;go_wp2_with fail;refine H.o.mono ?_;rintro _ z ⟨r,rfl,g,l,c,p,j,v,i,q⟩;have u:=Z (show NatL z r (digs (nval b+nval lb)) by
  rw[← J20 s.o.dig t.o.dig (Nat.le_max_left _ _) (Nat.le_max_right _ _) i p];exact q)
 clear q p j v i;go_wp2_with fail;go_ret;exact⟨_,rfl,g,u.o⟩
theorem J6k {b lb l:List Nat}{k c:Nat}(f:Dig lb)(d:Dig b)(g:l.length=k)(h:nval l+nval (lb.take k)=nval (b.take k)+BB ^ k * c)(j:c≤1):
  nval (l ++ [(BB+gd b k - gd lb k - c) % BB])+nval (lb.take (k+1))=nval (b.take (k+1))+BB ^ (k+1) * (if gd b k < gd lb k+c then 1 else 0):=by
 have g1:=f.gd k;have i:=d.gd k;have:=U7 (x:=BB+gd b k - gd lb k - c) g h (by omega) (by rw[Jd] at *;omega);rw[this];congr 2
 split
 ·rw[Nat.div_eq_of_lt (by omega)]
 ·rw[show(BB+gd b k - gd lb k - c) / BB=1 from by rw[Jd] at *;omega]
theorem J6j {b lb l:List Nat}{m c:Nat}(j:Dig b)(k:Dig lb)(g:Dig l)(i:l.length=m+1)(q:b.length≤m)(r:lb.length≤m)(n:c≤1)
  (h:nval l+nval (lb.take (m+1))=nval (b.take (m+1))+BB ^ (m+1) * c) (p:nval lb≤nval b):nval l=nval b - nval lb:=by
 rw[List.take_of_length_le (by omega),List.take_of_length_le (by omega)] at h;have f:=Ln l g;rw[i] at f;generalize BB ^ (m+1)=X at *;rcases Nat.eq_zero_or_pos c with d|d
 ·subst d;rw[Nat.mul_zero] at h;omega
 ·have:c=1:=by omega
  subst this;rw[Nat.mul_one] at h;omega
theorem Zu (w:World)(m n:Value)(b lb:List Nat)(d:NatL w m b)(f:NatL w n lb)(A:b.length≤17592186044416)(B:lb.length≤17592186044416)(u:nval lb≤nval b):
  Calls Tryz.prog 246 #[m,n] w (Ret w fun r w'=>∃ x,r = .tuple #[x,.int .i64 0]∧NatL w' x (digs (nval b - nval lb))):=by
 have H:=Z (Zw w m n b lb d f A B 284 (.inr rfl) _ _ J4j (fun k l c=>nval l+nval (lb.take k)=nval (b.take k)+BB ^ k * c) (by simp[nval])
  (fun k l c h j i=>J6k f.dig d.dig j h i))
 obtain⟨p,q⟩:=Z2 d f;have D:¬ cmpZ (nval b) (nval lb) < 0:=by rw[Nw];omega
 have y:=Z u;clear d f u;go_enter Tryz.func246,Tryz.ntmps246;go_wp2_with fail;refine(Or _ m n b lb p.o q.o (by omega) (by omega)).mono ?_;rintro _ _ ⟨rfl,rfl⟩;go_wp2_with fail;refine H.o.mono ?_;rintro _ C ⟨r,rfl,g,l,c,t,j,s,i,v⟩;have z:=Z (show NatL C r (digs (nval b - nval lb)) by
  rw[← J6j p.o.dig q.o.dig s j (Nat.le_max_left _ _) (Nat.le_max_right _ _) i t y.o];exact v)
 clear v t j s i;go_wp2_with fail;go_ret2;exact⟨_,rfl,g,_,rfl,z.o⟩
theorem Zr (w:World)(v:Value)(l:List Nat)(h:NatL w v l)(t:l.length≤17592186044416):
  Calls Tryz.prog 268 #[v] w (Ret w fun r w'=>NatL w' r l):=by
 have g:=Z h;have y:=fun(w:World) (a:Option Addr) (n c:Nat)=>Lib.run_eql_slice_nil (P:=Tryz.prog) w 64 153 a n c 0 0 (by kernel_rfl);obtain⟨j,p,c,rfl,k,x,d⟩:=h;rcases p with _|a
 ·have m:c=0:=by
   rcases d with d|⟨b,o,d,-⟩
   ·exact d
   ·cases d
  subst m;have s:l=[]:=List.eq_nil_of_length_eq_zero (by omega);subst s;go_enter Tryz.func268,Tryz.ntmps268;go_wp2_with fail;go_ret;exact⟨_,rfl,Gr.refl _,NatL.nil _⟩
 ·obtain⟨n,f⟩:∃ n,l.length=n:=⟨_,rfl⟩
  rw[f] at g k t ⊢;have i:=Z f;clear f j d;go_enter Tryz.func268,Tryz.ntmps268;go_wp2_with (at_builtin;go_must (refine Mv rfl _ _ 64 rfl (by kernel_rfl) w.heap.size _ (.slice (some a) n c) [] l rfl (OwnN.made0 w _ (Nat.le_refl _)) rfl (g.o.grow ((Gr.refl w).alloc _)) (by rw[i.o];simp;omega) (by simp) ?_;intro A w' u q z));go_ret;exact⟨_,rfl,((Gr.refl _).alloc _).own q,u.read⟩
theorem Rl (w:World)(v:Value)(l:List Nat)(h:NatL w v l)(k:l.length≤17592186044416):
  Calls Tryz.prog 226 #[v] w (Ret w fun r w'=>NatL w' r (digs (nval l))):=by
 obtain⟨d,f⟩:=Z2 h (L5 l h.dig);clear h;go_enter Tryz.func226,Tryz.ntmps226;go_wp2_with fail;refine(L3 _ _ l d.o).mono ?_;rintro _ _ ⟨⟨r,m,rfl,b⟩,rfl⟩;have i:=Z b;clear b;go_wp2_with fail;refine(Zr _ _ _ i.o (Nat.le_trans f.o k)).mono ?_;rintro _ p ⟨n,rfl,g,c⟩;have j:=Z c;clear c;go_wp2_with fail;go_ret;exact⟨_,rfl,g,j.o⟩
end Go.Proofs.YtcjgimlcefhhmaaGreatDoor

/- Texts: Own Leaf LeafB LeafC. -/
import Derived.Test.YtcjgimlcefhhmaaGreatDoorProg
import Derived.OwnWalk
import Derived.Test.YtcjgimlcefhhmaaGreatDoorU1
import Derived.Test.YtcjgimlcefhhmaaGreatDoorU2
set_option linter.unusedVariables false
set_option linter.unusedSimpArgs false
set_option maxRecDepth 100000
set_option maxHeartbeats 12800000
namespace Go.Proofs.YtcjgimlcefhhmaaGreatDoor
open Go.RowKit
def NatL (w:World)(v:Value)(l:List Nat):Prop:=
 Dig l∧∃ p c,v = .slice p l.length c∧l.length≤c∧c≤9223372036854775807∧
  (c=0∨∃ b o,p=some ⟨b,o,none⟩∧∀ i,i < l.length→w.cell? ⟨b,o+i,none⟩=some (.int .u32 (gd l i)))
theorem NatL.dig {w:World}{v:Value}{l:List Nat}(h:NatL w v l):Dig l:=h.1
theorem NatL.grow {w w':World}{v:Value}{l:List Nat}(h:NatL w v l)(g:Gr w w'):NatL w' v l:=by
 obtain⟨h0,p,c,hv,h1,h2,h3⟩:=h
 refine⟨h0,p,c,hv,h1,h2,?_⟩
 rcases h3 with h3|⟨b,o,hp,hc⟩
 ·exact .inl h3
 ·exact .inr ⟨b,o,hp,fun i hi=>g.cell (hc i hi)⟩
theorem Qd (b o i:Nat):(⟨b,o,none⟩:Addr).add i=⟨b,o+i,none⟩:=by
 cases i<;>simp[Addr.add]
theorem NatL.at {w:World}{p:Option Addr}{n c:Nat}{l:List Nat}(h:NatL w (.slice p n c) l)(i:Nat)(hi:i < l.length):
  ∃ b o,p=some ⟨b,o,none⟩∧w.cell? ⟨b,o+i,none⟩=some (.int .u32 (gd l i)):=by
 obtain⟨h0,p',c',hv,h1,h2,h3⟩:=h
 cases hv
 rcases h3 with h3|⟨b,o,hp,hc⟩
 ·omega
 ·exact⟨b,o,hp,hc i hi⟩
theorem NatL.len {w:World}{p:Option Addr}{n c:Nat}{l:List Nat}(h:NatL w (.slice p n c) l):l.length=n:=by
 obtain⟨h0,p',c',hv,h1,h2,h3⟩:=h
 cases hv;rfl
theorem NatL.parts {w:World}{v:Value}{l:List Nat}(h:NatL w v l):∃ p c,v = .slice p l.length c∧l.length≤c∧c≤9223372036854775807∧Dig l:=by
 obtain⟨h0,p,c,hv,h1,h2,-⟩:=h
 exact⟨p,c,hv,h1,h2,h0⟩
theorem NatL.one (w:World)(e:Int)(x:Nat)(he:e=x)(hx:x < BB)(t:TypeId):NatL (w.alloc (.cells #[.int .u32 e] t)) (.slice (some ⟨w.heap.size,0,none⟩) 1 1) [x]:=by
 subst he
 refine⟨Dig.cons hx Dig.nil,_,1,rfl,by simp,by omega,.inr ⟨w.heap.size,0,rfl,fun i hi=>?_⟩⟩
 have:i=0:=by simpa using hi
 subst this
 simp[go_sem,gd]
theorem NatL.nil (w:World):NatL w (.slice none 0 0) []:=⟨Dig.nil,none,0,rfl,by simp,by omega,.inl rfl⟩
theorem NatL.take {w:World}{p:Option Addr}{n c:Nat}{l:List Nat}(h:NatL w (.slice p n c) l)(k k':Nat)(hk:k≤l.length)(hk':k≤k')(hc:k'≤c):
  NatL w (.slice p k k') (l.take k):=by
 obtain⟨h0,p',c',hv,h1,h2,h3⟩:=h
 cases hv
 have hl:(l.take k).length=k:=by rw[List.length_take];omega
 refine⟨h0.take k,p,k',by rw[hl],by omega,by omega,?_⟩
 rcases h3 with h3|⟨b,o,hp,hcell⟩
 ·exact .inl (by omega)
 ·refine .inr ⟨b,o,hp,fun i hi=>?_⟩
  rw[hl] at hi
  rw[hcell i (by omega),show gd (l.take k) i=gd l i from by unfold gd;rw[List.getD_eq_getElem?_getD,List.getD_eq_getElem?_getD,List.getElem?_take_of_lt hi]]
def cellsN (l:List Nat):List Value:=l.map fun(d:Nat)=>Value.int .u32 (d:Int)
theorem R1 (l:List Nat):(cellsN l).length=l.length:=by simp[cellsN]
theorem J1V (l:List Nat):∀ u ∈ cellsN l,u.oneCell'=true:=by
 intro u hu
 obtain⟨d,_,rfl⟩:=List.mem_map.1 hu
 rfl
theorem Qf {l:List Nat}{i:Nat}(h:i < l.length):(cellsN l)[i]?=some (.int .u32 (gd l i)):=by
 unfold cellsN
 rw[List.getElem?_map,List.getElem?_eq_getElem h,Mz h];rfl
theorem J1U (l m:List Nat):cellsN (l ++ m)=cellsN l ++ cellsN m:=by simp[cellsN]
def OwnN (w:World)(base:Nat)(v:Value)(l:List Nat):Prop:=w.ownsRow base 153 1 v l.length (cellsN l)∧Dig l
theorem OwnN.nil (w:World)(base:Nat):OwnN w base (.slice none 0 0) []:=⟨World.ownsRow_nil w base _ 1,Dig.nil⟩
theorem OwnN.read {w:World}{base:Nat}{v:Value}{l:List Nat}(h:OwnN w base v l):NatL w v l:=by
 obtain⟨⟨h1,h2⟩,hd⟩:=h
 rcases h2 with⟨rfl,h2⟩|⟨g,cap,cur,rfl,hb,hh,hn,hm,hs,ht⟩
 ·have:l=[]:=List.eq_nil_of_length_eq_zero h2
  subst this
  exact NatL.nil w
 ·refine⟨hd,_,cap,rfl,hn,by simpa[maxLen] using hm,.inr ⟨g,0,rfl,fun i hi=>?_⟩⟩
  have h3:(cellsN l)[i]?=some (.int .u32 (gd l i)):=Qf hi
  have h4:=World.ownsRow.cells (w:=w) (base:=base) (e:=153) (size:=1) (v:=.slice (some ⟨g,0,none⟩) l.length cap) (n:=l.length) (xs:=cellsN l)
   ⟨h1,.inr ⟨g,cap,cur,rfl,hb,hh,hn,hm,hs,ht⟩⟩ (g:=g) rfl i _ h3
  rw[Qd] at h4;simpa using h4
theorem OwnN.made0 (w:World)(base:Nat)(hb:base≤w.heap.size):OwnN (w.alloc (.cells #[] 153)) base (.slice (some ⟨w.heap.size,0,none⟩) 0 0) []:=
 ⟨World.ownsRow_made w #[] 0 hb (by simp[maxLen]) (by simp),Dig.nil⟩
theorem OwnN.grow {w w':World}{base:Nat}{v:Value}{l:List Nat}(h:OwnN w base v l)(g:Gr w w'):OwnN w' base v l:=by
 refine⟨h.1.kept (row:=none) ⟨g.os,g.tape,g.output,g.size,fun k hk _=>Below.block g k hk⟩ ?_,h.2⟩
 cases v.ownBlock<;>simp
theorem OwnN.lt {w:World}{base:Nat}{v:Value}{l:List Nat}(h:OwnN w base v l):∀ k,v.ownBlock=some k→base≤k∧k < w.heap.size:=h.1.lt
def Own (base:Nat)(w w':World):Prop:=Below base w w'
theorem Own.refl (base:Nat)(w:World):Own base w w:=Below.refl _ _
theorem Own.trans {base:Nat}{a b c:World}(h:Own base a b)(k:Own base b c):Own base a c:=Below.trans h k
theorem Own.drewN (base:Nat)(w:World)(n:Nat):Own base w (w.drewN n):=⟨rfl,rfl,rfl,Nat.le_refl _,fun _ _=>rfl⟩
theorem Own.of_gr {base:Nat}{w w':World}(h:Gr w w')(hb:base≤w.heap.size):Own base w w':=Below.mono h hb
theorem Own.gr {w w':World}(h:Own w.heap.size w w'):Gr w w':=h
theorem Own.size {base:Nat}{w w':World}(h:Own base w w'):w.heap.size≤w'.heap.size:=Below.size h
theorem Own.grown {base:Nat}{w w':World}{row:Option Nat}(hg:w.grownBy w' row)(hb:base≤w.heap.size)(hr:∀ k,row=some k→base≤k):Own base w w':=
 Below.grown (Below.refl _ _) hg hb hr
theorem Gr.own {w w0 w':World}(h:Gr w w0)(g:Own w.heap.size w0 w'):Gr w w':=Below.trans h g
theorem NatL.own {base:Nat}{w0 w':World}{v:Value}{l:List Nat}(h:NatL w0 v l)(hb:base=w0.heap.size)(g:Own base w0 w'):NatL w' v l:=by
 subst hb;exact h.grow g
theorem X9:(Tryz.prog.info? 153).map (fun i=>(i.zero,i.size,i.bytes))=some (some (.int .u32 0),1,4):=by kernel_rfl
section
variable {P:Program}{ops:Array Oper}{rest:List Oper}{o:Oper}{a:Act}{Q:Exit→Act→World→Prop}{w:World}
theorem L9 (hgd:o.guard=none)(s x:Operand)(t:TypeId)(ho:o.op = .call { callee:=.builtin .append,args:=#[s,x],argTypes:=#[t,t] })
  (ht:Tryz.prog.underlying t=some (.slice 153)) (base:Nat) (v vx:Value) (l m:List Nat) (hs:a.eval s=v) (hown:OwnN w base v l) (hx:a.eval x=vx) (hm:NatL w vx m)
  (hlen:l.length+m.length≤35184372088832) (hbase:base≤w.heap.size)
  (h:∀ v' w',OwnN w' base v' (l ++ m)→Own base w w'→base≤w'.heap.size→wpList Tryz.prog ops Q rest (a.put o.dst v') w'):wpList Tryz.prog ops Q (o :: rest) a w:=by
 obtain⟨i0,hi,hz0,hz1,hz2⟩:=info_parts X9
 obtain⟨hd,p,c,rfl,h1,h2,h3⟩:=hm
 have hrow:∀ k,v.ownBlock=some k→base≤k:=fun k hk=>(hown.lt k hk).1
 rcases h3 with rfl|⟨b,off,rfl,hc⟩
 ·have hm0:m=[]:=List.eq_nil_of_length_eq_zero (by omega)
  subst hm0
  have h':=h v w (by simpa using hown) (Own.refl _ _) hbase
  refine wpList_plain hgd (fun K hK=>?_)
  have hr:(Builtin.append_ #[t,t] o.type #[v,.slice p 0 0]).run Tryz.prog w = .ok v w:=by
   rcases p with _|p<;>rcases hown.1.2 with⟨rfl,_⟩|⟨g,cap,cur,rfl,_,hh,hn,_⟩
   all_goals first
    | (have hn':l.length≤cap:=hn
       simp[Builtin.append_,run_underlying ht,sizeOf,typeInfo,hi,Builtin.lenOf,Builtin.firstCells,loadCells,loadCellsFrom,hn',storeCells])
    | simp[Builtin.append_,run_underlying ht,sizeOf,typeInfo,hi,Builtin.lenOf,Builtin.firstCells,loadCells,loadCellsFrom]
  unfold Oper.wp execOp
  simp only[ho,resolve,invoke,builtin,Sem.run_bind,Sem.run_pure,Result.andThen_ok,List.map_toArray,List.map_cons,List.map_nil,hs,hx,List.length_nil,hr]
  exact hK _ _ h'
 ·refine wpList_append_own _ hgd s x t ho base 153 i0 (.int .u32 0) 1 4 ht hi hz0 hz1 hz2 rfl (by omega) v l.length (cellsN l) hs hown.1 ⟨b,off,none⟩ m.length c (cellsN m) hx
   (by rw[R1];omega) (fun j u hu=>?_) (J1V m) (by unfold maxLen;omega) (by omega) hbase (fun v' w' hown' hg _=>?_)
  ·have hj:j < m.length:=by
    have:=(List.getElem?_eq_some_iff.1 hu).1
    rwa [R1] at this
   rw[Qf hj] at hu
   have:=hc j hj
   simp only[Option.some.injEq] at hu
   subst hu
   rw[Qd];exact this
  ·refine h v' w' ⟨?_,hown.2.append hd⟩ (Own.grown hg hbase hrow) (Nat.le_trans hbase hg.size)
   rw[J1U,List.length_append]
   exact hown'
end
def RowN (w:World)(g:Nat)(l:List Nat):Prop:=w.heap[g]?=some (.cells (cellsN l).toArray 153 (0,0))∧Dig l
theorem RowN.dig {w:World}{g:Nat}{l:List Nat}(h:RowN w g l):Dig l:=h.2
theorem RowN.cell {w:World}{g:Nat}{l:List Nat}(h:RowN w g l){i:Nat}(hi:i < l.length):w.cell? ⟨g,i,none⟩=some (.int .u32 (gd l i)):=by
 simp[World.cell?,h.1,Qf hi]
theorem RowN.free {w:World}{g:Nat}{l:List Nat}(h:RowN w g l)(i:Nat):w.frozen? ⟨g,i,none⟩=false:=by
 simp[World.frozen?,h.1]
theorem RowN.lt {w:World}{g:Nat}{l:List Nat}(h:RowN w g l):g < w.heap.size:=by
 rcases Nat.lt_or_ge g w.heap.size with h'|h'
 ·exact h'
 ·have:=h.1;rw[Array.getElem?_eq_none h'] at this;cases this
theorem RowN.grow {w w':World}{g:Nat}{l:List Nat}(h:RowN w g l)(gr:Gr w w'):RowN w' g l:=
 ⟨by rw[Below.block gr g h.lt];exact h.1,h.2⟩
theorem RowN.read {w:World}{g:Nat}{l:List Nat}(h:RowN w g l)(c:Nat)(hc:l.length≤c)(hm:c≤9223372036854775807):NatL w (.slice (some ⟨g,0,none⟩) l.length c) l:=
 ⟨h.2,_,c,rfl,hc,hm,.inr ⟨g,0,rfl,fun i hi=>by rw[Nat.zero_add];exact h.cell hi⟩⟩
theorem RowN.set {w:World}{g:Nat}{l:List Nat}(h:RowN w g l)(i x:Nat)(e:Int)(he:e=x)(hx:x < BB):RowN (w.setCell ⟨g,i,none⟩ (.int .u32 e)) g (l.set i x):=by
 subst he
 refine⟨?_,h.2.set i x hx⟩
 simp only[World.setCell,Array.getElem?_modify,h.1,if_true,Option.map_some]
 simp[cellsN,List.map_set]
theorem Own.setCell {base:Nat}(w:World){g:Nat}(hg:base≤g)(i:Nat)(v:Value):Own base w (w.setCell ⟨g,i,none⟩ v):=
 Below.setCell (Below.refl _ _) hg v
section
variable {ops:Array Oper}{rest:List Oper}{o:Oper}{a:Act}{Q:Exit→Act→World→Prop}{w:World}
theorem P6 (hgd:o.guard=none)(x y:Operand)(t:TypeId)(ho:o.op = .makeSlice t x y)(ht:Tryz.prog.underlying t=some (.slice 153))(n:Nat)(e:Int)(hx:a.eval x = .int .i64 e)(hy:a.eval y = .int .i64 e)(he:e=n)
  (hn:n≤35184372088832) (h:∀ w',RowN w' w.heap.size (List.replicate n 0)→Gr w w'→w.heap.size < w'.heap.size→wpList Tryz.prog ops Q rest (a.put o.dst (.slice (some ⟨w.heap.size,0,none⟩) n n)) w'):wpList Tryz.prog ops Q (o :: rest) a w:=by
 subst he
 obtain⟨i0,hi,hz0,hz1,hz2⟩:=info_parts X9
 refine wpList_plain hgd (fun K hK=>?_)
 have hr:=run_make (P:=Tryz.prog) w t 153 i0 (.int .u32 0) ht hi hz0 .i64 .i64 n n (by omega) (by omega) (by rw[hz2];omega) (by omega)
 unfold Oper.wp execOp
 simp only[ho,hx,hy,Sem.run_bind,Sem.run_pure,Result.andThen_ok,hr,Oper.upon,Int.toNat_natCast]
 refine hK _ _ (h _ ⟨?_,?_⟩ ((Gr.refl w).alloc _) (by simp))
 ·rw[hz1,Nat.mul_one]
  have e:madeCells (Value.int .u32 0).cells n=(cellsN (List.replicate n 0)).toArray:=by
   apply Array.ext'
   simp[madeCells,cellsN,Value.cells,Nat.mod_one]
   refine List.ext_getElem (by simp) (fun j h1 h2=>by simp)
  rw[e]
  exact heap_alloc_new w _
 ·intro d hd
  rw[(List.mem_replicate.1 hd).2];exact Jt
end
def Jl (g:Nat)(w w':World):Prop:=w.grownBy w' (some g)
theorem Jl.refl (g:Nat)(w:World):Jl g w w:=⟨rfl,rfl,rfl,Nat.le_refl _,fun _ _ _=>rfl⟩
theorem Jl.trans {g:Nat}{a b c:World}(h:Jl g a b)(k:Jl g b c):Jl g a c:=
 ⟨k.os.trans h.os,k.tape.trans h.tape,k.output.trans h.output,Nat.le_trans h.size k.size,fun i hi hn=>(k.block i (Nat.lt_of_lt_of_le hi h.size) hn).trans (h.block i hi hn)⟩
theorem Jl.set (g:Nat)(w:World)(i:Nat)(v:Value):Jl g w (w.setCell ⟨g,i,none⟩ v):=
 ⟨rfl,rfl,rfl,by simp[World.setCell],fun k _ hk=>Below.heap_setCell _ _ _ _ (fun e=>hk (by rw[e]))⟩
theorem Jl.drewN (g:Nat)(w:World)(n:Nat):Jl g w (w.drewN n):=⟨rfl,rfl,rfl,Nat.le_refl _,fun _ _ _=>rfl⟩
theorem Jl.of_gr {g:Nat}{w w':World}(h:Gr w w'):Jl g w w':=⟨h.os,h.tape,h.output,h.size,fun k hk _=>Below.block h k hk⟩
theorem Jl.own {g base:Nat}{w w':World}(h:Jl g w w')(hb:base≤w.heap.size)(hg:base≤g):Own base w w':=
 Own.grown h hb (fun k hk=>by cases hk;exact hg)
def M7 (g:Nat)(v:Value):Prop:=∀ b o n c,v = .slice (some ⟨b,o,none⟩) n c→b≠g
theorem NatL.keep {g:Nat}{w w':World}{v:Value}{l:List Nat}(h:NatL w v l)(hn:M7 g v)(ho:Jl g w w'):NatL w' v l:=by
 obtain⟨h0,p,c,rfl,h1,h2,h3⟩:=h
 refine⟨h0,p,c,rfl,h1,h2,?_⟩
 rcases h3 with h3|⟨b,o,rfl,hc⟩
 ·exact .inl h3
 ·refine .inr ⟨b,o,rfl,fun i hi=>?_⟩
  have hne:=hn b o _ _ rfl
  rw[World.cell?_of_block (w:=w) (w':=w') (a:=⟨b,o+i,none⟩) (ho.block b (World.block_lt_of_cell? w _ (hc i hi)) (fun e=>hne (by cases e;rfl)))]
  exact hc i hi
theorem RowN.keep {g g':Nat}{w w':World}{l:List Nat}(h:RowN w g l)(hn:g≠g')(ho:Jl g' w w'):RowN w' g l:=
 ⟨by rw[ho.block g h.lt (fun e=>hn (by cases e;rfl))];exact h.1,h.2⟩
theorem J0l {k:IntKind}{a b:Int}(h:a=b):Ending.returned (.int k a) = .returned (.int k b):=by rw[h]
theorem Ov (w:World)(v:Value)(l:List Nat)(i:Nat)(h:NatL w v l)(hi:i≤140737488351232):
  Calls Tryz.prog 158 #[v,.int .i64 i] w fun e w'=>e = .returned (.int .u64 (gd l i))∧w=w':=by
 obtain⟨h0,p,c,rfl,h1,h2,h3⟩:=h
 have hd:=h0.gd i
 rw[Jc] at hd
 by_cases hlt:i < l.length
 ·rcases h3 with⟨_,h3⟩|⟨b,o,rfl,hc⟩
  ·omega
  have hc':=hc i hlt
  clear hc
  go_enter Tryz.func158,Tryz.ntmps158
  go_wp2
  go_ret
  exact⟨rfl,rfl⟩
 ·have h4:gd l i=0:=Pm (Nat.le_of_not_lt hlt)
  rw[h4]
  clear h3 h4
  go_enter Tryz.func158,Tryz.ntmps158
  go_wp2
  go_ret
  exact⟨rfl,rfl⟩
theorem L4 (w:World)(v:Value)(l:List Nat)(i:Nat)(h:NatL w v l)(hi:i≤140737488351232):
  Calls Tryz.prog 225 #[v,.int .i64 i] w fun e w'=>e = .returned (.int .u64 (gd l i))∧w=w':=by
 obtain⟨h0,p,c,rfl,h1,h2,h3⟩:=h
 have hd:=h0.gd i
 rw[Jc] at hd
 by_cases hlt:i < l.length
 ·rcases h3 with⟨_,h3⟩|⟨b,o,rfl,hc⟩
  ·omega
  have hc':=hc i hlt
  clear hc
  go_enter Tryz.func225,Tryz.ntmps225
  go_wp2
  go_ret
  exact⟨rfl,rfl⟩
 ·have h4:gd l i=0:=Pm (Nat.le_of_not_lt hlt)
  rw[h4]
  clear h3 h4
  go_enter Tryz.func225,Tryz.ntmps225
  go_wp2
  go_ret
  exact⟨rfl,rfl⟩
theorem J5G (w:World)(va vb:Value)(la lb:List Nat)(ha:NatL w va la)(hb:NatL w vb lb):
  Calls Tryz.prog 214 #[va,vb] w (Ret w fun r _=>r = .bool (decide (la=lb))):=by
 have HA:=ξ ha
 have HB:=ξ hb
 obtain⟨h0,p,c,rfl,h1,h2,-⟩:=ha
 obtain⟨k0,q,d,rfl,k1,k2,-⟩:=hb
 by_cases hn:la.length=lb.length
 ·have Hn:=ξ hn
  obtain⟨n,hn1⟩:∃ n,la.length=n:=⟨_,rfl⟩
  rw[← hn,hn1]
  rw[hn1] at h1
  have Hn1:=ξ hn1
  clear hn hn1 h0 k0
  go_enter Tryz.func214,Tryz.ntmps214
  go_wp2
  go_loopw [5] (fun i w1=>∃ k:Nat,k≤n∧i = .int .i64 k∧la.take k=lb.take k∧Gr w w1) (fun i _=>n - (intOf i).toNat)
  case atStart=>exact⟨0,Nat.zero_le _,rfl,by simp,Gr.refl w⟩
  case round=>
   obtain⟨k,hk,rfl,hp,hg⟩:=hrel
   have Hp:=ξ hp;clear hp
   by_cases hlt:k < n
   ·have Hka:=ξ (show k < la.length by rw[Hn1.out];exact hlt)
    have Hkb:=ξ (show k < lb.length by rw[← Hn.out,Hn1.out];exact hlt)
    obtain⟨b,o,rfl,c1⟩:=(HA.out.grow hg).at k Hka.out
    obtain⟨b',o',rfl,c2⟩:=(HB.out.grow hg).at k Hkb.out
    have Hg:=ξ hg;clear hg
    go_wp2
    go_quiet (fail)
    go_wp2
    ·go_ret
     rename_i ht
     refine⟨_,rfl,Hg.out.drewN nq,?_⟩
     have h2:¬ la=lb:=fun e=>by rw[e] at ht;simp at ht
     simp[h2]
    ·rename_i ht
     go_roundw
     case rel=>
      refine⟨k+1,by omega,by go_num,?_,Hg.out.drewN nq⟩
      rw[J6f Hka.out Hkb.out Hp.out]
      have h3:(gd la k:Int)=gd lb k:=by simpa using ht
      omega
     case measure=>simp[intOf];omega
   ·go_wp2
    go_ret
    refine⟨_,rfl,hg,?_⟩
    obtain rfl:k=n:=by omega
    have h1:=Hp.out
    have h2:la=lb:=by
     rw[List.take_of_length_le (by rw[Hn1.out];omega),List.take_of_length_le (by rw[← Hn.out,Hn1.out];omega)] at h1
     exact h1
    simp[h2]
 ·go_enter Tryz.func214,Tryz.ntmps214
  go_wp2
  go_ret
  refine⟨_,rfl,Gr.refl w,?_⟩
  have h2:¬ la=lb:=fun e=>hn (by rw[e])
  simp[h2]
theorem Up {l:List Nat}{k:Nat}(hk:k < l.length)(h:trimL (l.take (k+1))=trimL l)(h0:gd l k=0):trimL (l.take k)=trimL l:=by
 rw[← h,List.take_succ_eq_append_getElem hk,← Mz hk,h0,J0Q]
theorem Un {l:List Nat}{k:Nat}(hd:Dig l)(hk:k < l.length)(h:trimL (l.take (k+1))=trimL l)(h0:gd l k≠0):l.take (k+1)=trimL l:=by
 rw[← h,List.take_succ_eq_append_getElem hk,← Mz hk,J0P _ _ (hd.take k) (hd.gd k) h0]
theorem Uo {l:List Nat}(h:trimL (l.take 0)=trimL l):l.take 0=trimL l:=by
 rw[← h];simp[trimL,nval,Kk]
theorem K7 (l:List Nat):trimL l=digs (nval l):=rfl
theorem Li (w:World)(v:Value)(l:List Nat)(h:NatL w v l)(hlen:l.length≤35184372088832):
  Calls Tryz.prog 157 #[v] w (Ret w fun r w'=>NatL w' r (trimL l)):=by
 have HA:=ξ h
 obtain⟨h0,p,c,rfl,h1,h2,-⟩:=h
 have H0:=ξ h0
 obtain⟨n,hn⟩:∃ n,l.length=n:=⟨_,rfl⟩
 have Hn:=ξ hn
 rw[hn] at h1 hlen ⊢
 rw[hn] at HA
 clear hn h0
 go_enter Tryz.func157,Tryz.ntmps157
 go_wp2
 go_loopw [3] (fun i w1=>∃ k:Nat,k≤n∧i = .int .i64 k∧trimL (l.take k)=trimL l∧w1=w) (fun i _=>(intOf i).toNat)
 case atStart=>exact⟨n,Nat.le_refl _,rfl,by rw[List.take_of_length_le (by rw[Hn.out];exact Nat.le_refl _)],rfl⟩
 case round=>
  obtain⟨k,hk,rfl,hp,rfl⟩:=hrel
  have Hp:=ξ hp;clear hp
  have hbase:wr.heap.size≤(wr.alloc (.cells #[] 153)).heap.size:=by simp
  by_cases hk0:k=0
  ·obtain rfl:=hk0
   have ht:=ξ (Uo Hp.out)
   go_wp2_with (at_builtin;refine L9 rfl _ _ 64 rfl (by kernel_rfl) wr.heap.size _ (.slice p 0 c) [] (l.take 0) rfl (OwnN.made0 wr _ (Nat.le_refl _)) rfl ((HA.out.take 0 c (by omega) (by omega) (Nat.le_refl _)).grow ((Gr.refl wr).alloc _)) (by simp) hbase ?_;intro v' w' hown' hgrow hb')
   go_ret
   refine⟨_,rfl,((Gr.refl _).alloc _).own hgrow,?_⟩
   rw[← ht.out];exact hown'.read
  ·obtain⟨j,rfl⟩:∃ j,k=j+1:=⟨k - 1,by omega⟩
   obtain⟨b,o,rfl,hc⟩:=HA.out.at j (by rw[Hn.out];omega)
   by_cases hd:gd l j=0
   ·have e0:((gd l j:Int) == 0)=true:=by rw[hd];rfl
    have Hd:=ξ hd;clear hd
    go_wp2
    go_roundw
    case rel=>
     exact⟨j,by omega,rfl,Up (by rw[Hn.out];omega) Hp.out Hd.out,trivial⟩
    case measure=>simp[intOf]
   ·have e0:((gd l j:Int) == 0)=false:=by simpa using hd
    have Hd:=ξ hd;clear hd
    go_wp2_with (at_builtin;refine L9 rfl _ _ 64 rfl (by kernel_rfl) wr.heap.size _ (.slice _ (j+1) c) [] (l.take (j+1)) rfl (OwnN.made0 wr _ (Nat.le_refl _)) rfl ((HA.out.take (j+1) c (by rw[Hn.out];omega) (by omega) (Nat.le_refl _)).grow ((Gr.refl wr).alloc _)) (by rw[List.length_take];simp;omega) hbase ?_;intro v' w' hown' hgrow hb')
    go_ret
    refine⟨_,rfl,((Gr.refl _).alloc _).own hgrow,?_⟩
    rw[← Un H0.out (by rw[Hn.out];omega) Hp.out Hd.out];exact hown'.read
theorem Q5 (w:World)(va vb:Value)(la lb:List Nat)(ha:NatL w va la)(hb:NatL w vb lb)(hla:la.length≤35184372088832)(hlb:lb.length≤35184372088832):
  Calls Tryz.prog 215 #[va,vb] w (Ret w fun r _=>r = .int .i64 (cmpZ (nval la) (nval lb))):=by
 have HA:=ξ ha
 have HB:=ξ hb
 have Hla:=ξ hla
 have Hlb:=ξ hlb
 have da:=ξ (Lk la ha.dig)
 have db:=ξ (Lk lb hb.dig)
 clear ha hb hla hlb
 go_enter Tryz.func215,Tryz.ntmps215
 go_wp2_with fail
 refine(Li _ va la HA.out Hla.out).mono ?_
 rintro _ w1 ⟨ra,rfl,g1,hra⟩
 have HRA:=ξ hra
 have G1:=ξ g1
 clear hra g1
 go_wp2_with fail
 refine(Li _ vb lb (HB.out.grow G1.out) Hlb.out).mono ?_
 rintro _ w2 ⟨rb,rfl,g2,hrb⟩
 have HRA':=ξ (HRA.out.grow g2)
 have HRB:=ξ hrb
 have G2:=ξ (G1.out.trans g2)
 clear hrb g2 HRA G1
 obtain⟨p,c,rfl,a1,a2,a3⟩:=HRA'.out.parts
 obtain⟨q,d,rfl,b1,b2,b3⟩:=HRB.out.parts
 obtain⟨xa,hxa⟩:∃ xa,trimL la=xa:=⟨_,rfl⟩
 obtain⟨xb,hxb⟩:∃ xb,trimL lb=xb:=⟨_,rfl⟩
 have Va:=ξ (show nval la=nval xa by rw[← hxa];exact(Je _).symm)
 have Vb:=ξ (show nval lb=nval xb by rw[← hxb];exact(Je _).symm)
 have Da:=ξ (show xa=digs (nval xa) by rw[← hxa];unfold trimL;rw[Je])
 have Db:=ξ (show xb=digs (nval xb) by rw[← hxb];unfold trimL;rw[Je])
 rw[hxa] at HRA' a1 a3
 rw[hxb] at HRB b1 b3
 simp only[hxa,hxb]
 have A3:=ξ a3
 have B3:=ξ b3
 clear a3 b3 hxa hxb da db
 obtain⟨na,hna⟩:∃ n,xa.length=n:=⟨_,rfl⟩
 obtain⟨nb,hnb⟩:∃ n,xb.length=n:=⟨_,rfl⟩
 rw[hna] at HRA' a1
 rw[hnb] at HRB b1
 simp only[hna,hnb]
 have Hna:=ξ hna
 have Hnb:=ξ hnb
 clear hna hnb
 rcases Nat.lt_trichotomy na nb with hn|hn|hn
 ·have t1:((na:Int) != nb)=true:=by simp;omega
  have hv:=ξ (Tb (a:=nval xa) (b:=nval xb) (by rw[← Da.out,← Db.out,Hna.out,Hnb.out];exact hn))
  go_wp2
  go_ret
  exact⟨_,rfl,G2.out,by rw[Va.out,Vb.out,Ok hv.out];rfl⟩
 ·subst hn
  go_wp2
  go_loopw [5] (fun i w1=>∃ k:Nat,k≤na∧i = .int .i64 ((k:Int) - 1)∧nval (xa.drop k)=nval (xb.drop k)∧Gr w w1∧Gr w2 w1) (fun i _=>((intOf i)+1).toNat)
  case atStart=>exact⟨na,Nat.le_refl _,rfl,by rw[List.drop_eq_nil_of_le (by rw[Hna.out];exact Nat.le_refl _),List.drop_eq_nil_of_le (by rw[Hnb.out];exact Nat.le_refl _)],G2.out,Gr.refl _⟩
  case round=>
   obtain⟨k,hk,rfl,hp,hg,hg2⟩:=hrel
   have Hp:=ξ hp
   have Hg:=ξ hg
   have Hg2:=ξ hg2
   clear hp hg hg2
   by_cases hk0:k=0
   ·obtain rfl:=hk0
    go_wp2
    go_ret
    refine⟨_,rfl,Hg.out,?_⟩
    have h0:nval xa=nval xb:=by simpa using Hp.out
    rw[Va.out,Vb.out,Vr h0];rfl
   ·obtain⟨j,rfl⟩:∃ j,k=j+1:=⟨k - 1,by omega⟩
    obtain⟨b,o,rfl,c1⟩:=(HRA'.out.grow Hg2.out).at j (by rw[Hna.out];omega)
    obtain⟨b',o',rfl,c2⟩:=(HRB.out.grow Hg2.out).at j (by rw[Hnb.out];omega)
    rcases Nat.lt_trichotomy (gd xa j) (gd xb j) with hd|hd|hd
    ·have t1:((gd xa j:Int) != gd xb j)=true:=by simp;omega
     have hv:=ξ (Qx A3.out B3.out Hp.out hd)
     go_wp2
     go_quiet (fail)
     go_wp2
     go_quiet (fail)
     go_wp2
     go_ret
     exact⟨_,rfl,(Hg.out.drewN _).drewN _,by rw[Va.out,Vb.out,Ok hv.out];rfl⟩
    ·have t1:((gd xa j:Int) != gd xb j)=false:=by rw[hd];simp
     have hv:=ξ (Zm Hp.out hd)
     clear hd
     go_wp2
     go_quiet (fail)
     go_wp2
     go_roundw
     case rel=>exact⟨j,by omega,by go_num,hv.out,Hg.out.drewN _,Hg2.out.drewN _⟩
     case measure=>simp[intOf]
    ·have t1:((gd xa j:Int) != gd xb j)=true:=by simp;omega
     have hv:=ξ (Qx B3.out A3.out Hp.out.symm hd)
     go_wp2
     go_quiet (fail)
     go_wp2
     go_quiet (fail)
     go_wp2
     go_ret
     exact⟨_,rfl,(Hg.out.drewN _).drewN _,by rw[Va.out,Vb.out,R4 hv.out];rfl⟩
 ·have t1:((na:Int) != nb)=true:=by simp;omega
  have hv:=ξ (Tb (a:=nval xb) (b:=nval xa) (by rw[← Da.out,← Db.out,Hna.out,Hnb.out];exact hn))
  go_wp2
  go_ret
  exact⟨_,rfl,G2.out,by rw[Va.out,Vb.out,R4 hv.out];rfl⟩
theorem Vf {la lb l:List Nat}{k c s:Nat}(hl:l.length=k)(h:nval l+BB ^ k * c=nval (la.take k)+nval (lb.take k))(hs:s=c+gd la k+gd lb k):
  nval (l ++ [s % BB])+BB ^ (k+1) * (s / BB)=nval (la.take (k+1))+nval (lb.take (k+1)):=by
 rw[Oq,hl,K8,K8,Nat.pow_succ,Nat.mul_assoc,Nat.add_assoc,← Nat.mul_add,Nat.mod_add_div,hs,Nat.mul_add,Nat.mul_add]
 omega
theorem Q4 (w:World)(va vb:Value)(la lb:List Nat)(ha:NatL w va la)(hb:NatL w vb lb)(hla:la.length≤17592186044416)(hlb:lb.length≤17592186044416):
  Calls Tryz.prog 105 #[va,vb] w (Ret w fun r w'=>NatL w' r (digs (nval la+nval lb))):=by
 have HA:=ξ ha
 have HB:=ξ hb
 obtain⟨p,c,rfl,a1,a2,a3⟩:=ha.parts
 obtain⟨q,d,rfl,b1,b2,b3⟩:=hb.parts
 have A3:=ξ a3
 have B3:=ξ b3
 clear ha hb a3 b3
 obtain⟨na,hna⟩:∃ n,la.length=n:=⟨_,rfl⟩
 obtain⟨nb,hnb⟩:∃ n,lb.length=n:=⟨_,rfl⟩
 rw[hna] at HA a1 hla ⊢
 rw[hnb] at HB b1 hlb ⊢
 have Hna:=ξ hna
 have Hnb:=ξ hnb
 clear hna hnb
 go_enter Tryz.func105,Tryz.ntmps105
 go_wp2_with fail
 go_loopw [5,6,7] (fun v cr i w1=>∃ (k:Nat) (l:List Nat) (c:Nat),(k≤na∨k≤nb)∧i = .int .i64 k∧OwnN w1 w.heap.size v l∧l.length=k∧cr = .int .u64 c∧c≤1∧
   nval l+BB ^ k * c=nval (la.take k)+nval (lb.take k)∧Own w.heap.size w w1) (fun _ _ i _=>na+nb - (intOf i).toNat)
 case atStart=>
  exact⟨0,[],0,by omega,rfl,OwnN.made0 w _ (Nat.le_refl _),rfl,rfl,by omega,by simp[nval],Own.of_gr ((Gr.refl w).alloc _) (Nat.le_refl _)⟩
 case round=>
  obtain⟨k,l,cr,hk,rfl,hown,hl,rfl,hc,hv,ho⟩:=hrel
  have Hown:=ξ hown
  have Hl:=ξ hl
  have Hv:=ξ hv
  have Ho:=ξ ho
  have Hb:=ξ (show w.heap.size≤wr.heap.size from ho.size)
  clear hown hl hv ho
  by_cases hlt:k < na∨k < nb
  ·have ga:=A3.out.gd k
   have gb:=B3.out.gd k
   rw[Jc] at ga gb
   obtain⟨s,hs⟩:∃ s,s=cr+gd la k+gd lb k:=⟨_,rfl⟩
   have Hs:=ξ hs
   have E1:=ξ (show((cr:Int)+gd la k+gd lb k) % 4294967296=((s % BB:Nat):Int) by rw[hs,Jc];omega)
   have E2:=ξ (show((cr:Int)+gd la k+gd lb k) / 4294967296=((s / BB:Nat):Int) by rw[hs,Jc];omega)
   have hs1:=ξ (show s / BB≤1 by rw[hs,Jc];omega)
   clear hs
   have hk2:k≤17592186044416:=by omega
   have hlt':k < na∨(¬ k < na∧k < nb):=by omega
   clear hlt
   rcases hlt' with hka|⟨hka,hkb⟩
   all_goals
    go_wp2_with fail
    refine(Ov _ _ la k (HA.out.own rfl Ho.out) (by omega)).mono ?_
    rintro _ _ ⟨rfl,rfl⟩
    go_wp2_with fail
    refine(Ov _ _ lb k (HB.out.own rfl Ho.out) (by omega)).mono ?_
    rintro _ _ ⟨rfl,rfl⟩
    go_wp2_with (at_builtin;go_must (refine L9 rfl _ _ 64 rfl (by kernel_rfl) w.heap.size _ (.slice (some ⟨wr.heap.size,0,none⟩) 1 1) l [s % BB] rfl (Hown.out.grow ((Gr.refl wr).alloc _)) rfl (NatL.one wr _ (s % BB) E1.out (Nat.mod_lt _ Jt) _) (by rw[Hl.out];simp;omega) (Nat.le_trans Hb.out (by simp)) ?_;intro v' w' hown' hgrow hb'))
    refine⟨⟨k+1,l ++ [s % BB],s / BB,by omega,by go_num,hown',by rw[List.length_append,Hl.out];rfl,by rw[E2.out],hs1.out,Vf Hl.out Hv.out Hs.out,?_⟩,by simp[intOf];omega⟩
    exact(Ho.out.trans (Own.of_gr ((Gr.refl wr).alloc _) Hb.out)).trans hgrow
  ·have hka:¬ k < na:=by omega
   have hkb:¬ k < nb:=by omega
   have hcr:=ξ (show cr % BB=cr from Nat.mod_eq_of_lt (by rw[Jc];omega))
   go_wp2_with (at_builtin;go_must (refine L9 rfl _ _ 64 rfl (by kernel_rfl) w.heap.size _ (.slice (some ⟨wr.heap.size,0,none⟩) 1 1) l [cr] rfl (Hown.out.grow ((Gr.refl wr).alloc _)) rfl (NatL.one wr _ cr rfl (by rw[Jc];omega) _) (by rw[Hl.out];simp;omega) (Nat.le_trans Hb.out (by simp)) ?_;intro v' w' hown' hgrow hb'))
   refine(Li _ v' _ hown'.read (by rw[List.length_append,Hl.out];simp;omega)).mono ?_
   rintro _ w2 ⟨r,rfl,g2,hr⟩
   go_wp2
   go_ret
   refine⟨_,rfl,((Ho.out.trans (Own.of_gr ((Gr.refl wr).alloc _) Hb.out)).trans hgrow).gr.trans g2,?_⟩
   have e:nval (l ++ [cr])=nval la+nval lb:=by
    have h1:=Hv.out
    rw[List.take_of_length_le (by rw[Hna.out];omega),List.take_of_length_le (by rw[Hnb.out];omega)] at h1
    rw[Oq,Hl.out];exact h1
   rw[← e]
   exact hr
theorem Ug {la lb l:List Nat}{k c x:Nat}(hl:l.length=k)(h:nval l+nval (lb.take k)=nval (la.take k)+BB ^ k * c)(hx:x+gd lb k+c=BB+gd la k)(hc:x / BB≤1):
  nval (l ++ [x % BB])+nval (lb.take (k+1))=nval (la.take (k+1))+BB ^ (k+1) * (1 - x / BB):=by
 rw[Oq,hl,K8,K8,Nat.pow_succ]
 obtain⟨y,hy⟩:∃ y,1 - x / BB=y:=⟨_,rfl⟩
 have e:=Nat.mod_add_div x BB
 have hB:BB * (x / BB)+BB * y=BB:=by rw[← Nat.mul_add,show x / BB+y=1 from by omega,Nat.mul_one]
 rw[hy]
 have e2:x % BB+gd lb k+c=BB * y+gd la k:=by omega
 have e3:=congrArg (fun z=>BB ^ k * z) e2
 simp only[Nat.mul_add] at e3
 rw[Nat.mul_assoc (BB ^ k) BB y]
 omega
theorem J0H {la lb l:List Nat}{c:Nat}(ha:Dig la)(hl:l.length=la.length)(hdl:Dig l)(h:nval l+nval (lb.take la.length)=nval la+BB ^ la.length * c)(hle:nval lb≤nval la)(hc:c≤1):nval l=nval la - nval lb:=by
 have h1:=Lh la ha
 have h2:=Lh l hdl
 have h3:=M0 lb la.length
 have h4:nval (lb.drop la.length)=0:=by
  refine Nat.eq_zero_of_not_pos fun hp=>?_
  have:BB ^ la.length * 1≤BB ^ la.length * nval (lb.drop la.length):=Nat.mul_le_mul_left _ hp
  omega
 rw[h4,Nat.mul_zero,Nat.add_zero] at h3
 rw[hl] at h2
 rcases Nat.eq_zero_or_pos c with hc0|hc0
 ·subst hc0;simp at h;omega
 ·have:c=1:=by omega
  subst this;rw[Nat.mul_one] at h;omega
theorem J0j (w:World)(va vb:Value)(la lb:List Nat)(ha:NatL w va la)(hb:NatL w vb lb)(hla:la.length≤17592186044416)(hlb:lb.length≤17592186044416)(hle:nval lb≤nval la):
  Calls Tryz.prog 216 #[va,vb] w (Ret w fun r w'=>∃ x,r = .tuple #[x,.int .i64 0]∧NatL w' x (digs (nval la - nval lb))):=by
 have HA:=ξ ha
 have HB:=ξ hb
 have hc0:¬ cmpZ (nval la) (nval lb) < 0:=by rw[Nb];omega
 obtain⟨cz,hcz⟩:∃ cz,cmpZ (nval la) (nval lb)=cz:=⟨_,rfl⟩
 rw[hcz] at hc0
 have Hcz:=ξ hcz
 have Hle:=ξ hle
 obtain⟨p,c,rfl,a1,a2,a3⟩:=ha.parts
 have A3:=ξ a3
 have B3:=ξ hb.dig
 obtain⟨na,hna⟩:∃ n,la.length=n:=⟨_,rfl⟩
 rw[hna] at HA a1 ⊢
 have Hna:=ξ hna
 have Hla:=ξ hla
 have hna':na≤17592186044416:=by omega
 clear ha hb a3 hle hcz hna hla
 go_enter Tryz.func216,Tryz.ntmps216
 go_wp2_with fail
 refine(Q5 _ _ vb la lb HA.out HB.out (Nat.le_trans Hla.out (by omega)) (by omega)).mono ?_
 rintro _ w1 ⟨_,rfl,g1,rfl⟩
 rw[Hcz.out]
 have HA1:=ξ (HA.out.grow g1)
 have HB1:=ξ (HB.out.grow g1)
 have G1:=ξ g1
 clear HA HB g1
 go_wp2_with fail
 go_loopw [6,7,8] (fun v cr i w2=>∃ (k:Nat) (l:List Nat) (c:Nat),k≤na∧i = .int .i64 k∧OwnN w2 w1.heap.size v l∧l.length=k∧cr = .int .u64 c∧c≤1∧
   nval l+nval (lb.take k)=nval (la.take k)+BB ^ k * c∧Own w1.heap.size w1 w2) (fun _ _ i _=>na - (intOf i).toNat)
 case atStart=>
  exact⟨0,[],0,by omega,rfl,OwnN.made0 w1 _ (Nat.le_refl _),rfl,rfl,by omega,by simp[nval],Own.of_gr ((Gr.refl w1).alloc _) (Nat.le_refl _)⟩
 case round=>
  obtain⟨k,l,cr,hk,rfl,hown,hl,rfl,hc,hv,ho⟩:=hrel
  have Hown:=ξ hown
  have Hl:=ξ hl
  have Hv:=ξ hv
  have Ho:=ξ ho
  have Hb:=ξ (show w1.heap.size≤wr.heap.size from ho.size)
  clear hown hl hv ho
  by_cases hka:k < na
  ·have ga:=A3.out.gd k
   have gb:=B3.out.gd k
   rw[Jc] at ga gb
   obtain⟨x,hx⟩:∃ x,x=4294967296+gd la k - gd lb k - cr:=⟨_,rfl⟩
   have Hx:=ξ (show x+gd lb k+cr=BB+gd la k by rw[Jc];omega)
   have E1:=ξ (show((4294967296:Int)+gd la k - gd lb k - cr) % 4294967296=((x % BB:Nat):Int) by rw[hx,Jc];omega)
   have E2:=ξ (show 1 - ((4294967296:Int)+gd la k - gd lb k - cr) / 4294967296=((1 - x / BB:Nat):Int) by rw[hx,Jc];omega)
   have hs1:=ξ (show x / BB≤1 by rw[hx,Jc];omega)
   clear hx
   go_wp2_with fail
   refine(Ov _ _ la k (HA1.out.own rfl Ho.out) (by omega)).mono ?_
   rintro _ _ ⟨rfl,rfl⟩
   go_wp2_with fail
   refine(Ov _ _ lb k (HB1.out.own rfl Ho.out) (by omega)).mono ?_
   rintro _ _ ⟨rfl,rfl⟩
   go_wp2_with (at_builtin;go_must (refine L9 rfl _ _ 64 rfl (by kernel_rfl) w1.heap.size _ (.slice (some ⟨wr.heap.size,0,none⟩) 1 1) l [x % BB] rfl (Hown.out.grow ((Gr.refl wr).alloc _)) rfl (NatL.one wr _ (x % BB) E1.out (Nat.mod_lt _ Jt) _) (by rw[Hl.out];simp;omega) (Nat.le_trans Hb.out (by simp)) ?_;intro v' w' hown' hgrow hb'))
   refine⟨⟨k+1,l ++ [x % BB],1 - x / BB,by omega,by go_num,hown',by rw[List.length_append,Hl.out];rfl,by rw[E2.out],Nat.sub_le _ _,Ug Hl.out Hv.out Hx.out hs1.out,?_⟩,by simp[intOf];omega⟩
   exact(Ho.out.trans (Own.of_gr ((Gr.refl wr).alloc _) Hb.out)).trans hgrow
  ·obtain rfl:k=na:=by omega
   go_wp2_with fail
   refine(Li _ u6 _ Hown.out.read (by rw[Hl.out];omega)).mono ?_
   rintro _ w2 ⟨r,rfl,g2,hr⟩
   go_wp2
   go_ret2
   refine⟨_,rfl,(G1.out.trans Ho.out.gr).trans g2,_,rfl,?_⟩
   have h1:=Hv.out
   rw[List.take_of_length_le (l:=la) (by rw[Hna.out];omega),← Hna.out] at h1
   rw[← J0H A3.out (by rw[Hl.out,Hna.out]) Hown.out.2 h1 Hle.out hc]
   exact hr
theorem J0i (w:World)(va vb:Value)(la lb:List Nat)(ha:NatL w va la)(hb:NatL w vb lb)(hla:la.length≤8796093022208)(hlb:lb.length≤8796093022208):
  Calls Tryz.prog 163 #[va,vb] w (Ret w fun r w'=>NatL w' r (digs (nval la * nval lb))):=by
 have HA:=ξ ha
 have HB:=ξ hb
 obtain⟨p,c,rfl,a1,a2,a3⟩:=ha.parts
 obtain⟨q,d,rfl,b1,b2,b3⟩:=hb.parts
 have A3:=ξ a3
 have B3:=ξ b3
 clear ha hb a3 b3
 obtain⟨na,hna⟩:∃ n,la.length=n:=⟨_,rfl⟩
 obtain⟨nb,hnb⟩:∃ n,lb.length=n:=⟨_,rfl⟩
 rw[hna] at HA a1 hla ⊢
 rw[hnb] at HB b1 hlb ⊢
 have Hna:=ξ hna
 have Hnb:=ξ hnb
 clear hna hnb
 obtain⟨B0,hB0⟩:∃ B0,w.heap.size=B0:=⟨_,rfl⟩
 have HB0:=ξ hB0
 clear hB0
 go_enter Tryz.func163,Tryz.ntmps163
 go_wp2_with (first|(go_at_call 999)|(refine P6 rfl _ _ 64 rfl (by kernel_rfl) (na+nb+1) _ rfl rfl (by omega) (by omega) ?_;rw[HB0.out];intro w1 hrow hgr1 hsz1))
 go_loopw [6] (fun i w2=>∃ (k:Nat) (l:List Nat),k≤na∧i = .int .i64 k∧RowN w2 B0 l∧l.length=na+nb+1∧
   nval l=nval (la.take k) * nval lb∧(∀ j,k+nb≤j→gd l j=0)∧Own B0 w w2) (fun i _=>na - (intOf i).toNat)
 case atStart=>
  have e0:∀ j,gd (List.replicate (na+nb+1) 0) j=0:=fun j=>by
   unfold gd;rw[List.getD_eq_getElem?_getD,List.getElem?_replicate];split<;>rfl
  exact⟨0,_,by omega,rfl,hrow,by simp,by rw[Ps];simp[nval],fun j _=>e0 j,Own.of_gr hgr1 (by rw[HB0.out];exact Nat.le_refl _)⟩
 case round=>
  obtain⟨k,l,hk,rfl,hrow2,hl,hv,hz,ho⟩:=hrel
  have Hrow:=ξ hrow2
  have Hl:=ξ hl
  have Hv:=ξ hv
  have Hz:=ξ hz
  have Ho:=ξ ho
  clear hrow hrow2 hl hv hz ho hgr1 hsz1
  by_cases hka:k < na
  ·go_wp2_with fail
   obtain⟨wo,hwo⟩:∃ wo:World,wo=wr:=⟨_,rfl⟩
   rw[← hwo]
   rw[← hwo] at Hrow Ho
   clear hwo
   go_loopw [7,8] (fun cr i w3=>∃ (j:Nat) (m:List Nat) (c:Nat),j≤nb∧i = .int .i64 j∧cr = .int .u64 c∧c < BB∧RowN w3 B0 m∧m.length=na+nb+1∧
     nval m+BB ^ (k+j) * c=nval (la.take k) * nval lb+BB ^ k * (gd la k * nval (lb.take j))∧(∀ t,k+nb≤t→gd m t=0)∧Own B0 w w3) (fun _ i _=>nb - (intOf i).toNat)
   case atStart=>
    exact⟨0,l,0,by omega,rfl,rfl,Jt,Hrow.out,Hl.out,by simp[nval];exact Hv.out,Hz.out,Ho.out⟩
   case round=>
    obtain⟨j,m,c1,hj,rfl,rfl,hc1,hrow3,hm,hv3,hz3,ho3⟩:=hrel
    have Hrow3:=ξ hrow3
    have Hm:=ξ hm
    have Hv3:=ξ hv3
    have Hz3:=ξ hz3
    have Ho3:=ξ ho3
    have Hc1:=ξ hc1
    rw[Jc] at hc1
    clear hrow3 hm hv3 hz3 ho3
    by_cases hjb:j < nb
    ·obtain⟨bA,oA,rfl,cA⟩:=(HA.out.own HB0.out.symm Ho3.out).at k (by rw[Hna.out];exact hka)
     obtain⟨bB,oB,rfl,cB⟩:=(HB.out.own HB0.out.symm Ho3.out).at j (by rw[Hnb.out];exact hjb)
     have cR:=Hrow3.out.cell (i:=k+j) (by rw[Hm.out];omega)
     have fR:=Hrow3.out.free (k+j)
     have ga:=A3.out.gd k
     have gb:=B3.out.gd j
     have gm:=Hrow3.out.dig.gd (k+j)
     have hmul:=Qu ga gb
     rw[Jc] at ga gb gm
     have hm1:(0:Int)≤(gd la k:Int) * gd lb j:=by have:=Int.natCast_nonneg (gd la k * gd lb j);rwa [Int.natCast_mul] at this
     have hm2:(gd la k:Int) * gd lb j≤18446744065119617025:=by have:=Int.ofNat_le.2 hmul;rwa [Int.natCast_mul] at this
     clear hmul
     go_wp2_with fail
     go_quiet (fail)
     go_wp2_with fail
     obtain⟨P,hP⟩:∃ P,gd la k * gd lb j=P:=⟨_,rfl⟩
     have hPi:(gd la k:Int) * gd lb j=(P:Int):=by rw[← hP];exact(Int.natCast_mul _ _).symm
     obtain⟨s,hs⟩:∃ s,s=c1+P+gd m (k+j):=⟨_,rfl⟩
     have hP2:P≤18446744065119617025:=by rw[hPi] at hm2;omega
     have hsB:s / BB < BB:=by rw[hs,Jc];omega
     have E2:((c1:Int)+(gd la k:Int) * gd lb j+gd m (k+j)) / 4294967296=((s / BB:Nat):Int):=by rw[hPi,hs,Jc];omega
     have E1:((c1:Int)+(gd la k:Int) * gd lb j+gd m (k+j)) % 4294967296=((s % BB:Nat):Int):=by rw[hPi,hs,Jc];omega
     have hst:=Td (l:=m) (i:=k) (k:=j) (c:=c1) (s:=s) (x:=gd la k) (y:=gd lb j) (W:=nval (lb.take j)) (by rw[Hm.out];omega) Hv3.out (by rw[hP];exact hs)
     refine⟨⟨j+1,m.set (k+j) (s % BB),s / BB,by omega,by go_num,by rw[E2],hsB,(Hrow3.out.grow ((Gr.refl wr).drewN nq)).set (k+j) (s % BB) _ E1 (Nat.mod_lt _ Jt),by rw[List.length_set];exact Hm.out,?_,?_,?_⟩,by simp[intOf];omega⟩
     ·rw[K8];exact hst
     ·intro t ht;rw[Lq (by omega)];exact Hz3.out t ht
     ·exact(Ho3.out.trans (Own.drewN _ _ _)).trans (Own.setCell _ (Nat.le_refl _) _ _)
    ·obtain rfl:j=nb:=by omega
     have cR:=Hrow3.out.cell (i:=k+j) (by rw[Hm.out];omega)
     have fR:=Hrow3.out.free (k+j)
     go_wp2_with fail
     refine⟨⟨k+1,m.set (k+j) c1,by omega,by go_num,Hrow3.out.set (k+j) c1 _ rfl (by rw[Jc];exact hc1),by rw[List.length_set];exact Hm.out,?_,?_,?_⟩,by simp[intOf];omega⟩
     ·rw[Y5 (by rw[Hm.out];omega) (Hz3.out _ (Nat.le_refl _)) Hv3.out,List.take_of_length_le (l:=lb) (by rw[Hnb.out];exact Nat.le_refl _),K8,Nat.add_mul,Nat.mul_assoc]
     ·intro t ht;rw[Lq (by omega)];exact Hz3.out t (by omega)
     ·exact Ho3.out.trans (Own.setCell _ (Nat.le_refl _) _ _)
  ·obtain rfl:k=na:=by omega
   go_wp2_with fail
   refine(Li _ _ l (by rw[← Hl.out];exact Hrow.out.read _ (Nat.le_refl _) (by rw[Hl.out];omega)) (by rw[Hl.out];omega)).mono ?_
   rintro _ w2 ⟨r,rfl,g2,hr⟩
   go_wp2
   go_ret
   refine⟨_,rfl,Gr.trans (by have:=Ho.out;rw[← HB0.out] at this;exact this.gr) g2,?_⟩
   have e:nval l=nval la * nval lb:=by rw[Hv.out,List.take_of_length_le (by rw[Hna.out];exact Nat.le_refl _)]
   rw[← e]
   exact hr
end Go.Proofs.YtcjgimlcefhhmaaGreatDoor

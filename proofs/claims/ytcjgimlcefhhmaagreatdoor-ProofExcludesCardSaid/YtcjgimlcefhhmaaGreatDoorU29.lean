/- Texts: Frs PsL Owu SgB. -/
import Derived.Test.YtcjgimlcefhhmaaGreatDoorU14
import Derived.Test.YtcjgimlcefhhmaaGreatDoorU23
import Derived.Test.YtcjgimlcefhhmaaGreatDoorU27
import Derived.Test.YtcjgimlcefhhmaaGreatDoorU28
set_option linter.unusedVariables false
set_option linter.unusedSimpArgs false
set_option maxRecDepth 100000
set_option maxHeartbeats 12800000
namespace Go.Proofs.YtcjgimlcefhhmaaGreatDoor
open Go.RowKit
section append
variable {α:Type}{enc:α→List Value}{sz:Nat}{P:Program}{o:Oper}{a:Act}{K:Act→World→Prop}{Q:Exit→Act→World→Prop}{w:World}
theorem J1u (t ty e:TypeId)(z:Value)(bytes:Nat)(ht:P.underlying t=some (.slice e))(hinfo:(P.info? e).map (fun i=>(i.zero,i.size,i.bytes))=some (some z,sz,bytes))(hzs:z.cells.size=sz)(hsz:0 < sz)(he:∀ x,(enc x).length=sz)(h1:∀ x,∀ u ∈ enc x,u.oneCell'=true)
  (base:Nat) (p:Option Addr) (vx:Value) (l m:List α) (hown:OwnL w base e sz enc (.slice p l.length l.length) l) (hm:SlL w sz enc vx m)
  (hlen:(l.length+m.length) * bytes≤140737488355328) (hlen2:l.length+m.length≤1000000000000) (hbase:base≤w.heap.size):
  ∃ v' w',(Builtin.append_ #[t,t] ty #[.slice p l.length l.length,vx]).run P w = .ok v' w'∧OwnL w' base e sz enc v' (l ++ m)∧Gr w w':=by
 obtain⟨i0,hi,hz0,hz1,hz2⟩:=info_parts hinfo
 obtain⟨hd,q,c,rfl,k1,k2,k3⟩:=hm
 by_cases hpos:0 < m.length
 ·rcases k3 with rfl|⟨b,off,rfl,hc⟩
  ·omega
  ·have hnews:∀ j u,(m.flatMap enc)[j]?=some u→w.cell? ((⟨b,off,none⟩:Addr).add j)=some u:=fun j u hu=>by rw[Na];exact hc j u hu
   have hone:∀ u ∈ m.flatMap enc,u.oneCell'=true:=fun u hu=>by
    obtain⟨y,_,hy⟩:=List.mem_flatMap.1 hu
    exact h1 y u hy
   have hml:=Kv he m
   obtain⟨v',w',hr,h2,h3,_⟩:=run_append_own (P:=P) w base t ty e i0 z sz bytes ht hi hz0 hz1 hz2 hzs hsz _ l.length (l.flatMap enc) hown ⟨b,off,none⟩ m.length c (m.flatMap enc) hml hnews hone (by unfold maxLen;omega) hlen hbase
   have hg:Gr w w':=by
    subst hz1
    subst hz2
    have hown2:=hown.2
    rcases hown2 with⟨hv,h0⟩|⟨g,cap,cur,hv,hbg,hg,hnc,hcm,hcs,htake⟩
    ·injection hv with hv1 hv2 hv3
     subst hv1
     rw[hv2] at hr
     have hr2:=run_append_nil (P:=P) w t ty e i0 z ht hi hz0 ⟨b,off,none⟩ m.length c (m.flatMap enc) hml hnews hpos (by omega) (by have:=hlen;rw[h0] at this;simp only[Nat.zero_add] at this;omega)
     have e1:=hr.symm.trans hr2
     injection e1 with e2 e3
     subst e3
     exact(Gr.refl w).drew.alloc _
    ·injection hv with hv1 hv2 hv3
     subst hv1
     have holds:∀ j u,(l.flatMap enc)[j]?=some u→w.cell? ((⟨g,0,none⟩:Addr).add j)=some u:=World.ownsRow.cells (show w.ownsRow base e i0.size _ l.length (l.flatMap enc) from hown) (g:=g) rfl
     have hr2:=run_append_grow (P:=P) w t ty e i0 z ht hi hz0 ⟨g,0,none⟩ l.length l.length (l.flatMap enc) hown.1 holds ⟨b,off,none⟩ m.length c (m.flatMap enc) hml hnews (by omega) (by omega) (growslice_fits (by omega) hlen)
     have e1:=hr.symm.trans hr2
     injection e1 with e2 e3
     subst e3
     exact(Gr.refl w).drew.alloc _
   refine⟨v',w',hr,?_,hg⟩
   unfold OwnL
   rw[List.flatMap_append,List.length_append]
   exact h2
 ·have hm0:m=[]:=List.eq_nil_of_length_eq_zero (by omega)
  subst hm0
  refine⟨_,w,?_,by rw[List.append_nil];exact hown,Gr.refl w⟩
  cases p<;>cases q<;>simp[Builtin.append_,run_underlying ht,sizeOf,typeInfo,hi,Builtin.lenOf,Builtin.firstCells,loadCells,loadCellsFrom,storeCells]
theorem J6O (s x:Operand)(t e:TypeId)(z:Value)(bytes:Nat)(ho:o.op = .call { callee:=.builtin .append,args:=#[s,x],argTypes:=#[t,t] })
  (ht:P.underlying t=some (.slice e)) (hinfo:(P.info? e).map (fun i=>(i.zero,i.size,i.bytes))=some (some z,sz,bytes))
  (p q:Option Addr) (n c d:Nat) (hs:a.eval s = .slice p n c) (hn:n≤c) (hp:p≠none∨c=0) (hx:a.eval x = .slice q 0 d)
  (h:K (a.put o.dst (.slice p n c)) w):Oper.wp P o a w K Q:=by
 obtain⟨i0,hi,hz0,hz1,hz2⟩:=info_parts hinfo
 have hr:(Builtin.append_ #[t,t] o.type #[.slice p n c,.slice q 0 d]).run P w = .ok (.slice p n c) w:=by
  cases p with
  | none=>
   have hc:c=0:=hp.resolve_left (fun h=>h rfl)
   have hn0:n=0:=by omega
   subst hc hn0
   cases q<;>simp[Builtin.append_,run_underlying ht,sizeOf,typeInfo,hi,Builtin.lenOf,Builtin.firstCells,loadCells,loadCellsFrom]
  | some p=>cases q<;>simp[Builtin.append_,run_underlying ht,sizeOf,typeInfo,hi,Builtin.lenOf,Builtin.firstCells,loadCells,loadCellsFrom,hn,storeCells]
 unfold Oper.wp execOp
 simp only[ho,resolve,invoke,builtin,Sem.run_bind,Sem.run_pure,Result.andThen_ok,List.map_toArray,List.map_cons,List.map_nil,hs,hx,hr]
 exact h
end append
end Go.Proofs.YtcjgimlcefhhmaaGreatDoor
namespace Go.Proofs.YtcjgimlcefhhmaaGreatDoor
open Go.RowKit Go.Lib
section
variable {α:Type}{enc:α→List Value}{sz:Nat}{P:Program}{a:Act}{o:Oper}{K:Act→World→Prop}{Q:Exit→Act→World→Prop}{w:World}
theorem OwnL.ofFresh {b base:Nat}{e:TypeId}(h:J0 #[] e b w)(hb:base≤b):OwnL w base e sz enc (.slice (some ⟨b,0,none⟩) 0 0) []:=
 ⟨by simp,.inr ⟨b,0,#[],rfl,hb,h,Nat.zero_le _,by simp[maxLen],by simp,by simp⟩⟩
theorem O7 (s x:Operand)(t e:TypeId)(z:Value)(bytes:Nat)(ho:o.op = .call { callee:=.builtin .append,args:=#[s,x],argTypes:=#[t,t] })
  (ht:P.underlying t=some (.slice e)) (hinfo:(P.info? e).map (fun i=>(i.zero,i.size,i.bytes))=some (some z,sz,bytes)) (hzs:z.cells.size=sz) (hsz:0 < sz) (he:∀ x,(enc x).length=sz) (h1:∀ x,∀ u ∈ enc x,u.oneCell'=true)
  (base:Nat) (v vx:Value) (l m:List α) (hs:a.eval s=v) (hown:OwnL w base e sz enc v l) (hx:a.eval x=vx) (hm:SlL w sz enc vx m)
  (hlen:(l.length+m.length) * bytes≤140737488355328) (hlen2:l.length+m.length≤1000000000000) (hbase:base≤w.heap.size) (hpos:0 < m.length)
  (h:∀ v' w',OwnL w' base e sz enc v' (l ++ m)→w.grownBy w' v.ownBlock→(v'.ownBlock=v.ownBlock∨v'.ownBlock=some w.heap.size)→K (a.put o.dst v') w'):Oper.wp P o a w K Q:=by
 obtain⟨v',w',hr,h2,h3,h4⟩:=Pe (ty:=o.type) t e z bytes ht hinfo hzs hsz he h1 base v vx l m hown hm hlen hlen2 hbase hpos
 unfold Oper.wp execOp
 simp only[ho,resolve,invoke,builtin,Sem.run_bind,Sem.run_pure,Result.andThen_ok,List.map_toArray,List.map_cons,List.map_nil,hs,hx,hr]
 exact h v' w' h2 h3 h4
theorem J1b (s x:Operand)(t e:TypeId)(z:Value)(bytes:Nat)(ho:o.op = .call { callee:=.builtin .append,args:=#[s,x],argTypes:=#[t,t] })
  (ht:P.underlying t=some (.slice e)) (hinfo:(P.info? e).map (fun i=>(i.zero,i.size,i.bytes))=some (some z,sz,bytes)) (hzs:z.cells.size=sz) (hsz:0 < sz) (he:∀ x,(enc x).length=sz) (h1:∀ x,∀ u ∈ enc x,u.oneCell'=true)
  (base b:Nat) (vx:Value) (m:List α) (hs:a.eval s = .slice (some ⟨b,0,none⟩) 0 0) (hf:J0 #[] e b w) (hb:base≤b) (hx:a.eval x=vx) (hm:SlL w sz enc vx m)
  (hlen:m.length * bytes≤140737488355328) (hlen2:m.length≤1000000000000)
  (h:∀ v' w',OwnL w' base e sz enc v' m→Gr w w'→(v'.ownBlock=some b∨v'.ownBlock=some w.heap.size)→K (a.put o.dst v') w'):Oper.wp P o a w K Q:=by
 have hown:OwnL w base e sz enc (.slice (some ⟨b,0,none⟩) ([]:List α).length ([]:List α).length) []:=OwnL.ofFresh hf hb
 have hbase:base≤w.heap.size:=Nat.le_trans hb (Nat.le_of_lt hf.lt)
 cases m with
 | nil=>
  obtain⟨q,d,rfl,_,_⟩:=hm.parts
  exact J6O s x t e z bytes ho ht hinfo (some ⟨b,0,none⟩) q 0 0 d hs (Nat.le_refl _) (.inl (by simp)) hx (h _ _ hown (Gr.refl w) (.inl rfl))
 | cons y m=>
  obtain⟨v',w',hr,h2,h3⟩:=J1u (ty:=o.type) t e z bytes ht hinfo hzs hsz he h1 base (some ⟨b,0,none⟩) vx [] (y :: m) hown hm (by simpa using hlen) (by simpa using hlen2) hbase
  obtain⟨v2,w2,hr2,k2,k3,k4⟩:=Pe (ty:=o.type) t e z bytes ht hinfo hzs hsz he h1 base _ vx [] (y :: m) hown hm (by simpa using hlen) (by simpa using hlen2) hbase (by simp)
  have e1:=hr.symm.trans hr2
  injection e1 with e2 e3
  subst e2 e3
  unfold Oper.wp execOp
  simp only[List.length_nil] at hr
  simp only[ho,resolve,invoke,builtin,Sem.run_bind,Sem.run_pure,Result.andThen_ok,List.map_toArray,List.map_cons,List.map_nil,hs,hx,hr]
  exact h _ _ (by simpa using h2) h3 k4
end
namespace Prf
theorem Tx:(Tryz.prog.info? 42).map (fun i=>(i.zero,i.size,i.bytes))=some (some (.agg rowZ),5,64):=by kernel_rfl
theorem Si:∀ x,∀ u ∈ encRow x,u.oneCell'=true:=fun x u hu=>by
 simp[encRow] at hu
 rcases hu with rfl|rfl|rfl|rfl|rfl<;>rfl
structure Rn (w W:World)(base bp b4 b6:Nat)(u0 u1:Value)(x:RowM):Prop where
 g:Gr w W
 tp:Ja W bp #[u0,u1]
 t4:Ja W b4 #[.slice none 0 0,.slice none 0 0]
 t6:Ja W b6 #[.string ⟨x.name.toArray⟩,.int .i64 x.group,.int .i64 x.kind,.slice x.tp x.terms.length x.tc,.int .i64 x.bound]
 tx:Jz W base (.slice x.tp x.terms.length x.tc) x.terms
theorem Rn.grow {w W W':World}{base bp b4 b6:Nat}{u0 u1:Value}{x:RowM}(h:Rn w W base bp b4 b6 u0 u1 x)(g:Gr W W'):Rn w W' base bp b4 b6 u0 u1 x:=
 ⟨h.g.trans g,h.tp.grow g,h.t4.grow g,h.t6.grow g,h.tx.grow g⟩
theorem OwnL.low {α:Type}{enc:α→List Value}{sz:Nat}{e:TypeId}{w:World}{base base':Nat}{v:Value}{l:List α}(h:OwnL w base e sz enc v l)(hb:base'≤base):OwnL w base' e sz enc v l:=by
 obtain⟨h1,h2⟩:=h
 refine⟨h1,?_⟩
 rcases h2 with h2|⟨g,cap,cur,hv,hbg,r⟩
 ·exact .inl h2
 ·exact .inr ⟨g,cap,cur,hv,Nat.le_trans hb hbg,r⟩
theorem fill2 {a w:World}{b:Nat}{x0 x1:Value}(u0 u1:Value)(h:Ja w b #[x0,x1])(g:Gr a w)(hb:a.heap.size≤b):
  Gr a ((w.setCell ⟨b,0,none⟩ u0).setCell ⟨b,1,none⟩ u1)∧Ja ((w.setCell ⟨b,0,none⟩ u0).setCell ⟨b,1,none⟩ u1) b #[u0,u1]∧Upd b w ((w.setCell ⟨b,0,none⟩ u0).setCell ⟨b,1,none⟩ u1):=by
 have hb':¬ b < a.heap.size:=by omega
 refine⟨Gr.set (Gr.set g hb' _) hb' _,?_,fun i hi=>?_⟩
 ·have:=(h.set 0 u0).set 1 u1
  simpa using this
 ·rw[Below.heap_setCell _ _ _ _ hi,Below.heap_setCell _ _ _ _ hi]
end Prf
end Go.Proofs.YtcjgimlcefhhmaaGreatDoor
namespace Go.Proofs.YtcjgimlcefhhmaaGreatDoor
namespace Prf
open Go.RowKit Go.Lib
section
variable {α:Type}{enc:α→List Value}{sz:Nat}
def OwnU (w:World)(base:Nat)(e:TypeId)(sz:Nat)(enc:α→List Value)(v:Value)(l:List α):Prop:=OwnL w base e sz enc v l∧∀ g,v.ownBlock=some g→NoU w g
theorem OwnU.nil (w:World)(base:Nat)(e:TypeId):OwnU w base e sz enc (.slice none 0 0) []:=⟨OwnL.nil w base _,fun g h=>by cases h⟩
theorem OwnU.grow {w w':World}{base:Nat}{e:TypeId}{v:Value}{l:List α}(h:OwnU w base e sz enc v l)(g:Gr w w'):OwnU w' base e sz enc v l:=by
 refine⟨h.1.grow g,fun b hb=>?_⟩
 obtain⟨a,t,h1,h2⟩:=h.2 b hb
 have hlt:=(World.ownsRow.lt h.1 b hb).2
 exact⟨a,t,by rw[Below.block g b hlt];exact h1,h2⟩
theorem OwnU.kept {w w':World}{base:Nat}{e:TypeId}{v:Value}{l:List α}{row:Option Nat}(h:OwnU w base e sz enc v l)(hg:w.grownBy w' row)(hne:∀ g,v.ownBlock=some g→some g≠row):OwnU w' base e sz enc v l:=by
 refine⟨World.ownsRow.kept h.1 hg ?_,fun g hb=>?_⟩
 ·cases hv:v.ownBlock with
  | none=>exact .inl rfl
  | some g=>exact .inr (hne g hv)
 ·obtain⟨a,t,h1,h2⟩:=h.2 g hb
  have hlt:=(World.ownsRow.lt h.1 g hb).2
  exact⟨a,t,(hg.block g hlt (hne g hb)).trans h1,h2⟩
theorem Ru (t e ty:TypeId)(z:Value)(bytes:Nat)(ht:Tryz.prog.underlying t=some (.slice e))(hinfo:(Tryz.prog.info? e).map (fun i=>(i.zero,i.size,i.bytes))=some (some z,sz,bytes))(hzs:z.cells.size=sz)(hsz:0 < sz)(hby:bytes≤1000)
  (he:∀ x,(enc x).length=sz) (h1c:∀ x,∀ u ∈ enc x,u.oneCell'=true) (hu:∀ x,∀ u ∈ enc x,∀ k,u≠Value.int .u32 k) (hz:∀ n,∀ u ∈ Builtin.zeroCells z.cells n,∀ k,u≠Value.int .u32 k)
  (w:World) (base:Nat) (v vx:Value) (l:List α) (x:α) (hown:OwnU w base e sz enc v l) (hm:SlL w sz enc vx [x]) (hlen:l.length≤1000000) (hbase:base≤w.heap.size):
  ∃ v' w',(Builtin.append_ #[t,t] ty #[v,vx]).run Tryz.prog w = .ok v' w'∧OwnU w' base e sz enc v' (l ++ [x])∧w.grownBy w' v.ownBlock∧Dk w w'∧(v'.ownBlock=v.ownBlock∨v'.ownBlock=some w.heap.size):=by
 have hb1:(l.length+1) * bytes≤140737488355328:=Nat.le_trans (Nat.mul_le_mul_left _ hby) (by omega)
 obtain⟨v',w',hr,h1,h2,h3⟩:=Pe (ty:=ty) t e z bytes ht hinfo hzs hsz he h1c base v vx l [x] hown.1 hm (by simpa using hb1) (by simp;omega) hbase (by simp)
 refine⟨v',w',hr,⟨h1,fun g hg=>?_⟩,h2,Dk.grown h2 hown.2,h3⟩
 have hul:∀ (m:List α),∀ u ∈ m.flatMap enc,∀ k,u≠Value.int .u32 k:=fun m u hm=>by
  obtain⟨y,_,hy⟩:=List.mem_flatMap.1 hm
  exact hu y u hy
 obtain⟨i0,hi,hz0,hz1,hz2⟩:=info_parts hinfo
 obtain⟨hd,p,c,rfl,k1,k2,k3⟩:=hm
 rcases k3 with rfl|⟨b,off,rfl,hc⟩
 ·simp at k1
 have hnews:∀ j u,(([x]:List α).flatMap enc)[j]?=some u→w.cell? ((⟨b,off,none⟩:Addr).add j)=some u:=fun j u hu=>by rw[Na];exact hc j u hu
 have hml:(([x]:List α).flatMap enc).length=1 * i0.size:=by rw[hz1];exact Kv he [x]
 have hu1:=hul [x]
 rcases hown.1.2 with⟨rfl,h0⟩|⟨g0,cap,cur,rfl,hbg,hg0,hnc,hcm,hcs,htake⟩
 ·have hr2:=run_append_nil (P:=Tryz.prog) w t ty e i0 _ ht hi hz0 ⟨b,off,none⟩ 1 c _ hml hnews (by omega) (by omega) (by rw[hz2];omega)
  have e1:=hr.symm.trans hr2
  injection e1 with e2 e3
  subst e2 e3
  obtain rfl:w.heap.size=g:=by simpa[Value.ownBlock] using hg
  refine⟨_,_,heap_alloc_new w.drew _,fun i z e=>?_⟩
  rcases Array.mem_append.1 (Array.mem_of_getElem? e) with h|h
  ·exact hu1 _ (by simpa using h) z rfl
  ·exact hz _ _ h z rfl
 ·by_cases hroom:l.length+1≤cap
  ·have hfit:l.length * i0.size+(([x]:List α).flatMap enc).length≤cur.size:=by
    have:=Nat.mul_le_mul_right sz hroom
    rw[hml,hcs,hz1,← Nat.add_mul];exact this
   have hr2:=run_append_room (P:=Tryz.prog) w t ty e i0 ht hi g0 l.length cap cur hg0 ⟨b,off,none⟩ 1 c _ hml hnews (fun u hu=>h1c x u (by simpa using hu)) hroom hfit
   have e1:=hr.symm.trans hr2
   injection e1 with e2 e3
   subst e2 e3
   obtain rfl:g0=g:=by simpa[Value.ownBlock] using hg
   obtain⟨a,ta,ha1,ha2⟩:=hown.2 g0 rfl
   rw[hg0] at ha1
   injection ha1 with ha1
   injection ha1 with q1 q2 q3
   subst q1
   refine⟨(cur.toList.take (l.length * i0.size) ++ ([x]:List α).flatMap enc ++ cur.toList.drop (l.length * i0.size+(([x]:List α).flatMap enc).length)).toArray,e,by simp[World.setRow,Array.getElem?_modify,hg0],fun i z e=>?_⟩
   have hmem:=Array.mem_of_getElem? e
   rw[List.mem_toArray] at hmem
   rcases List.mem_append.1 hmem with h|h
   ·rcases List.mem_append.1 h with h|h
    ·obtain⟨j,hj,hje⟩:=List.getElem_of_mem (List.mem_of_mem_take h)
     exact ha2 j z (by rw[← hje];simp at hj;simp[hj])
    ·exact hu1 _ h z rfl
   ·obtain⟨j,hj,hje⟩:=List.getElem_of_mem (List.mem_of_mem_drop h)
    exact ha2 j z (by rw[← hje];simp at hj;simp[hj])
  ·have holds:∀ j u,(l.flatMap enc)[j]?=some u→w.cell? ((⟨g0,0,none⟩:Addr).add j)=some u:=World.ownsRow.cells (show w.ownsRow base e sz _ l.length (l.flatMap enc) from hown.1) (g:=g0) rfl
   have hr2:=run_append_grow (P:=Tryz.prog) w t ty e i0 _ ht hi hz0 ⟨g0,0,none⟩ l.length cap _ (by rw[hz1];exact Kv he l) holds ⟨b,off,none⟩ 1 c _ hml hnews (by omega) (by omega) (growslice_fits (by omega) (by rw[hz2];exact hb1))
   have e1:=hr.symm.trans hr2
   injection e1 with e2 e3
   subst e2 e3
   obtain rfl:w.heap.size=g:=by simpa[Value.ownBlock] using hg
   refine⟨_,_,heap_alloc_new w.drew _,fun i z e=>?_⟩
   rcases Array.mem_append.1 (Array.mem_of_getElem? e) with h|h
   ·rcases Array.mem_append.1 h with h|h
    ·exact hul l _ (by simpa using h) z rfl
    ·exact hu1 _ (by simpa using h) z rfl
   ·exact hz _ _ h z rfl
end
theorem P8 {P:Program}{a:Act}{o:Oper}{Q:Exit→Act→World→Prop}{K:Act→World→Prop}{w:World}(s x:Operand)(t:TypeId)(ho:o.op = .call { callee:=.builtin .append,args:=#[s,x],argTypes:=#[t,t] })(v vx v':Value)(w':World)
  (hs:a.eval s=v) (hx:a.eval x=vx) (hr:(Builtin.append_ #[t,t] o.type #[v,vx]).run P w = .ok v' w') (h:K (a.put o.dst v') w'):Oper.wp P o a w K Q:=by
 unfold Oper.wp execOp
 simp only[ho,resolve,invoke,builtin,Sem.run_bind,Sem.run_pure,Result.andThen_ok,List.map_toArray,List.map_cons,List.map_nil,hs,hx,hr]
 exact h
theorem J0b (n:Nat):∀ u ∈ Builtin.zeroCells (Value.agg #[.bool false,.slice none 0 0,.slice none 0 0]).cells n,∀ z,u≠Value.int .u32 z:=fun u hu z=>by
 obtain⟨i,_,rfl⟩:=Array.mem_map.1 hu
 have h3:i % 3=0∨i % 3=1∨i % 3=2:=by omega
 simp only[Value.cells]
 rcases h3 with h|h|h<;>simp[h,Value.cells]
theorem Xf:∀ x,∀ u ∈ encRat x,∀ z,u≠Value.int .u32 z:=fun x u hu z=>by
 simp[encRat] at hu
 rcases hu with rfl|rfl|rfl<;>(intro h;cases h)
theorem Xe:∀ x,∀ u ∈ encRat x,u.oneCell'=true:=fun x u hu=>by
 simp[encRat] at hu
 rcases hu with rfl|rfl|rfl<;>rfl
theorem J0a:(Tryz.prog.info? 68).map (fun i=>(i.zero,i.size,i.bytes))=some (some (.agg #[.bool false,.slice none 0 0,.slice none 0 0]),3,56):=by kernel_rfl
structure Jy (w:World)(base:Nat)(v:Value)(xs:List Rat)(L:Nat):Prop where
 ex:∃ T:List RatM,OwnU w base 68 3 encRat v T∧T.length=xs.length∧∀ (i:Nat) (t:RatM),T[i]?=some t→RatV w t.v (atQ xs i) L
theorem Jy.grow {w w':World}{base:Nat}{v:Value}{xs:List Rat}{L:Nat}(h:Jy w base v xs L)(g:Gr w w'):Jy w' base v xs L:=by
 obtain⟨T,h1,h2,h3⟩:=h.ex
 exact⟨T,h1.grow g,h2,fun i t ht=>(h3 i t ht).grow g⟩
theorem Jy.nil (w:World)(base L:Nat):Jy w base (.slice none 0 0) [] L:=⟨[],OwnU.nil _ _ _,rfl,fun i t h=>by simp at h⟩
theorem Jy.read {w:World}{base:Nat}{v:Value}{xs:List Rat}{L:Nat}(h:Jy w base v xs L):Kx w v xs L:=by
 obtain⟨T,h1,h2,h3⟩:=h.ex
 exact⟨T,h1.1.read,h2,h3⟩
theorem Jy.push {w:World}{base:Nat}{v vx:Value}{xs:List Rat}{L:Nat}{x:Rat}{u:RatM}(ty:TypeId)(h:Jy w base v xs L)(hm:SlL w 3 encRat vx [u])(hx:RatV w u.v x L)(hl:xs.length≤1000000)(hb:base≤w.heap.size):
  ∃ v' w',(Builtin.append_ #[33,33] ty #[v,vx]).run Tryz.prog w = .ok v' w'∧Jy w' base v' (xs ++ [x]) L∧w.grownBy w' v.ownBlock∧Dk w w':=by
 obtain⟨T,h1,h2,h3⟩:=h.ex
 obtain⟨v',w',hr,k1,k2,k3,k4⟩:=Ru 33 68 ty _ 56 Tryz.underlying33 J0a rfl (by decide) (by decide) Ku Xe Xf J0b w base v vx T u h1 hm (by omega) hb
 refine⟨v',w',hr,⟨T ++ [u],k1,by simp[h2],fun i t ht=>?_⟩,k2,k3⟩
 by_cases hi:i < T.length
 ·rw[List.getElem?_append_left hi] at ht
  have e:atQ (xs ++ [x]) i=atQ xs i:=by unfold atQ;rw[List.getElem?_append_left (by omega)]
  rw[e]
  exact Pw (h3 i t ht) k3
 ·rw[List.getElem?_append_right (by omega)] at ht
  have h0:i - T.length=0:=by
   rcases Nat.eq_zero_or_pos (i - T.length) with h|h
   ·exact h
   ·rw[List.getElem?_eq_none (by simp;omega)] at ht;cases ht
  rw[h0] at ht
  cases ht
  have e:atQ (xs ++ [x]) i=x:=by
   unfold atQ
   rw[List.getElem?_append_right (by omega),show i - xs.length=0 by omega]
   rfl
  rw[e]
  exact Pw hx k3
theorem Ts {w:World}{v:Value}{x:Rat}{L:Nat}(h:RatV w v x L):∃ u:RatM,v=u.v∧RatV w u.v x L:=by
 obtain⟨n,l,d,⟨p,k,c,q,m,e,rfl,h1,h2⟩,h3⟩:=h
 exact⟨⟨n,p,k,c,q,m,e⟩,rfl,n,l,d,⟨p,k,c,q,m,e,rfl,h1,h2⟩,h3⟩
theorem Lr {n:Int}(h:I64 n):Sz 4 (n:Rat):=Uj (by obtain⟨h1,h2⟩:=h;omega)
theorem Jy.made (w:World)(L b:Nat)(hb:w.heap.size=b):Gr w (w.alloc (.cells #[] 68))∧Jy (w.alloc (.cells #[] 68)) w.heap.size (.slice (some ⟨b,0,none⟩) 0 0) [] L:=by
 subst hb
 exact
 ⟨(Gr.refl w).alloc _,[],⟨OwnL.made0 w w.heap.size _ (Nat.le_refl _),fun g hg=>by
  obtain rfl:w.heap.size=g:=by simpa[Value.ownBlock] using hg
  exact⟨#[],_,heap_alloc_new w _,fun i z h=>by simp at h⟩⟩,rfl,fun i t h=>by simp at h⟩
theorem Jy.gr {W w w':World}{v:Value}{xs:List Rat}{L:Nat}(h:Jy w W.heap.size v xs L)(g:Gr W w)(hg:w.grownBy w' v.ownBlock):Gr W w':=by
 obtain⟨T,h1,_,_⟩:=h.ex
 exact OwnL.gr h1.1 g hg
theorem Jy.parts {w:World}{base:Nat}{v:Value}{xs:List Rat}{L n:Nat}(h:Jy w base v xs L)(hn:xs.length=n):∃ p c,v = .slice p n c:=by
 obtain⟨p,c,e,_,_⟩:=h.read.parts
 rw[hn] at e
 exact⟨p,c,e⟩
theorem J5B (w:World)(v:Value)(p:Prg)(q:Option Addr)(c L:Nat)(xs:List Rat)(hp:Jv w v p)(hx:Kx w (.slice q xs.length c) xs L)(hn:p.vars.length≤1000):
  Calls Tryz.prog 56 #[v,.slice q xs.length c] w (Ret w fun r w'=>∃ q' d,r = .slice q' p.vars.length d∧Ke w' (.slice q' p.vars.length d) p.vars.length (atQ xs) L):=by
 have HX:=ξ hx
 clear hx
 obtain⟨va,vc,vb,vd,rfl,hv,hr⟩:=hp
 have HV:=ξ hv
 have HR:=ξ hr
 obtain⟨_,_,_,hvb1,hvb2⟩:=SlL.parts hv
 obtain⟨_,_,_,hrb1,hrb2⟩:=hr.parts
 clear hv hr
 have B0:=Ja.new w #[.slice va p.vars.length vc,.slice vb p.rows.length vd] 25
 have HB:=ξ B0
 unfold prgV
 clear B0
 have HWS:=ξ (World.size_alloc w (.cells #[.slice va p.vars.length vc,.slice vb p.rows.length vd] 25))
 go_enter Tryz.func56,Tryz.ntmps56
 go_wp2_with fail
 generalize w.heap.size=bp at HB HWS ⊢
 generalize w.alloc _=W at HB HWS ⊢
 have G:=ξ HB.out.1
 have TP:=ξ HB.out.2
 clear HB
 have HM:=ξ (Jy.made W L (bp+1) HWS.out)
 generalize W.alloc _=W2 at HM ⊢
 go_loopw [5,6] (fun u i w9=>∃ (k:Nat) (W1:World),W1=w9∧i = .int .i64 (k:Int)∧k≤p.vars.length∧Gr W W1∧(∃ p c,u = .slice p k c)∧Jy W1 W.heap.size u ((List.range k).map (atQ xs)) L) (fun _ i _=>p.vars.length - (RowKit.intOf i).toNat)
 case atStart=>exact⟨0,_,rfl,rfl,Nat.zero_le _,HM.out.1,⟨_,_,rfl⟩,HM.out.2⟩
 case round=>
  clear HM
  obtain⟨k,W1,rfl,rfl,hk,hg,⟨p1,c1,rfl⟩,ho⟩:=hrel
  have GL:=ξ hg
  have HOU:=ξ ho
  clear hg ho
  have y0:=(TP.out.grow GL.out).at 0 rfl
  by_cases hlt:k < p.vars.length
  ·have hlt':(k:Int) < (p.vars.length:Int):=by omega
   go_wp2_with fail
   clear y0
   refine(Mk W1 q c xs L k (HX.out.grow (G.out.trans GL.out))).mono ?_
   rintro _ w3 ⟨r,rfl,g3,hr⟩
   obtain⟨u,rfl,hu⟩:=Ts hr
   have HU:=ξ hu
   have GW:=ξ g3
   have G3:=ξ (GL.out.trans g3)
   clear hr hu g3
   unfold RatM.v
   go_wp2_with (at_builtin;refine Hold.hold ?_)
   have BS:=SlL.new (enc:=encRat) (sz:=3) w3 68 Ku [u] #[.bool u.n,.slice u.p u.k u.c,.slice u.q u.m u.e] 1 rfl rfl (by decide)
   have HO5:=ξ (HOU.out.grow (GW.out.trans BS.1))
   have HU5:=ξ (HU.out.grow BS.1)
   have G5:=ξ (G3.out.trans BS.1)
   have HBS:=ξ BS.2
   clear BS
   generalize w3.heap.size=bs at HBS ⊢
   generalize w3.alloc _=W5 at HO5 HU5 G5 HBS ⊢
   refine Hold.go ?_
   refine wpList_plain rfl (fun K hK=>?_)
   obtain⟨v6,W6,hr6,ho6,hg6,hd6⟩:=Jy.push 33 HO5.out HBS.out HU5.out (by simp;omega) G5.out.size
   have G6:=ξ (Jy.gr HO5.out G5.out hg6)
   obtain⟨p6,c6,hv6⟩:=ho6.parts (n:=k+1) (by simp)
   subst hv6
   have HO6:=ξ ho6
   clear ho6 hg6 hd6
   refine P8 _ _ _ rfl _ _ _ W6 rfl rfl hr6 ?_
   clear hr6
   refine hK _ _ ?_
   clear hK K
   have hk1:IntKind.i64.wrap ((k:Int)+1)=(k:Int)+1:=by rw[IntKind.wrap_i64];omega
   go_wp2_with fail
   exact⟨⟨k+1,_,rfl,by go_num,by omega,G6.out,⟨p6,c6,rfl⟩,by have h:=HO6.out;rw[List.range_succ,List.map_append];exact h⟩,by simp[RowKit.intOf];omega⟩
  ·obtain rfl:k=p.vars.length:=by omega
   go_wp2_with fail
   go_ret
   refine⟨_,rfl,G.out.trans GL.out,p1,c1,rfl,?_⟩
   obtain⟨T,h1,h2,h3⟩:=HOU.out.read
   refine⟨T,h1,by simpa using h2,fun i t ht=>?_⟩
   have hi:=(List.getElem?_eq_some_iff.1 ht).1
   have e:atQ ((List.range p.vars.length).map (atQ xs)) i=atQ xs i:=by
    have hl:i < p.vars.length:=by simpa using(show i < ((List.range p.vars.length).map (atQ xs)).length by omega)
    conv=>lhs;unfold atQ
    rw[List.getElem?_map,List.getElem?_range hl]
    rfl
   rw[← e]
   exact h3 i t ht
theorem J3V {l:List Int}{k:Nat}{x:Int}(h:l[k]?=some x):(l.take (k+1)).map (fun z:Int=>(z:Rat))=(l.take k).map (fun z:Int=>(z:Rat)) ++ [(x:Rat)]:=by
 obtain⟨hk,rfl⟩:=List.getElem?_eq_some_iff.1 h
 rw[List.take_succ_eq_append_getElem hk,List.map_append]
 rfl
theorem J5x (w:World)(p:Option Addr)(n c:Nat)(l:List Int)(hl:K5 w (.slice p n c) l)(hn:l.length=n)(hb:n≤1000)(hi:∀ y ∈ l,I64 y):
  Calls Tryz.prog 13 #[.slice p n c] w (Ret w fun r w'=>∃ q' d,r = .slice q' n d∧Kx w' (.slice q' n d) (l.map fun z:Int=>(z:Rat)) 4):=by
 have HL:=ξ hl
 have HN:=ξ hn
 have HI:=ξ hi
 clear hl hn hi
 go_enter Tryz.func13,Tryz.ntmps13
 go_wp2_with fail
 have HM:=ξ (Jy.made w 4 _ rfl)
 generalize w.alloc _=W2 at HM ⊢
 go_loopw [3,4] (fun u i w9=>∃ (k:Nat) (W1:World),W1=w9∧i = .int .i64 (k:Int)∧k≤n∧Gr w W1∧(∃ p c,u = .slice p k c)∧Jy W1 w.heap.size u ((l.take k).map fun z:Int=>(z:Rat)) 4) (fun _ i _=>n - (RowKit.intOf i).toNat)
 case atStart=>exact⟨0,_,rfl,rfl,Nat.zero_le _,HM.out.1,⟨_,_,rfl⟩,HM.out.2⟩
 case round=>
  clear HM
  obtain⟨k,W1,rfl,rfl,hk,hg,⟨p1,c1,rfl⟩,ho⟩:=hrel
  have GL:=ξ hg
  have HOU:=ξ ho
  clear hg ho
  by_cases hlt:k < n
  ·have hlt':(k:Int) < (n:Int):=by omega
   obtain⟨b,o,x,rfl,hx,hc⟩:=L2 HL.out HN.out hlt
   have c0:=hc W1 GL.out
   have HX:=ξ hx
   have HIX:=ξ (HI.out x (List.mem_of_getElem? hx))
   clear hx hc
   go_wp2_with fail
   clear c0
   refine(Lj W1 x HIX.out.1 HIX.out.2).mono ?_
   rintro _ w3 ⟨r,rfl,g3,hr⟩
   obtain⟨u,rfl,hu⟩:=Ts (hr.v (Lr HIX.out))
   have HU:=ξ hu
   have GW:=ξ g3
   have G3:=ξ (GL.out.trans g3)
   have hkl:((l.take k).map fun z:Int=>(z:Rat)).length=k:=by have:=HN.out;simp;omega
   clear hr hu g3
   unfold RatM.v
   go_wp2_with (at_builtin;refine Hold.hold ?_)
   have BS:=SlL.new (enc:=encRat) (sz:=3) w3 68 Ku [u] #[.bool u.n,.slice u.p u.k u.c,.slice u.q u.m u.e] 1 rfl rfl (by decide)
   have HO5:=ξ (HOU.out.grow (GW.out.trans BS.1))
   have HU5:=ξ (HU.out.grow BS.1)
   have G5:=ξ (G3.out.trans BS.1)
   have HBS:=ξ BS.2
   clear BS
   generalize w3.heap.size=bs at HBS ⊢
   generalize w3.alloc _=W5 at HO5 HU5 G5 HBS ⊢
   refine Hold.go ?_
   refine wpList_plain rfl (fun K hK=>?_)
   obtain⟨v6,W6,hr6,ho6,hg6,hd6⟩:=Jy.push 33 HO5.out HBS.out HU5.out (by rw[hkl];omega) G5.out.size
   have G6:=ξ (Jy.gr HO5.out G5.out hg6)
   obtain⟨p6,c6,hv6⟩:=ho6.parts (n:=k+1) (by rw[List.length_append,hkl];rfl)
   subst hv6
   have HO6:=ξ ho6
   clear ho6 hg6 hd6 hkl
   refine P8 _ _ _ rfl _ _ _ W6 rfl rfl hr6 ?_
   clear hr6
   refine hK _ _ ?_
   clear hK K
   have hk1:IntKind.i64.wrap ((k:Int)+1)=(k:Int)+1:=by rw[IntKind.wrap_i64];omega
   go_wp2_with fail
   exact⟨⟨k+1,_,rfl,by go_num,by omega,G6.out,⟨p6,c6,rfl⟩,by have h:=HO6.out;rw[J3V HX.out];exact h⟩,by simp[RowKit.intOf];omega⟩
  ·obtain rfl:k=n:=by omega
   go_wp2_with fail
   go_ret
   refine⟨_,rfl,GL.out,p1,c1,rfl,?_⟩
   have h:=HOU.out.read
   rw[List.take_of_length_le (by have:=HN.out;omega)] at h
   have e:=HN.out
   obtain⟨T,h1,h2,h3⟩:=h
   exact⟨T,h1,h2,h3⟩
end Prf
end Go.Proofs.YtcjgimlcefhhmaaGreatDoor

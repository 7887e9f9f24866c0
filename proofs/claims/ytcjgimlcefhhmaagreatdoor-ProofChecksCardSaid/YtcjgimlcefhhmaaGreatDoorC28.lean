/- Texts: Map. -/
import Derived.Test.YtcjgimlcefhhmaaGreatDoorC14
set_option linter.unusedVariables false
set_option linter.unusedSimpArgs false
set_option maxRecDepth 100000
set_option maxHeartbeats 12800000
namespace Go.Proofs.YtcjgimlcefhhmaaGreatDoor
open Go.RowKit
def fkv (d:TypeDesc)(k:Value):List (Value × Value)→Option (Option Value)
 | []=>some none
 | p :: l=>match Instr.sameNow d k p.1 with
  | some true=>some (some p.2)
  | some false=>fkv d k l
  | none=>none
theorem Tk (d:TypeDesc)(k:Value):∀ (es:List MapEntry) (i:Nat),(Instr.findNow d k es i).map (fun r=>r.map fun y=>y.2)=fkv d k (es.map fun x=>(x.key,x.val))
 | [],_=>rfl
 | e :: es,i=>by
  unfold Instr.findNow;simp only[List.map_cons,fkv]
  cases Instr.sameNow d k e.key with
  | none=>rfl
  | some t=>cases t with
   | true=>rfl
   | false=>exact Tk d k es (i+1)
def Ld (w:World)(r:Nat)(m:List (Value × Value)):Prop:=∃ (es:Array MapEntry) (clock:Nat),w.heap[r]?=some (.map es clock)∧es.toList.map (fun x=>(x.key,x.val))=m
theorem Ld.lt {w:World}{r:Nat}{m:List (Value × Value)}(h:Ld w r m):r < w.heap.size:=by
 obtain⟨es,c,a,_⟩:=h;exact(Array.getElem?_eq_some_iff.1 a).1
theorem Ld.grow {w w':World}{r:Nat}{m:List (Value × Value)}(h:Ld w r m)(g:Gr w w'):Ld w' r m:=by
 have d:=h.lt;obtain⟨es,c,a,b⟩:=h;exact⟨es,c,by rw[Below.block g r d];exact a,b⟩
theorem Ld.new (w:World):Gr w (w.alloc (.map #[] 0))∧Ld (w.alloc (.map #[] 0)) w.heap.size []:=⟨(Gr.refl w).alloc _,#[],0,(MapKept.heap_alloc w _).1,rfl⟩
theorem Lr {P:Program}{w:World}{r:Nat}{m:List (Value × Value)}(h:Ld w r m){t n o:TypeId}{d:TypeDesc}{key v:Value}(l:P.underlying t=some (.map n o))(b:P.underlying n=some d)(j:MapKept.IsKey d key)
  (k:fkv d key m=some (some v)):(Instr.lookup t (.map (some r)) key false).run P w = .ok v w∧(Instr.lookup t (.map (some r)) key true).run P w = .ok (.tuple #[v,.bool true]) w:=by
 obtain⟨es,c,f,rfl⟩:=h;rw[← Tk d key es.toList 0] at k;rcases Option.map_eq_some_iff.1 k with⟨a,g,p⟩
 rcases Option.map_eq_some_iff.1 p with⟨⟨i,u⟩,rfl,rfl⟩
 exact⟨by simp[Instr.lookup,run_underlying l,MapKept.run_getObj_map f,MapKept.run_checkKey b j es.isEmpty 9999,MapKept.run_findKey b g,Result.andThen],
  by simp[Instr.lookup,run_underlying l,MapKept.run_getObj_map f,MapKept.run_checkKey b j es.isEmpty 9999,MapKept.run_findKey b g,Result.andThen]⟩
theorem Uy {P:Program}{w:World}{r:Nat}{m:List (Value × Value)}(h:Ld w r m){t p f:TypeId}{d:TypeDesc}{key z:Value}(n:P.underlying t=some (.map p f))(b:P.underlying p=some d)(k:MapKept.IsKey d key)
  (o:(zeroValue f).run P w = .ok z w) (l:fkv d key m=some none):(Instr.lookup t (.map (some r)) key false).run P w = .ok z w∧(Instr.lookup t (.map (some r)) key true).run P w = .ok (.tuple #[z,.bool false]) w:=by
 obtain⟨es,c,g,rfl⟩:=h;rw[← Tk d key es.toList 0] at l;rcases Option.map_eq_some_iff.1 l with⟨a,i,j⟩
 rw[Option.map_eq_none_iff] at j;subst j;exact⟨by simp[Instr.lookup,run_underlying n,MapKept.run_getObj_map g,MapKept.run_checkKey b k es.isEmpty 9999,MapKept.run_findKey b i,o,Result.andThen],
  by simp[Instr.lookup,run_underlying n,MapKept.run_getObj_map g,MapKept.run_checkKey b k es.isEmpty 9999,MapKept.run_findKey b i,o,Result.andThen]⟩
theorem K2 {P:Program}{w:World}{es g:Array MapEntry}{c:Nat}{t f n:TypeId}{d:TypeDesc}{key:Value}(v:Value)(y:P.underlying t=some (.map f n))(j:P.underlying f=some d)(r:MapKept.IsKey d key)
  (u:Instr.findNow d key es.toList 0=some none) (s:es.push { key:=key,val:=v,born:=c }=g):
  (Instr.mapUpdate t (.map (some w.heap.size)) key v).run P (w.alloc (.map es c)) = .ok () (w.alloc (.map g (c+1))):=by
 subst s;have i:=(MapKept.heap_alloc w (.map es c)).1;have q:(Instr.checkKey false 10000 f key).run P (w.alloc (.map es c)) = .ok () (w.alloc (.map es c)):=MapKept.run_checkKey j r false 9999;have k:∀ o,(w.alloc o).heap=w.heap.push o:=fun _=>rfl;have m:(w.heap.push (Obj.map es c)).setIfInBounds w.heap.size (.map (es.push { key:=key,val:=v,born:=c }) (c+1))=w.heap.push (.map (es.push { key:=key,val:=v,born:=c }) (c+1)):=by
  have:∀ (l:List Obj) (a b:Obj),(l ++ [a]).set l.length b=l ++ [b]:=fun l a b=>by
   induction l with
   | nil=>rfl
   | cons x l ih=>simp
  apply Array.ext';have h:=this w.heap.toList (.map es c) (.map (es.push { key:=key,val:=v,born:=c }) (c+1));simp
 have e:∀ o:Obj,{ w.alloc (.map es c) with heap:=w.heap.push o }=w.alloc o:=fun _=>rfl;have p:(setObj w.heap.size (.map (es.push { key:=key,val:=v,born:=c }) (c+1))).run P (w.alloc (.map es c)) = .ok () (w.alloc (.map (es.push { key:=key,val:=v,born:=c }) (c+1))):=by
  rw[MapKept.run_setObj_map _ i,k,m,e]
 simp[Instr.mapUpdate,run_underlying y,MapKept.run_getObj_map i,q,MapKept.run_findKey j u,p,Result.andThen]
end Go.Proofs.YtcjgimlcefhhmaaGreatDoor

/- Texts: Map. -/
import Derived.MapKept
import Derived.Test.YtcjgimlcefhhmaaGreatDoorU20
set_option linter.unusedVariables false
set_option linter.unusedSimpArgs false
set_option maxRecDepth 100000
set_option maxHeartbeats 12800000
namespace Go.Proofs.YtcjgimlcefhhmaaGreatDoor
open Go.RowKit
def fkv (d:TypeDesc)(k:Value):List (Value × Value)→Option (Option Value)
 | []=>some none
 | p :: l=>match Instr.sameNow d k p.1 with
  | some true=>some (some p.2)
  | some false=>fkv d k l
  | none=>none
theorem Sr (d:TypeDesc)(k:Value):∀ (es:List MapEntry) (i:Nat),(Instr.findNow d k es i).map (fun r=>r.map fun y=>y.2)=fkv d k (es.map fun x=>(x.key,x.val))
 | [],_=>rfl
 | e :: es,i=>by
  unfold Instr.findNow
  simp only[List.map_cons,fkv]
  cases Instr.sameNow d k e.key with
  | none=>rfl
  | some t=>cases t with
   | true=>rfl
   | false=>exact Sr d k es (i+1)
def K0 (w:World)(r:Nat)(m:List (Value × Value)):Prop:=∃ (es:Array MapEntry) (clock:Nat),w.heap[r]?=some (.map es clock)∧es.toList.map (fun x=>(x.key,x.val))=m
theorem K0.lt {w:World}{r:Nat}{m:List (Value × Value)}(h:K0 w r m):r < w.heap.size:=by
 obtain⟨es,c,h1,_⟩:=h
 exact(Array.getElem?_eq_some_iff.1 h1).1
theorem K0.grow {w w':World}{r:Nat}{m:List (Value × Value)}(h:K0 w r m)(g:Gr w w'):K0 w' r m:=by
 have hlt:=h.lt
 obtain⟨es,c,h1,h2⟩:=h
 exact⟨es,c,by rw[Below.block g r hlt];exact h1,h2⟩
theorem K0.new (w:World):Gr w (w.alloc (.map #[] 0))∧K0 (w.alloc (.map #[] 0)) w.heap.size []:=⟨(Gr.refl w).alloc _,#[],0,(MapKept.heap_alloc w _).1,rfl⟩
theorem K9 {P:Program}{w:World}{r:Nat}{m:List (Value × Value)}(h:K0 w r m){t kt et:TypeId}{d:TypeDesc}{key v:Value}(ht:P.underlying t=some (.map kt et))(hk:P.underlying kt=some d)(hd:MapKept.IsKey d key)
  (hf:fkv d key m=some (some v)):(Instr.lookup t (.map (some r)) key false).run P w = .ok v w∧(Instr.lookup t (.map (some r)) key true).run P w = .ok (.tuple #[v,.bool true]) w:=by
 obtain⟨es,c,h1,rfl⟩:=h
 rw[← Sr d key es.toList 0] at hf
 rcases Option.map_eq_some_iff.1 hf with⟨a,ha,hb⟩
 rcases Option.map_eq_some_iff.1 hb with⟨⟨i,u⟩,rfl,rfl⟩
 exact⟨by simp[Instr.lookup,run_underlying ht,MapKept.run_getObj_map h1,MapKept.run_checkKey hk hd es.isEmpty 9999,MapKept.run_findKey hk ha,Result.andThen],
  by simp[Instr.lookup,run_underlying ht,MapKept.run_getObj_map h1,MapKept.run_checkKey hk hd es.isEmpty 9999,MapKept.run_findKey hk ha,Result.andThen]⟩
theorem Tz {P:Program}{w:World}{r:Nat}{m:List (Value × Value)}(h:K0 w r m){t kt et:TypeId}{d:TypeDesc}{key z:Value}(ht:P.underlying t=some (.map kt et))(hk:P.underlying kt=some d)(hd:MapKept.IsKey d key)
  (hz:(zeroValue et).run P w = .ok z w) (hf:fkv d key m=some none):(Instr.lookup t (.map (some r)) key false).run P w = .ok z w∧(Instr.lookup t (.map (some r)) key true).run P w = .ok (.tuple #[z,.bool false]) w:=by
 obtain⟨es,c,h1,rfl⟩:=h
 rw[← Sr d key es.toList 0] at hf
 rcases Option.map_eq_some_iff.1 hf with⟨a,ha,hb⟩
 rw[Option.map_eq_none_iff] at hb
 subst hb
 exact⟨by simp[Instr.lookup,run_underlying ht,MapKept.run_getObj_map h1,MapKept.run_checkKey hk hd es.isEmpty 9999,MapKept.run_findKey hk ha,hz,Result.andThen],
  by simp[Instr.lookup,run_underlying ht,MapKept.run_getObj_map h1,MapKept.run_checkKey hk hd es.isEmpty 9999,MapKept.run_findKey hk ha,hz,Result.andThen]⟩
theorem Ks {P:Program}{w:World}{es es':Array MapEntry}{c:Nat}{t kt et:TypeId}{d:TypeDesc}{key:Value}(v:Value)(ht:P.underlying t=some (.map kt et))(hk:P.underlying kt=some d)(hd:MapKept.IsKey d key)
  (hf:Instr.findNow d key es.toList 0=some none) (he:es.push { key:=key,val:=v,born:=c }=es'):
  (Instr.mapUpdate t (.map (some w.heap.size)) key v).run P (w.alloc (.map es c)) = .ok () (w.alloc (.map es' (c+1))):=by
 subst he
 have h1:=(MapKept.heap_alloc w (.map es c)).1
 have hc:(Instr.checkKey false 10000 kt key).run P (w.alloc (.map es c)) = .ok () (w.alloc (.map es c)):=MapKept.run_checkKey hk hd false 9999
 have e1:∀ o,(w.alloc o).heap=w.heap.push o:=fun _=>rfl
 have e2:(w.heap.push (Obj.map es c)).setIfInBounds w.heap.size (.map (es.push { key:=key,val:=v,born:=c }) (c+1))=w.heap.push (.map (es.push { key:=key,val:=v,born:=c }) (c+1)):=by
  have:∀ (l:List Obj) (a b:Obj),(l ++ [a]).set l.length b=l ++ [b]:=fun l a b=>by
   induction l with
   | nil=>rfl
   | cons x l ih=>simp
  apply Array.ext'
  have h:=this w.heap.toList (.map es c) (.map (es.push { key:=key,val:=v,born:=c }) (c+1))
  simp
 have e:∀ o:Obj,{ w.alloc (.map es c) with heap:=w.heap.push o }=w.alloc o:=fun _=>rfl
 have h3:(setObj w.heap.size (.map (es.push { key:=key,val:=v,born:=c }) (c+1))).run P (w.alloc (.map es c)) = .ok () (w.alloc (.map (es.push { key:=key,val:=v,born:=c }) (c+1))):=by
  rw[MapKept.run_setObj_map _ h1,e1,e2,e]
 simp[Instr.mapUpdate,run_underlying ht,MapKept.run_getObj_map h1,hc,MapKept.run_findKey hk hf,h3,Result.andThen]
end Go.Proofs.YtcjgimlcefhhmaaGreatDoor

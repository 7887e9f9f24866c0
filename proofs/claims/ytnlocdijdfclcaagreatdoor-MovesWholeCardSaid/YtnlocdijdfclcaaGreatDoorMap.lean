/-
  Maps of the call's own: keys and values in order of their entry; a store of a new key, a look-up.
  catalog.validItem and its closures.
  catalog.validItem.
-/
import Derived.Test.YtnlocdijdfclcaaGreatDoorSlc
import Derived.MapKept
import Derived.Test.YtnlocdijdfclcaaGreatDoorCatB
namespace Go.Proofs.YtnlocdijdfclcaaGreatDoor
open Go.RowKit
set_option linter.unusedVariables false
set_option linter.unusedSimpArgs false

def fkv (d : TypeDesc) (k : Value) : List (Value × Value) → Option (Option Value)
 | [] => some none
 | p :: l => match Instr.sameNow d k p.1 with
  | some true => some (some p.2)
  | some false => fkv d k l
  | none => none
theorem fkv_find (d : TypeDesc) (k : Value) : ∀ (es : List MapEntry) (i : Nat), (Instr.findNow d k es i).map (fun r => r.map fun y => y.2) = fkv d k (es.map fun x => (x.key, x.val))
 | [], _ => rfl
 | e :: es, i => by
  unfold Instr.findNow
  simp only [List.map_cons, fkv]
  cases Instr.sameNow d k e.key with
  | none => rfl
  | some t => cases t with
   | true => rfl
   | false => exact fkv_find d k es (i + 1)
def MapAt (w : World) (r : Nat) (m : List (Value × Value)) : Prop := ∃ (es : Array MapEntry) (clock : Nat), w.heap[r]? = some (.map es clock) ∧ es.toList.map (fun x => (x.key, x.val)) = m
theorem MapAt.lt {w : World} {r : Nat} {m : List (Value × Value)} (h : MapAt w r m) : r < w.heap.size := by
 obtain ⟨es, c, h1, _⟩ := h
 exact (Array.getElem?_eq_some_iff.1 h1).1
theorem MapAt.grow {w w' : World} {r : Nat} {m : List (Value × Value)} (h : MapAt w r m) (g : Gr w w') : MapAt w' r m := by
 have hlt := h.lt
 obtain ⟨es, c, h1, h2⟩ := h
 exact ⟨es, c, by rw [Below.block g r hlt]; exact h1, h2⟩
theorem MapAt.new (w : World) : Gr w (w.alloc (.map #[] 0)) ∧ MapAt (w.alloc (.map #[] 0)) w.heap.size [] := ⟨(Gr.refl w).alloc _, #[], 0, (MapKept.heap_alloc w _).1, rfl⟩
theorem run_lookup_kv {P : Program} {w : World} {r : Nat} {m : List (Value × Value)} (h : MapAt w r m) {t kt et : TypeId} {d : TypeDesc} {key v : Value} (ht : P.underlying t = some (.map kt et)) (hk : P.underlying kt = some d) (hd : MapKept.IsKey d key)
  (hf : fkv d key m = some (some v)) : (Instr.lookup t (.map (some r)) key false).run P w = .ok v w ∧ (Instr.lookup t (.map (some r)) key true).run P w = .ok (.tuple #[v, .bool true]) w := by
 obtain ⟨es, c, h1, rfl⟩ := h
 rw [← fkv_find d key es.toList 0] at hf
 rcases Option.map_eq_some_iff.1 hf with ⟨a, ha, hb⟩
 rcases Option.map_eq_some_iff.1 hb with ⟨⟨i, u⟩, rfl, rfl⟩
 exact ⟨by simp [Instr.lookup, run_underlying ht, MapKept.run_getObj_map h1, MapKept.run_checkKey hk hd es.isEmpty 9999, MapKept.run_findKey hk ha, Result.andThen],
  by simp [Instr.lookup, run_underlying ht, MapKept.run_getObj_map h1, MapKept.run_checkKey hk hd es.isEmpty 9999, MapKept.run_findKey hk ha, Result.andThen]⟩
theorem run_lookup_none {P : Program} {w : World} {r : Nat} {m : List (Value × Value)} (h : MapAt w r m) {t kt et : TypeId} {d : TypeDesc} {key z : Value} (ht : P.underlying t = some (.map kt et)) (hk : P.underlying kt = some d) (hd : MapKept.IsKey d key)
  (hz : (zeroValue et).run P w = .ok z w) (hf : fkv d key m = some none) : (Instr.lookup t (.map (some r)) key false).run P w = .ok z w ∧ (Instr.lookup t (.map (some r)) key true).run P w = .ok (.tuple #[z, .bool false]) w := by
 obtain ⟨es, c, h1, rfl⟩ := h
 rw [← fkv_find d key es.toList 0] at hf
 rcases Option.map_eq_some_iff.1 hf with ⟨a, ha, hb⟩
 rw [Option.map_eq_none_iff] at hb
 subst hb
 exact ⟨by simp [Instr.lookup, run_underlying ht, MapKept.run_getObj_map h1, MapKept.run_checkKey hk hd es.isEmpty 9999, MapKept.run_findKey hk ha, hz, Result.andThen],
  by simp [Instr.lookup, run_underlying ht, MapKept.run_getObj_map h1, MapKept.run_checkKey hk hd es.isEmpty 9999, MapKept.run_findKey hk ha, hz, Result.andThen]⟩
theorem run_store_new {P : Program} {w : World} {r : Nat} {m : List (Value × Value)} (h : MapAt w r m) {t kt et : TypeId} {d : TypeDesc} {key : Value} (v : Value) (ht : P.underlying t = some (.map kt et)) (hk : P.underlying kt = some d) (hd : MapKept.IsKey d key)
  (hf : fkv d key m = some none) : ∃ w', (Instr.mapUpdate t (.map (some r)) key v).run P w = .ok () w' ∧ MapAt w' r (m ++ [(key, v)]) ∧ w.grownBy w' (some r) ∧ ∀ w0, Gr w0 w → w0.heap.size ≤ r → Gr w0 w' := by
 have hlt := h.lt
 obtain ⟨es, c, h1, rfl⟩ := h
 rw [← fkv_find d key es.toList 0] at hf
 rcases Option.map_eq_some_iff.1 hf with ⟨a, ha, hb⟩
 rw [Option.map_eq_none_iff] at hb
 subst hb
 have hset := MapKept.heap_set (o' := .map (es.push { key := key, val := v, born := c }) (c + 1)) h1
 refine ⟨{ w with heap := w.heap.setIfInBounds r (.map (es.push { key := key, val := v, born := c }) (c + 1)) }, ?_, ⟨_, _, hset.1, by simp⟩, ?_, fun w0 g hr => ?_⟩
 ·have hc : (Instr.checkKey false 10000 kt key).run P w = .ok () w := MapKept.run_checkKey hk hd false 9999
  simp [Instr.mapUpdate, run_underlying ht, MapKept.run_getObj_map h1, hc, MapKept.run_findKey hk ha, MapKept.run_setObj_map _ h1, Result.andThen]
 ·exact ⟨rfl, rfl, rfl, by simp, fun k hk hne => hset.2 k (fun e => hne (congrArg some e))⟩
 ·exact ⟨g.os, g.tape, g.output, by have := Gr.size g; (show w0.heap.size ≤ (w.heap.setIfInBounds r _).size); rw [Array.size_setIfInBounds]; exact this, fun k hk => by
   have := Below.block g k hk
   rw [← this]
   exact hset.2 k (by omega)⟩
theorem run_store_alloc {P : Program} {w : World} {es es' : Array MapEntry} {c : Nat} {t kt et : TypeId} {d : TypeDesc} {key : Value} (v : Value) (ht : P.underlying t = some (.map kt et)) (hk : P.underlying kt = some d) (hd : MapKept.IsKey d key)
  (hf : Instr.findNow d key es.toList 0 = some none) (he : es.push { key := key, val := v, born := c } = es') :
  (Instr.mapUpdate t (.map (some w.heap.size)) key v).run P (w.alloc (.map es c)) = .ok () (w.alloc (.map es' (c + 1))) := by
 subst he
 have h1 := (MapKept.heap_alloc w (.map es c)).1
 have hc : (Instr.checkKey false 10000 kt key).run P (w.alloc (.map es c)) = .ok () (w.alloc (.map es c)) := MapKept.run_checkKey hk hd false 9999
 have e1 : ∀ o, (w.alloc o).heap = w.heap.push o := fun _ => rfl
 have e2 : (w.heap.push (Obj.map es c)).setIfInBounds w.heap.size (.map (es.push { key := key, val := v, born := c }) (c + 1)) = w.heap.push (.map (es.push { key := key, val := v, born := c }) (c + 1)) := by
  have : ∀ (l : List Obj) (a b : Obj), (l ++ [a]).set l.length b = l ++ [b] := fun l a b => by
   induction l with
   | nil => rfl
   | cons x l ih => simp
  apply Array.ext'
  have h := this w.heap.toList (.map es c) (.map (es.push { key := key, val := v, born := c }) (c + 1))
  simp
 have e : ∀ o : Obj, { w.alloc (.map es c) with heap := w.heap.push o } = w.alloc o := fun _ => rfl
 have h3 : (setObj w.heap.size (.map (es.push { key := key, val := v, born := c }) (c + 1))).run P (w.alloc (.map es c)) = .ok () (w.alloc (.map (es.push { key := key, val := v, born := c }) (c + 1))) := by
  rw [MapKept.run_setObj_map _ h1, e1, e2, e]
 simp [Instr.mapUpdate, run_underlying ht, MapKept.run_getObj_map h1, hc, MapKept.run_findKey hk hf, h3, Result.andThen]
end Go.Proofs.YtnlocdijdfclcaaGreatDoor
namespace Go.Proofs.YtnlocdijdfclcaaGreatDoor
open Go.RowKit Go.Lib Lex
set_option linter.unusedVariables false
set_option linter.unusedSimpArgs false

abbrev itemV (x : ItemM) : Array Value := #[.string ⟨x.name.toArray⟩, .int .i64 x.kind, .int .i64 x.count, .int .i64 x.load, .int .i64 x.size, .int .i64 x.share, .slice x.onP x.on.length x.onC]
def Odd5 (x : ItemM) : Prop := (x.count = 1 ∨ x.count = 3 ∨ x.count = 5) ∧ x.count = (x.on.length : Int)
theorem in135 (n : Int) : ([1, 3, 5] : List Int).contains n = true ↔ n = 1 ∨ n = 3 ∨ n = 5 := by simp
set_option maxRecDepth 100000 in
set_option maxHeartbeats 800000 in
theorem item_clo1 (w : World) (bx : Nat) (x : ItemM) (hx : Cells w bx (itemV x)) :
  Calls Tryz.prog 118 #[.pointer (some ⟨bx, 0, none⟩)] w (Ret w fun r _ => Tells (Odd5 x) r) := by
 have TX := Lib.hid hx
 clear hx
 have B := Cells.new w #[.int .i64 1, .int .i64 3, .int .i64 5] 3
 have x0 : (w.alloc (.cells #[.int .i64 1, .int .i64 3, .int .i64 5] 3)).cell? ⟨bx, 0, none⟩ = some (.string ⟨x.name.toArray⟩) := (TX.out.grow B.1).at 0 rfl
 have x1 : (w.alloc (.cells #[.int .i64 1, .int .i64 3, .int .i64 5] 3)).cell? ⟨bx, 1, none⟩ = some (.int .i64 x.kind) := (TX.out.grow B.1).at 1 rfl
 have x2 : (w.alloc (.cells #[.int .i64 1, .int .i64 3, .int .i64 5] 3)).cell? ⟨bx, 2, none⟩ = some (.int .i64 x.count) := (TX.out.grow B.1).at 2 rfl
 have x3 : (w.alloc (.cells #[.int .i64 1, .int .i64 3, .int .i64 5] 3)).cell? ⟨bx, 3, none⟩ = some (.int .i64 x.load) := (TX.out.grow B.1).at 3 rfl
 have x4 : (w.alloc (.cells #[.int .i64 1, .int .i64 3, .int .i64 5] 3)).cell? ⟨bx, 4, none⟩ = some (.int .i64 x.size) := (TX.out.grow B.1).at 4 rfl
 have x5 : (w.alloc (.cells #[.int .i64 1, .int .i64 3, .int .i64 5] 3)).cell? ⟨bx, 5, none⟩ = some (.int .i64 x.share) := (TX.out.grow B.1).at 5 rfl
 have x6 : (w.alloc (.cells #[.int .i64 1, .int .i64 3, .int .i64 5] 3)).cell? ⟨bx, 6, none⟩ = some (.slice x.onP x.on.length x.onC) := (TX.out.grow B.1).at 6 rfl
 go_enter Tryz.func118, Tryz.ntmps118
 go_wp2_with fail
 clear x0 x1 x2 x3 x4 x5 x6
 generalize w.heap.size = b at B ⊢
 generalize w.alloc _ = W at B ⊢
 obtain ⟨g0, t0⟩ := B
 have G := Lib.hid g0
 have TX := Lib.hid (TX.out.grow g0)
 refine (Tryz.slices_Contains_int b 0 3 3 [1, 3, 5] x.count W (by decide) (by decide) (fun j hj => ?_)).mono ?_
 ·rcases j with _ | _ | _ | j
  ·exact t0.at 0 rfl
  ·exact t0.at 1 rfl
  ·exact t0.at 2 rfl
  ·simp at hj; omega
 rintro _ w1 ⟨rfl, rfl⟩
 clear t0 g0
 have hc := in135 x.count
 rw [show List.take 3 ([1, 3, 5] : List Int) = [1, 3, 5] from rfl]
 generalize ([1, 3, 5] : List Int).contains x.count = t at hc ⊢
 have HC := Lib.hid hc
 clear hc
 cases t
 ·go_wp2_with fail
  go_ret
  exact ⟨_, rfl, G.out, Tells.no fun h => by have := HC.out.2 h.1; cases this⟩
 ·by_cases c : x.count = (x.on.length : Int)
  ·have d1 : (x.count == (x.on.length : Int)) = true := by simpa using c
   have C := Lib.hid c
   clear c
   have x0 : w1.cell? ⟨bx, 0, none⟩ = some (.string ⟨x.name.toArray⟩) := (TX.out).at 0 rfl
   have x1 : w1.cell? ⟨bx, 1, none⟩ = some (.int .i64 x.kind) := (TX.out).at 1 rfl
   have x2 : w1.cell? ⟨bx, 2, none⟩ = some (.int .i64 x.count) := (TX.out).at 2 rfl
   have x3 : w1.cell? ⟨bx, 3, none⟩ = some (.int .i64 x.load) := (TX.out).at 3 rfl
   have x4 : w1.cell? ⟨bx, 4, none⟩ = some (.int .i64 x.size) := (TX.out).at 4 rfl
   have x5 : w1.cell? ⟨bx, 5, none⟩ = some (.int .i64 x.share) := (TX.out).at 5 rfl
   have x6 : w1.cell? ⟨bx, 6, none⟩ = some (.slice x.onP x.on.length x.onC) := (TX.out).at 6 rfl
   go_wp2_with fail
   go_ret
   exact ⟨_, rfl, G.out, Tells.yes ⟨HC.out.1 (by first | rfl | trivial), C.out⟩⟩
  ·have d1 : (x.count == (x.on.length : Int)) = false := by simpa using c
   have C := Lib.hid c
   clear c
   have x0 : w1.cell? ⟨bx, 0, none⟩ = some (.string ⟨x.name.toArray⟩) := (TX.out).at 0 rfl
   have x1 : w1.cell? ⟨bx, 1, none⟩ = some (.int .i64 x.kind) := (TX.out).at 1 rfl
   have x2 : w1.cell? ⟨bx, 2, none⟩ = some (.int .i64 x.count) := (TX.out).at 2 rfl
   have x3 : w1.cell? ⟨bx, 3, none⟩ = some (.int .i64 x.load) := (TX.out).at 3 rfl
   have x4 : w1.cell? ⟨bx, 4, none⟩ = some (.int .i64 x.size) := (TX.out).at 4 rfl
   have x5 : w1.cell? ⟨bx, 5, none⟩ = some (.int .i64 x.share) := (TX.out).at 5 rfl
   have x6 : w1.cell? ⟨bx, 6, none⟩ = some (.slice x.onP x.on.length x.onC) := (TX.out).at 6 rfl
   go_wp2_with fail
   go_ret
   exact ⟨_, rfl, G.out, Tells.no fun h => C.out h.2⟩
theorem item_clo2 (w : World) (bx : Nat) (x : ItemM) (hx : Cells w bx (itemV x)) :
  Calls Tryz.prog 119 #[.pointer (some ⟨bx, 0, none⟩)] w (Ret w fun r _ => Tells (Within x.count 1 8) r) := by
 have G := Lib.hid (Gr.refl w)
 have TX := Lib.hid hx
 clear hx
 have x0 : w.cell? ⟨bx, 0, none⟩ = some (.string ⟨x.name.toArray⟩) := (TX.out).at 0 rfl
 have x1 : w.cell? ⟨bx, 1, none⟩ = some (.int .i64 x.kind) := (TX.out).at 1 rfl
 have x2 : w.cell? ⟨bx, 2, none⟩ = some (.int .i64 x.count) := (TX.out).at 2 rfl
 have x3 : w.cell? ⟨bx, 3, none⟩ = some (.int .i64 x.load) := (TX.out).at 3 rfl
 have x4 : w.cell? ⟨bx, 4, none⟩ = some (.int .i64 x.size) := (TX.out).at 4 rfl
 have x5 : w.cell? ⟨bx, 5, none⟩ = some (.int .i64 x.share) := (TX.out).at 5 rfl
 have x6 : w.cell? ⟨bx, 6, none⟩ = some (.slice x.onP x.on.length x.onC) := (TX.out).at 6 rfl
 go_enter Tryz.func119, Tryz.ntmps119
 go_wp2_with fail
 refine (cat_within _ _ _ _).mono ?_
 rintro _ w1 ⟨⟨v1, rfl, h1⟩, rfl⟩
 rcases h1.cases with ⟨rfl, k1⟩ | ⟨rfl, k1⟩ <;> have H2 := Lib.hid k1 <;> clear k1 h1
 ·go_wp2_with fail
  go_ret
  exact ⟨_, rfl, G.out, Tells.yes H2.out⟩
 ·go_wp2_with fail
  go_ret
  exact ⟨_, rfl, G.out, Tells.no fun h => H2.out h⟩
theorem item_clo3 (w : World) (bx : Nat) (x : ItemM) (hx : Cells w bx (itemV x)) :
  Calls Tryz.prog 120 #[.pointer (some ⟨bx, 0, none⟩)] w (Ret w fun r _ => Tells (x.count = 1 ∧ x.on.length = 1) r) := by
 have G := Lib.hid (Gr.refl w)
 have TX := Lib.hid hx
 clear hx
 have x0 : w.cell? ⟨bx, 0, none⟩ = some (.string ⟨x.name.toArray⟩) := (TX.out).at 0 rfl
 have x1 : w.cell? ⟨bx, 1, none⟩ = some (.int .i64 x.kind) := (TX.out).at 1 rfl
 have x2 : w.cell? ⟨bx, 2, none⟩ = some (.int .i64 x.count) := (TX.out).at 2 rfl
 have x3 : w.cell? ⟨bx, 3, none⟩ = some (.int .i64 x.load) := (TX.out).at 3 rfl
 have x4 : w.cell? ⟨bx, 4, none⟩ = some (.int .i64 x.size) := (TX.out).at 4 rfl
 have x5 : w.cell? ⟨bx, 5, none⟩ = some (.int .i64 x.share) := (TX.out).at 5 rfl
 have x6 : w.cell? ⟨bx, 6, none⟩ = some (.slice x.onP x.on.length x.onC) := (TX.out).at 6 rfl
 by_cases c : x.count = 1
 ·have e1 : (x.count == 1) = true := by simpa using c
  have C := Lib.hid c
  clear c
  by_cases c2 : x.on.length = 1
  ·have e2 : ((x.on.length : Int) == 1) = true := by
    have : (x.on.length : Int) = 1 := by omega
    simpa using this
   have C2 := Lib.hid c2
   clear c2
   go_enter Tryz.func120, Tryz.ntmps120
   go_wp2_with fail
   go_ret
   exact ⟨_, rfl, G.out, Tells.yes ⟨C.out, C2.out⟩⟩
  ·have e2 : ((x.on.length : Int) == 1) = false := by
    have : ¬ (x.on.length : Int) = 1 := by omega
    simpa using this
   have C2 := Lib.hid c2
   clear c2
   go_enter Tryz.func120, Tryz.ntmps120
   go_wp2_with fail
   go_ret
   exact ⟨_, rfl, G.out, Tells.no fun h => C2.out h.2⟩
 ·have e1 : (x.count == 1) = false := by simpa using c
  have C := Lib.hid c
  clear c
  go_enter Tryz.func120, Tryz.ntmps120
  go_wp2_with fail
  go_ret
  exact ⟨_, rfl, G.out, Tells.no fun h => C.out h.1⟩
theorem int_key {n : Int} : MapKept.IsKey (.int .i64) (.int .i64 n) := by simp [MapKept.IsKey]
theorem stores3 (W : World) (a b c : Value) :
  (Instr.mapUpdate 127 (.map (some W.heap.size)) (.int .i64 0) a).run Tryz.prog (W.alloc (.map #[] 0)) = .ok () (W.alloc (.map #[⟨.int .i64 0, a, 0⟩] 1)) ∧
  (Instr.mapUpdate 127 (.map (some W.heap.size)) (.int .i64 1) b).run Tryz.prog (W.alloc (.map #[⟨.int .i64 0, a, 0⟩] 1)) = .ok () (W.alloc (.map #[⟨.int .i64 0, a, 0⟩, ⟨.int .i64 1, b, 1⟩] 2)) ∧
  (Instr.mapUpdate 127 (.map (some W.heap.size)) (.int .i64 2) c).run Tryz.prog (W.alloc (.map #[⟨.int .i64 0, a, 0⟩, ⟨.int .i64 1, b, 1⟩] 2)) = .ok () (W.alloc (.map #[⟨.int .i64 0, a, 0⟩, ⟨.int .i64 1, b, 1⟩, ⟨.int .i64 2, c, 2⟩] 3)) :=
 ⟨run_store_alloc (es := #[]) (c := 0) a Tryz.underlying127 Tryz.underlying3 int_key rfl rfl,
  run_store_alloc (es := #[⟨.int .i64 0, a, 0⟩]) (c := 1) b Tryz.underlying127 Tryz.underlying3 int_key rfl rfl,
  run_store_alloc (es := #[⟨.int .i64 0, a, 0⟩, ⟨.int .i64 1, b, 1⟩]) (c := 2) c Tryz.underlying127 Tryz.underlying3 int_key rfl rfl⟩
theorem look3 (W : World) (a b c : Value) (k : Int) : (Instr.lookup 127 (.map (some W.heap.size)) (.int .i64 k) false).run Tryz.prog (W.alloc (.map #[⟨.int .i64 0, a, 0⟩, ⟨.int .i64 1, b, 1⟩, ⟨.int .i64 2, c, 2⟩] 3)) =
  .ok (if k = 0 then a else if k = 1 then b else if k = 2 then c else .nilFunc) (W.alloc (.map #[⟨.int .i64 0, a, 0⟩, ⟨.int .i64 1, b, 1⟩, ⟨.int .i64 2, c, 2⟩] 3)) := by
 have h : MapAt (W.alloc (.map #[⟨.int .i64 0, a, 0⟩, ⟨.int .i64 1, b, 1⟩, ⟨.int .i64 2, c, 2⟩] 3)) W.heap.size [(.int .i64 0, a), (.int .i64 1, b), (.int .i64 2, c)] := ⟨_, _, (MapKept.heap_alloc W _).1, rfl⟩
 split
 ·next e => subst e; exact (run_lookup_kv h Tryz.underlying127 Tryz.underlying3 int_key rfl).1
 ·split
  ·next e => subst e; exact (run_lookup_kv h Tryz.underlying127 Tryz.underlying3 int_key rfl).1
  ·split
   ·next e => subst e; exact (run_lookup_kv h Tryz.underlying127 Tryz.underlying3 int_key rfl).1
   ·next e0 e1 e2 =>
    exact (run_lookup_none h Tryz.underlying127 Tryz.underlying3 int_key (by kernel_rfl) (by
     have b0 : (k == 0) = false := by simpa using e0
     have b1 : (k == 1) = false := by simpa using e1
     have b2 : (k == 2) = false := by simpa using e2
     simp [fkv, Instr.sameNow, b0, b1, b2])).1
end Go.Proofs.YtnlocdijdfclcaaGreatDoor
namespace Go.Proofs.YtnlocdijdfclcaaGreatDoor
open Go.RowKit Go.Lib Lex
set_option linter.unusedVariables false
set_option linter.unusedSimpArgs false

theorem ItemOn.grow {w w' : World} {x : ItemM} (h : ItemOn w x) (g : Gr w w') : ItemOn w' x := SlL.grow h g
theorem neq_func {w : World} (f : FuncId) (caps : Array Value) : (binOp .neq 35 (.func (.func f) #[] caps) .nilFunc).run Tryz.prog w = .ok (.bool true) w := by
 have h := Tryz.underlying35
 have h1 : (Op.equal 35 (.func (.func f) #[] caps) .nilFunc).run Tryz.prog w = .ok false w := by
  have h2 : ∀ d : Nat, (Op.equalIn (d + 1) 35 (.func (.func f) #[] caps) .nilFunc).run Tryz.prog w = .ok false w := fun d => by simp [Op.equalIn, run_underlying h]
  exact h2 9999
 simp only [binOp]
 simp [h1]
theorem neq_nil {w : World} : (binOp .neq 35 .nilFunc .nilFunc).run Tryz.prog w = .ok (.bool false) w := by
 have h := Tryz.underlying35
 have h1 : (Op.equal 35 .nilFunc .nilFunc).run Tryz.prog w = .ok true w := by
  have h2 : ∀ d : Nat, (Op.equalIn (d + 1) 35 .nilFunc .nilFunc).run Tryz.prog w = .ok true w := fun d => by simp [Op.equalIn, run_underlying h]
  exact h2 9999
 simp only [binOp]
 simp [h1]
set_option maxRecDepth 100000 in
set_option maxHeartbeats 1600000 in
theorem cat_validItem (w : World) (P : Ptrs) (M : Mdl) (x : ItemM) (hm : MdlAt w P M) (hx : ItemOn w x) (hb : x.on.length ≤ 1000000) :
  Calls Tryz.prog 72 #[.agg (mcells P M), .agg (itemV x)] w (Ret w fun r _ => Tells (ItemOK M x) r) := by
 unfold itemV
 have HM := Lib.hid hm
 have HX := Lib.hid hx
 have B0 := Cells.new w (mcells P M) 29
 have B := Cells.new (w.alloc (.cells (mcells P M) 29)) #[.string ⟨x.name.toArray⟩, .int .i64 x.kind, .int .i64 x.count, .int .i64 x.load, .int .i64 x.size, .int .i64 x.share, .slice x.onP x.on.length x.onC] 61
 have i1 := stores3 ((w.alloc (.cells (mcells P M) 29)).alloc (.cells #[.string ⟨x.name.toArray⟩, .int .i64 x.kind, .int .i64 x.count, .int .i64 x.load, .int .i64 x.size, .int .i64 x.share, .slice x.onP x.on.length x.onC] 61)) (.func (.func 118) #[] #[.pointer (some ⟨w.heap.size + 1, 0, none⟩)]) (.func (.func 119) #[] #[.pointer (some ⟨w.heap.size + 1, 0, none⟩)]) (.func (.func 120) #[] #[.pointer (some ⟨w.heap.size + 1, 0, none⟩)])
 have i4 := look3 ((w.alloc (.cells (mcells P M) 29)).alloc (.cells #[.string ⟨x.name.toArray⟩, .int .i64 x.kind, .int .i64 x.count, .int .i64 x.load, .int .i64 x.size, .int .i64 x.share, .slice x.onP x.on.length x.onC] 61)) (.func (.func 118) #[] #[.pointer (some ⟨w.heap.size + 1, 0, none⟩)]) (.func (.func 119) #[] #[.pointer (some ⟨w.heap.size + 1, 0, none⟩)]) (.func (.func 120) #[] #[.pointer (some ⟨w.heap.size + 1, 0, none⟩)]) x.kind
 have gm := fun o : Obj => Gr.alloc (Gr.refl ((w.alloc (.cells (mcells P M) 29)).alloc (.cells #[.string ⟨x.name.toArray⟩, .int .i64 x.kind, .int .i64 x.count, .int .i64 x.load, .int .i64 x.size, .int .i64 x.share, .slice x.onP x.on.length x.onC] 61))) o
 obtain ⟨i1, i2, i3⟩ := i1
 rw [World.size_alloc, World.size_alloc] at i1 i2 i3 i4
 rw [World.size_alloc] at B
 clear hm hx
 have y0 := fun o => B.2.c 0 rfl _ (gm o)
 have y1 := fun o => B.2.c 1 rfl _ (gm o)
 have H0 := Lib.hid (B0.1.trans B.1)
 have H1 := Lib.hid (B0.2.grow B.1)
 have H2 := Lib.hid B.2
 clear B0 B
 unfold mcells at *
 go_enter Tryz.func72, Tryz.ntmps72
 have q1 := fun w' => neq_func (w := w') 118 #[.pointer (some ⟨w.heap.size + 1, 0, none⟩)]
 have q2 := fun w' => neq_func (w := w') 119 #[.pointer (some ⟨w.heap.size + 1, 0, none⟩)]
 have q3 := fun w' => neq_func (w := w') 120 #[.pointer (some ⟨w.heap.size + 1, 0, none⟩)]
 have q4 := fun w' => neq_nil (w := w')
 have hmk := fun w => run_makeMap (P := Tryz.prog) 127 w
 have K := Lib.hid (show ∀ o, Gr _ _ from gm)
 clear gm
 by_cases k0 : x.kind = 0
 ·rw [if_pos k0] at i4
  have HC := Lib.hid (show CountOK x ↔ Odd5 x by unfold CountOK Odd5; omega)
  clear k0
  go_wp2_with fail
  clear i1 i2 i3 i4 y0 y1 q1 q2 q3 q4 hmk
  generalize hg : ((w.alloc _).alloc _).alloc _ = W2
  have G : Gr w W2 := by rw [← hg]; exact H0.out.trans (K.out _)
  have TM : Cells W2 w.heap.size (mcells P M) := by rw [← hg]; exact H1.out.grow (K.out _)
  have TX : Cells W2 (w.heap.size + 1) (itemV x) := by rw [← hg]; exact H2.out.grow (K.out _)
  clear hg K H0 H1 H2
  generalize w.heap.size = bm at TM TX ⊢
  generalize bm + 1 = bx at TX ⊢
  have G := Lib.hid G
  have HM := Lib.hid (HM.out.grow G.out)
  have HX := Lib.hid (SlL.grow HX.out G.out)
  have TM := Lib.hid TM
  have TX := Lib.hid TX
  refine (item_clo1 W2 bx x TX.out).mono ?_
  rintro _ w2 ⟨v1, rfl, g1, h1⟩
  have G := Lib.hid (G.out.trans g1)
  have TM := Lib.hid (TM.out.grow g1)
  have TX := Lib.hid (TX.out.grow g1)
  have HM := Lib.hid (HM.out.grow g1)
  have HX := Lib.hid (HX.out.grow g1)
  clear g1
  rcases h1.cases with ⟨rfl, k1⟩ | ⟨rfl, k1⟩
  ·have H1 := Lib.hid (HC.out.2 k1)
   clear k1 h1
   have m0 := mc0 TM.out _ (Gr.refl _)
   have m1 := mc1 TM.out _ (Gr.refl _)
   have m2 := mc2 TM.out _ (Gr.refl _)
   have m3 := mc3 TM.out _ (Gr.refl _)
   have m4 := mc4 TM.out _ (Gr.refl _)
   have m5 := mc5 TM.out _ (Gr.refl _)
   have m6 := mc6 TM.out _ (Gr.refl _)
   have m7 := mc7 TM.out _ (Gr.refl _)
   have m8 := mc8 TM.out _ (Gr.refl _)
   have m9 := mc9 TM.out _ (Gr.refl _)
   have m10 := mc10 TM.out _ (Gr.refl _)
   have x0 : w2.cell? ⟨bx, 0, none⟩ = some (.string ⟨x.name.toArray⟩) := (TX.out).at 0 rfl
   have x1 : w2.cell? ⟨bx, 1, none⟩ = some (.int .i64 x.kind) := (TX.out).at 1 rfl
   have x2 : w2.cell? ⟨bx, 2, none⟩ = some (.int .i64 x.count) := (TX.out).at 2 rfl
   have x3 : w2.cell? ⟨bx, 3, none⟩ = some (.int .i64 x.load) := (TX.out).at 3 rfl
   have x4 : w2.cell? ⟨bx, 4, none⟩ = some (.int .i64 x.size) := (TX.out).at 4 rfl
   have x5 : w2.cell? ⟨bx, 5, none⟩ = some (.int .i64 x.share) := (TX.out).at 5 rfl
   have x6 : w2.cell? ⟨bx, 6, none⟩ = some (.slice x.onP x.on.length x.onC) := (TX.out).at 6 rfl
   go_wp2_with fail
   clear m0 m1 m2 m3 m4 m5 m6 m7 m8 m9 m10
   clear x0 x1 x2 x3 x4 x5 x6
   refine (cat_machines w2 P M x.onP x.onC x.on HM.out HX.out hb).mono ?_
   rintro _ w3 ⟨v2, rfl, g2, t2⟩
   have G := Lib.hid (G.out.trans g2)
   have TM := Lib.hid (TM.out.grow g2)
   have TX := Lib.hid (TX.out.grow g2)
   have HM := Lib.hid (HM.out.grow g2)
   have HX := Lib.hid (HX.out.grow g2)
   clear g2
   have x0 : w3.cell? ⟨bx, 0, none⟩ = some (.string ⟨x.name.toArray⟩) := (TX.out).at 0 rfl
   have x1 : w3.cell? ⟨bx, 1, none⟩ = some (.int .i64 x.kind) := (TX.out).at 1 rfl
   have x2 : w3.cell? ⟨bx, 2, none⟩ = some (.int .i64 x.count) := (TX.out).at 2 rfl
   have x3 : w3.cell? ⟨bx, 3, none⟩ = some (.int .i64 x.load) := (TX.out).at 3 rfl
   have x4 : w3.cell? ⟨bx, 4, none⟩ = some (.int .i64 x.size) := (TX.out).at 4 rfl
   have x5 : w3.cell? ⟨bx, 5, none⟩ = some (.int .i64 x.share) := (TX.out).at 5 rfl
   have x6 : w3.cell? ⟨bx, 6, none⟩ = some (.slice x.onP x.on.length x.onC) := (TX.out).at 6 rfl
   rcases t2.cases with ⟨rfl, k1⟩ | ⟨rfl, k1⟩ <;> have H2 := Lib.hid k1 <;> clear k1 t2
   ·go_wp2_with fail
    refine (cat_within _ _ _ _).mono ?_
    rintro _ w1 ⟨⟨v1, rfl, h1⟩, rfl⟩
    rcases h1.cases with ⟨rfl, k1⟩ | ⟨rfl, k1⟩ <;> have H3 := Lib.hid k1 <;> clear k1 h1
    ·go_wp2_with fail
     refine (cat_within _ _ _ _).mono ?_
     rintro _ w1 ⟨⟨v1, rfl, h1⟩, rfl⟩
     rcases h1.cases with ⟨rfl, k1⟩ | ⟨rfl, k1⟩ <;> have H4 := Lib.hid k1 <;> clear k1 h1
     ·go_wp2_with fail
      refine (cat_within _ _ _ _).mono ?_
      rintro _ w1 ⟨⟨v1, rfl, h1⟩, rfl⟩
      rcases h1.cases with ⟨rfl, k1⟩ | ⟨rfl, k1⟩ <;> have H5 := Lib.hid k1 <;> clear k1 h1
      ·go_wp2_with fail
       go_ret
       exact ⟨_, rfl, G.out, Tells.yes ⟨H1.out, H2.out, H3.out, H4.out, H5.out⟩⟩
      ·go_wp2_with fail
       go_ret
       exact ⟨_, rfl, G.out, Tells.no fun h => H5.out h.2.2.2.2⟩
     ·go_wp2_with fail
      go_ret
      exact ⟨_, rfl, G.out, Tells.no fun h => H4.out h.2.2.2.1⟩
    ·go_wp2_with fail
     go_ret
     exact ⟨_, rfl, G.out, Tells.no fun h => H3.out h.2.2.1⟩
   ·go_wp2_with fail
    go_ret
    exact ⟨_, rfl, G.out, Tells.no fun h => H2.out h.2.1⟩
  ·have H1 := Lib.hid (fun h => k1 (HC.out.1 h))
   clear k1 h1
   go_wp2_with fail
   go_ret
   exact ⟨_, rfl, G.out, Tells.no fun h => H1.out h.1⟩
 ·by_cases k1 : x.kind = 1
  ·rw [if_neg k0, if_pos k1] at i4
   have HC := Lib.hid (show CountOK x ↔ Within x.count 1 8 by unfold CountOK Within; omega)
   clear k0 k1
   go_wp2_with fail
   clear i1 i2 i3 i4 y0 y1 q1 q2 q3 q4 hmk
   generalize hg : ((w.alloc _).alloc _).alloc _ = W2
   have G : Gr w W2 := by rw [← hg]; exact H0.out.trans (K.out _)
   have TM : Cells W2 w.heap.size (mcells P M) := by rw [← hg]; exact H1.out.grow (K.out _)
   have TX : Cells W2 (w.heap.size + 1) (itemV x) := by rw [← hg]; exact H2.out.grow (K.out _)
   clear hg K H0 H1 H2
   generalize w.heap.size = bm at TM TX ⊢
   generalize bm + 1 = bx at TX ⊢
   have G := Lib.hid G
   have HM := Lib.hid (HM.out.grow G.out)
   have HX := Lib.hid (SlL.grow HX.out G.out)
   have TM := Lib.hid TM
   have TX := Lib.hid TX
   refine (item_clo2 W2 bx x TX.out).mono ?_
   rintro _ w2 ⟨v1, rfl, g1, h1⟩
   have G := Lib.hid (G.out.trans g1)
   have TM := Lib.hid (TM.out.grow g1)
   have TX := Lib.hid (TX.out.grow g1)
   have HM := Lib.hid (HM.out.grow g1)
   have HX := Lib.hid (HX.out.grow g1)
   clear g1
   rcases h1.cases with ⟨rfl, k1⟩ | ⟨rfl, k1⟩
   ·have H1 := Lib.hid (HC.out.2 k1)
    clear k1 h1
    have m0 := mc0 TM.out _ (Gr.refl _)
    have m1 := mc1 TM.out _ (Gr.refl _)
    have m2 := mc2 TM.out _ (Gr.refl _)
    have m3 := mc3 TM.out _ (Gr.refl _)
    have m4 := mc4 TM.out _ (Gr.refl _)
    have m5 := mc5 TM.out _ (Gr.refl _)
    have m6 := mc6 TM.out _ (Gr.refl _)
    have m7 := mc7 TM.out _ (Gr.refl _)
    have m8 := mc8 TM.out _ (Gr.refl _)
    have m9 := mc9 TM.out _ (Gr.refl _)
    have m10 := mc10 TM.out _ (Gr.refl _)
    have x0 : w2.cell? ⟨bx, 0, none⟩ = some (.string ⟨x.name.toArray⟩) := (TX.out).at 0 rfl
    have x1 : w2.cell? ⟨bx, 1, none⟩ = some (.int .i64 x.kind) := (TX.out).at 1 rfl
    have x2 : w2.cell? ⟨bx, 2, none⟩ = some (.int .i64 x.count) := (TX.out).at 2 rfl
    have x3 : w2.cell? ⟨bx, 3, none⟩ = some (.int .i64 x.load) := (TX.out).at 3 rfl
    have x4 : w2.cell? ⟨bx, 4, none⟩ = some (.int .i64 x.size) := (TX.out).at 4 rfl
    have x5 : w2.cell? ⟨bx, 5, none⟩ = some (.int .i64 x.share) := (TX.out).at 5 rfl
    have x6 : w2.cell? ⟨bx, 6, none⟩ = some (.slice x.onP x.on.length x.onC) := (TX.out).at 6 rfl
    go_wp2_with fail
    clear m0 m1 m2 m3 m4 m5 m6 m7 m8 m9 m10
    clear x0 x1 x2 x3 x4 x5 x6
    refine (cat_machines w2 P M x.onP x.onC x.on HM.out HX.out hb).mono ?_
    rintro _ w3 ⟨v2, rfl, g2, t2⟩
    have G := Lib.hid (G.out.trans g2)
    have TM := Lib.hid (TM.out.grow g2)
    have TX := Lib.hid (TX.out.grow g2)
    have HM := Lib.hid (HM.out.grow g2)
    have HX := Lib.hid (HX.out.grow g2)
    clear g2
    have x0 : w3.cell? ⟨bx, 0, none⟩ = some (.string ⟨x.name.toArray⟩) := (TX.out).at 0 rfl
    have x1 : w3.cell? ⟨bx, 1, none⟩ = some (.int .i64 x.kind) := (TX.out).at 1 rfl
    have x2 : w3.cell? ⟨bx, 2, none⟩ = some (.int .i64 x.count) := (TX.out).at 2 rfl
    have x3 : w3.cell? ⟨bx, 3, none⟩ = some (.int .i64 x.load) := (TX.out).at 3 rfl
    have x4 : w3.cell? ⟨bx, 4, none⟩ = some (.int .i64 x.size) := (TX.out).at 4 rfl
    have x5 : w3.cell? ⟨bx, 5, none⟩ = some (.int .i64 x.share) := (TX.out).at 5 rfl
    have x6 : w3.cell? ⟨bx, 6, none⟩ = some (.slice x.onP x.on.length x.onC) := (TX.out).at 6 rfl
    rcases t2.cases with ⟨rfl, k1⟩ | ⟨rfl, k1⟩ <;> have H2 := Lib.hid k1 <;> clear k1 t2
    ·go_wp2_with fail
     refine (cat_within _ _ _ _).mono ?_
     rintro _ w1 ⟨⟨v1, rfl, h1⟩, rfl⟩
     rcases h1.cases with ⟨rfl, k1⟩ | ⟨rfl, k1⟩ <;> have H3 := Lib.hid k1 <;> clear k1 h1
     ·go_wp2_with fail
      refine (cat_within _ _ _ _).mono ?_
      rintro _ w1 ⟨⟨v1, rfl, h1⟩, rfl⟩
      rcases h1.cases with ⟨rfl, k1⟩ | ⟨rfl, k1⟩ <;> have H4 := Lib.hid k1 <;> clear k1 h1
      ·go_wp2_with fail
       refine (cat_within _ _ _ _).mono ?_
       rintro _ w1 ⟨⟨v1, rfl, h1⟩, rfl⟩
       rcases h1.cases with ⟨rfl, k1⟩ | ⟨rfl, k1⟩ <;> have H5 := Lib.hid k1 <;> clear k1 h1
       ·go_wp2_with fail
        go_ret
        exact ⟨_, rfl, G.out, Tells.yes ⟨H1.out, H2.out, H3.out, H4.out, H5.out⟩⟩
       ·go_wp2_with fail
        go_ret
        exact ⟨_, rfl, G.out, Tells.no fun h => H5.out h.2.2.2.2⟩
      ·go_wp2_with fail
       go_ret
       exact ⟨_, rfl, G.out, Tells.no fun h => H4.out h.2.2.2.1⟩
     ·go_wp2_with fail
      go_ret
      exact ⟨_, rfl, G.out, Tells.no fun h => H3.out h.2.2.1⟩
    ·go_wp2_with fail
     go_ret
     exact ⟨_, rfl, G.out, Tells.no fun h => H2.out h.2.1⟩
   ·have H1 := Lib.hid (fun h => k1 (HC.out.1 h))
    clear k1 h1
    go_wp2_with fail
    go_ret
    exact ⟨_, rfl, G.out, Tells.no fun h => H1.out h.1⟩
  ·by_cases k2 : x.kind = 2
   ·rw [if_neg k0, if_neg k1, if_pos k2] at i4
    have HC := Lib.hid (show CountOK x ↔ x.count = 1 ∧ x.on.length = 1 by unfold CountOK; omega)
    clear k0 k1 k2
    go_wp2_with fail
    clear i1 i2 i3 i4 y0 y1 q1 q2 q3 q4 hmk
    generalize hg : ((w.alloc _).alloc _).alloc _ = W2
    have G : Gr w W2 := by rw [← hg]; exact H0.out.trans (K.out _)
    have TM : Cells W2 w.heap.size (mcells P M) := by rw [← hg]; exact H1.out.grow (K.out _)
    have TX : Cells W2 (w.heap.size + 1) (itemV x) := by rw [← hg]; exact H2.out.grow (K.out _)
    clear hg K H0 H1 H2
    generalize w.heap.size = bm at TM TX ⊢
    generalize bm + 1 = bx at TX ⊢
    have G := Lib.hid G
    have HM := Lib.hid (HM.out.grow G.out)
    have HX := Lib.hid (SlL.grow HX.out G.out)
    have TM := Lib.hid TM
    have TX := Lib.hid TX
    refine (item_clo3 W2 bx x TX.out).mono ?_
    rintro _ w2 ⟨v1, rfl, g1, h1⟩
    have G := Lib.hid (G.out.trans g1)
    have TM := Lib.hid (TM.out.grow g1)
    have TX := Lib.hid (TX.out.grow g1)
    have HM := Lib.hid (HM.out.grow g1)
    have HX := Lib.hid (HX.out.grow g1)
    clear g1
    rcases h1.cases with ⟨rfl, k1⟩ | ⟨rfl, k1⟩
    ·have H1 := Lib.hid (HC.out.2 k1)
     clear k1 h1
     have m0 := mc0 TM.out _ (Gr.refl _)
     have m1 := mc1 TM.out _ (Gr.refl _)
     have m2 := mc2 TM.out _ (Gr.refl _)
     have m3 := mc3 TM.out _ (Gr.refl _)
     have m4 := mc4 TM.out _ (Gr.refl _)
     have m5 := mc5 TM.out _ (Gr.refl _)
     have m6 := mc6 TM.out _ (Gr.refl _)
     have m7 := mc7 TM.out _ (Gr.refl _)
     have m8 := mc8 TM.out _ (Gr.refl _)
     have m9 := mc9 TM.out _ (Gr.refl _)
     have m10 := mc10 TM.out _ (Gr.refl _)
     have x0 : w2.cell? ⟨bx, 0, none⟩ = some (.string ⟨x.name.toArray⟩) := (TX.out).at 0 rfl
     have x1 : w2.cell? ⟨bx, 1, none⟩ = some (.int .i64 x.kind) := (TX.out).at 1 rfl
     have x2 : w2.cell? ⟨bx, 2, none⟩ = some (.int .i64 x.count) := (TX.out).at 2 rfl
     have x3 : w2.cell? ⟨bx, 3, none⟩ = some (.int .i64 x.load) := (TX.out).at 3 rfl
     have x4 : w2.cell? ⟨bx, 4, none⟩ = some (.int .i64 x.size) := (TX.out).at 4 rfl
     have x5 : w2.cell? ⟨bx, 5, none⟩ = some (.int .i64 x.share) := (TX.out).at 5 rfl
     have x6 : w2.cell? ⟨bx, 6, none⟩ = some (.slice x.onP x.on.length x.onC) := (TX.out).at 6 rfl
     go_wp2_with fail
     clear m0 m1 m2 m3 m4 m5 m6 m7 m8 m9 m10
     clear x0 x1 x2 x3 x4 x5 x6
     refine (cat_machines w2 P M x.onP x.onC x.on HM.out HX.out hb).mono ?_
     rintro _ w3 ⟨v2, rfl, g2, t2⟩
     have G := Lib.hid (G.out.trans g2)
     have TM := Lib.hid (TM.out.grow g2)
     have TX := Lib.hid (TX.out.grow g2)
     have HM := Lib.hid (HM.out.grow g2)
     have HX := Lib.hid (HX.out.grow g2)
     clear g2
     have x0 : w3.cell? ⟨bx, 0, none⟩ = some (.string ⟨x.name.toArray⟩) := (TX.out).at 0 rfl
     have x1 : w3.cell? ⟨bx, 1, none⟩ = some (.int .i64 x.kind) := (TX.out).at 1 rfl
     have x2 : w3.cell? ⟨bx, 2, none⟩ = some (.int .i64 x.count) := (TX.out).at 2 rfl
     have x3 : w3.cell? ⟨bx, 3, none⟩ = some (.int .i64 x.load) := (TX.out).at 3 rfl
     have x4 : w3.cell? ⟨bx, 4, none⟩ = some (.int .i64 x.size) := (TX.out).at 4 rfl
     have x5 : w3.cell? ⟨bx, 5, none⟩ = some (.int .i64 x.share) := (TX.out).at 5 rfl
     have x6 : w3.cell? ⟨bx, 6, none⟩ = some (.slice x.onP x.on.length x.onC) := (TX.out).at 6 rfl
     rcases t2.cases with ⟨rfl, k1⟩ | ⟨rfl, k1⟩ <;> have H2 := Lib.hid k1 <;> clear k1 t2
     ·go_wp2_with fail
      refine (cat_within _ _ _ _).mono ?_
      rintro _ w1 ⟨⟨v1, rfl, h1⟩, rfl⟩
      rcases h1.cases with ⟨rfl, k1⟩ | ⟨rfl, k1⟩ <;> have H3 := Lib.hid k1 <;> clear k1 h1
      ·go_wp2_with fail
       refine (cat_within _ _ _ _).mono ?_
       rintro _ w1 ⟨⟨v1, rfl, h1⟩, rfl⟩
       rcases h1.cases with ⟨rfl, k1⟩ | ⟨rfl, k1⟩ <;> have H4 := Lib.hid k1 <;> clear k1 h1
       ·go_wp2_with fail
        refine (cat_within _ _ _ _).mono ?_
        rintro _ w1 ⟨⟨v1, rfl, h1⟩, rfl⟩
        rcases h1.cases with ⟨rfl, k1⟩ | ⟨rfl, k1⟩ <;> have H5 := Lib.hid k1 <;> clear k1 h1
        ·go_wp2_with fail
         go_ret
         exact ⟨_, rfl, G.out, Tells.yes ⟨H1.out, H2.out, H3.out, H4.out, H5.out⟩⟩
        ·go_wp2_with fail
         go_ret
         exact ⟨_, rfl, G.out, Tells.no fun h => H5.out h.2.2.2.2⟩
       ·go_wp2_with fail
        go_ret
        exact ⟨_, rfl, G.out, Tells.no fun h => H4.out h.2.2.2.1⟩
      ·go_wp2_with fail
       go_ret
       exact ⟨_, rfl, G.out, Tells.no fun h => H3.out h.2.2.1⟩
     ·go_wp2_with fail
      go_ret
      exact ⟨_, rfl, G.out, Tells.no fun h => H2.out h.2.1⟩
    ·have H1 := Lib.hid (fun h => k1 (HC.out.1 h))
     clear k1 h1
     go_wp2_with fail
     go_ret
     exact ⟨_, rfl, G.out, Tells.no fun h => H1.out h.1⟩
   ·rw [if_neg k0, if_neg k1, if_neg k2] at i4
    have HC := Lib.hid (show ¬ CountOK x by unfold CountOK; omega)
    clear k0 k1 k2
    go_wp2_with fail
    go_ret
    exact ⟨_, rfl, H0.out.trans (K.out _), Tells.no fun h => HC.out h.1⟩
end Go.Proofs.YtnlocdijdfclcaaGreatDoor

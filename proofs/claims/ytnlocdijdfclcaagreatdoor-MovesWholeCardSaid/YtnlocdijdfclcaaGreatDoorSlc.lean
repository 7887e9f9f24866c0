/-
  Slices of elements of several cells: what reads as a list of values (SlV).
  Rows of elements of several cells, by an encoding; boxes of any number of cells; appends.
-/
import Derived.Test.YtnlocdijdfclcaaGreatDoorBase
import Derived.OwnWalk
namespace Go.Proofs.YtnlocdijdfclcaaGreatDoor
open Go.RowKit
set_option linter.unusedVariables false
set_option linter.unusedSimpArgs false

def Hold (p : Prop) : Prop := p
theorem Hold.hold {p : Prop} (h : Hold p) : p := h
theorem Hold.go {p : Prop} (h : p) : Hold p := h

def SlV (w : World) (sz : Nat) (v : Value) (n : Nat) (xs : List Value) : Prop :=
 xs.length = n * sz ∧ ∃ p c, v = .slice p n c ∧ n ≤ c ∧ c ≤ 9223372036854775807 ∧ (c = 0 ∨ ∃ b o, p = some ⟨b, o, none⟩ ∧ ∀ j u, xs[j]? = some u → w.cell? ⟨b, o + j, none⟩ = some u)
theorem SlV.grow {w w' : World} {sz n : Nat} {v : Value} {xs : List Value} (h : SlV w sz v n xs) (g : Gr w w') : SlV w' sz v n xs := by
 obtain ⟨h0, p, c, rfl, h1, h2, h3⟩ := h
 refine ⟨h0, p, c, rfl, h1, h2, ?_⟩
 rcases h3 with h3 | ⟨b, o, hp, hc⟩
 ·exact .inl h3
 ·exact .inr ⟨b, o, hp, fun j u hu => g.cell (hc j u hu)⟩
theorem SlV.parts {w : World} {sz n : Nat} {v : Value} {xs : List Value} (h : SlV w sz v n xs) : ∃ p c, v = .slice p n c ∧ n ≤ c ∧ c ≤ 9223372036854775807 := by
 obtain ⟨-, p, c, hv, h1, h2, -⟩ := h
 exact ⟨p, c, hv, h1, h2⟩
theorem SlV.cells {w : World} {sz n c : Nat} {p : Option Addr} {xs : List Value} (h : SlV w sz (.slice p n c) n xs) (hn : 0 < n) : ∃ b o, p = some ⟨b, o, none⟩ ∧ ∀ j u, xs[j]? = some u → w.cell? ⟨b, o + j, none⟩ = some u := by
 obtain ⟨h0, p', c', hv, h1, h2, h3⟩ := h
 cases hv
 rcases h3 with h3 | h3
 ·omega
 ·exact h3
theorem SlV.nil (w : World) (sz : Nat) : SlV w sz (.slice none 0 0) 0 [] := ⟨by simp, none, 0, rfl, Nat.le_refl _, by decide, .inl rfl⟩
theorem addr_add0 (b o i : Nat) : (⟨b, o, none⟩ : Addr).add i = ⟨b, o + i, none⟩ := by
 cases i <;> simp [Addr.add]
theorem SlV.of_own {w : World} {base : Nat} {e : TypeId} {sz n : Nat} {v : Value} {xs : List Value} (h : w.ownsRow base e sz v n xs) : SlV w sz v n xs := by
 have h' := h
 obtain ⟨h1, h2⟩ := h
 refine ⟨h1, ?_⟩
 rcases h2 with ⟨rfl, rfl⟩ | ⟨g, cap, cur, rfl, hb, hh, hn, hm, hs, ht⟩
 ·exact ⟨none, 0, rfl, Nat.le_refl _, by decide, .inl rfl⟩
 ·refine ⟨_, cap, rfl, hn, by simpa [maxLen] using hm, .inr ⟨g, 0, rfl, fun j u hu => ?_⟩⟩
  have := World.ownsRow.cells h' (g := g) rfl j u hu
  rwa [addr_add0] at this
theorem SlV.new (w : World) (sz n : Nat) (vs : Array Value) (t : TypeId) (h : vs.size = n * sz) (hn : n ≤ 1000000000) : SlV (w.alloc (.cells vs t)) sz (.slice (some ⟨w.heap.size, 0, none⟩) n n) n vs.toList :=
 ⟨by simpa using h, _, n, rfl, Nat.le_refl _, by omega, .inr ⟨w.heap.size, 0, rfl, fun j u hu => by
  unfold World.cell?
  rw [show (⟨w.heap.size, 0 + j, none⟩ : Addr).block = w.heap.size from rfl, heap_alloc_new]
  simpa using hu⟩⟩
theorem own_gr {a w w' : World} {e : TypeId} {sz n : Nat} {v : Value} {xs : List Value} (g : Gr a w) (h : w.ownsRow a.heap.size e sz v n xs) (hg : w.grownBy w' v.ownBlock) : Gr a w' :=
 Below.grown g hg g.size (fun k hk => (h.lt k hk).1)
theorem own_grow {w w' : World} {base : Nat} {e : TypeId} {sz n : Nat} {v : Value} {xs : List Value} (h : w.ownsRow base e sz v n xs) (g : Gr w w') : w'.ownsRow base e sz v n xs := by
 refine h.kept (row := none) ⟨g.os, g.tape, g.output, g.size, fun k hk _ => Below.block g k hk⟩ ?_
 cases v.ownBlock <;> simp
theorem gr_grown {w w' : World} (g : Gr w w') (row : Option Nat) : w.grownBy w' row := ⟨g.os, g.tape, g.output, g.size, fun k hk _ => Below.block g k hk⟩
end Go.Proofs.YtnlocdijdfclcaaGreatDoor
namespace Go.Proofs.YtnlocdijdfclcaaGreatDoor
open Go.RowKit
set_option linter.unusedVariables false
set_option linter.unusedSimpArgs false

section enc
variable {α : Type} {enc : α → List Value} {sz : Nat}
theorem flat_len (he : ∀ x, (enc x).length = sz) : ∀ l : List α, (l.flatMap enc).length = l.length * sz
 | [] => by simp
 | x :: l => by rw [List.flatMap_cons, List.length_append, he, flat_len he l, List.length_cons, Nat.add_mul]; omega
theorem flat_get (he : ∀ x, (enc x).length = sz) : ∀ (l : List α) (k : Nat) (x : α) (j : Nat), l[k]? = some x → j < sz → (l.flatMap enc)[k * sz + j]? = (enc x)[j]?
 | [], k, x, j, h, _ => by simp at h
 | y :: l, 0, x, j, h, hj => by
  simp at h; subst h
  rw [List.flatMap_cons, List.getElem?_append_left (by rw [he]; omega)]
  simp
 | y :: l, k + 1, x, j, h, hj => by
  have ih := flat_get he l k x j (by simpa using h) hj
  rw [List.flatMap_cons, List.getElem?_append_right (by rw [he, Nat.add_mul]; omega), ← ih, he]
  congr 1
  rw [Nat.add_mul]; omega
def SlL (w : World) (sz : Nat) (enc : α → List Value) (v : Value) (l : List α) : Prop := SlV w sz v l.length (l.flatMap enc)
theorem SlL.grow {w w' : World} {v : Value} {l : List α} (h : SlL w sz enc v l) (g : Gr w w') : SlL w' sz enc v l := SlV.grow h g
theorem SlL.parts {w : World} {v : Value} {l : List α} (h : SlL w sz enc v l) : ∃ p c, v = .slice p l.length c ∧ l.length ≤ c ∧ c ≤ 9223372036854775807 := SlV.parts h
theorem SlL.nil (w : World) : SlL w sz enc (.slice none 0 0) [] := SlV.nil w sz
theorem SlL.at {w : World} {p : Option Addr} {n c : Nat} {l : List α} (he : ∀ x, (enc x).length = sz) (h : SlL w sz enc (.slice p n c) l) (hn : l.length = n) {k : Nat} (hk : k < n) :
  ∃ b o x, p = some ⟨b, o, none⟩ ∧ l[k]? = some x ∧ ∀ j u, (enc x)[j]? = some u → ∀ w', Gr w w' → w'.cell? ⟨b, o + k * sz + j, none⟩ = some u := by
 unfold SlL at h
 rw [hn] at h
 obtain ⟨b, o, rfl, hc⟩ := SlV.cells h (by omega)
 obtain ⟨x, hx⟩ : ∃ x, l[k]? = some x := ⟨_, List.getElem?_eq_getElem (by omega)⟩
 refine ⟨b, o, x, rfl, hx, fun j u hu w' g => ?_⟩
 have hj : j < sz := by
  have := (List.getElem?_eq_some_iff.1 hu).1
  rw [he] at this; exact this
 rw [Nat.add_assoc]
 exact g.cell (hc _ _ ((flat_get he l k x j hx hj).trans hu))
theorem SlL.at1 {w : World} {p : Option Addr} {n c : Nat} {l : List α} (he : ∀ x, (enc x).length = 1) (h : SlL w 1 enc (.slice p n c) l) (hn : l.length = n) {k : Nat} (hk : k < n) :
  ∃ b o x, p = some ⟨b, o, none⟩ ∧ l[k]? = some x ∧ ∀ u, enc x = [u] → ∀ w', Gr w w' → w'.cell? ⟨b, o + k, none⟩ = some u := by
 obtain ⟨b, o, x, hp, hx, hc⟩ := h.at he hn hk
 refine ⟨b, o, x, hp, hx, fun u hu w' g => ?_⟩
 have := hc 0 u (by rw [hu]; rfl) w' g
 simpa using this
def OwnL (w : World) (base : Nat) (e : TypeId) (sz : Nat) (enc : α → List Value) (v : Value) (l : List α) : Prop := w.ownsRow base e sz v l.length (l.flatMap enc)
theorem OwnL.read {w : World} {base : Nat} {e : TypeId} {v : Value} {l : List α} (h : OwnL w base e sz enc v l) : SlL w sz enc v l := SlV.of_own h
theorem OwnL.grow {w w' : World} {base : Nat} {e : TypeId} {v : Value} {l : List α} (h : OwnL w base e sz enc v l) (g : Gr w w') : OwnL w' base e sz enc v l := own_grow h g
theorem OwnL.nil (w : World) (base : Nat) (e : TypeId) : OwnL w base e sz enc (.slice none 0 0) [] := World.ownsRow_nil w base e sz
theorem OwnL.made0 (w : World) (base : Nat) (e : TypeId) (hb : base ≤ w.heap.size) : OwnL (w.alloc (.cells #[] e)) base e sz enc (.slice (some ⟨w.heap.size, 0, none⟩) 0 0) [] :=
 World.ownsRow_made w #[] 0 hb (by simp [maxLen]) (by simp)
theorem OwnL.gr {a w w' : World} {e : TypeId} {v : Value} {l : List α} (h : OwnL w a.heap.size e sz enc v l) (g : Gr a w) (hg : w.grownBy w' v.ownBlock) : Gr a w' := own_gr g h hg
theorem SlL.new (w : World) (t : TypeId) (he : ∀ x, (enc x).length = sz) (l : List α) (vs : Array Value) (n : Nat) (h : vs.toList = l.flatMap enc) (hn : l.length = n) (hl : n ≤ 1000000000) :
  Gr w (w.alloc (.cells vs t)) ∧ SlL (w.alloc (.cells vs t)) sz enc (.slice (some ⟨w.heap.size, 0, none⟩) n n) l := by
 refine ⟨(Gr.refl w).alloc _, ?_⟩
 have := SlV.new w sz n vs t (by rw [← hn, ← flat_len he, ← h]; simp) hl
 unfold SlL
 rw [hn, ← h]; exact this
end enc

def Cells (w : World) (b : Nat) (vs : Array Value) : Prop := ∃ t, w.heap[b]? = some (.cells vs t (0, 0))
theorem Cells.lt {w : World} {b : Nat} {vs : Array Value} (h : Cells w b vs) : b < w.heap.size := by
 obtain ⟨t, h⟩ := h
 rcases Nat.lt_or_ge b w.heap.size with h' | h'
 ·exact h'
 ·rw [Array.getElem?_eq_none h'] at h; cases h
theorem Cells.grow {w w' : World} {b : Nat} {vs : Array Value} (h : Cells w b vs) (g : Gr w w') : Cells w' b vs := by
 have hl := h.lt
 obtain ⟨t, h⟩ := h; exact ⟨t, by rw [Below.block g b hl]; exact h⟩
theorem Cells.grown {w w' : World} {b : Nat} {vs : Array Value} {row : Option Nat} (h : Cells w b vs) (g : w.grownBy w' row) (hne : some b ≠ row) : Cells w' b vs := by
 have hl := h.lt
 obtain ⟨t, h⟩ := h; exact ⟨t, by rw [g.block b hl hne]; exact h⟩
theorem Cells.at {w : World} {b : Nat} {vs : Array Value} (h : Cells w b vs) (j : Nat) {u : Value} (hu : vs[j]? = some u) : w.cell? ⟨b, j, none⟩ = some u := by
 obtain ⟨t, h⟩ := h; simp [World.cell?, h, hu]
theorem Cells.c {w : World} {b : Nat} {vs : Array Value} (h : Cells w b vs) (j : Nat) {u : Value} (hu : vs[j]? = some u) : ∀ w', Gr w w' → w'.cell? ⟨b, j, none⟩ = some u := fun w' g => (h.grow g).at j hu
theorem Cells.f {w : World} {b : Nat} {vs : Array Value} (h : Cells w b vs) (j : Nat) : w.frozen? ⟨b, j, none⟩ = false := by
 obtain ⟨t, h⟩ := h; simp [World.frozen?, h]
theorem Cells.new (w : World) (vs : Array Value) (t : TypeId) : Gr w (w.alloc (.cells vs t)) ∧ Cells (w.alloc (.cells vs t)) w.heap.size vs := ⟨(Gr.refl w).alloc _, t, heap_alloc_new w _⟩
theorem Cells.set {w : World} {b : Nat} {vs : Array Value} (h : Cells w b vs) (j : Nat) (u : Value) : Cells (w.setCell ⟨b, j, none⟩ u) b (vs.setIfInBounds j u) := by
 obtain ⟨t, h⟩ := h
 refine ⟨t, ?_⟩
 simp [World.setCell, Array.getElem?_modify, h]
def Upd (b : Nat) (w w' : World) : Prop := ∀ i, i ≠ b → w'.heap[i]? = w.heap[i]?
theorem upd_set (w : World) (b i : Nat) (u : Value) : Upd b w (w.setCell ⟨b, i, none⟩ u) := fun j hj => Below.heap_setCell _ _ _ _ hj
theorem Cells.upd {w w' : World} {b b' : Nat} {vs : Array Value} (h : Cells w b' vs) (hu : Upd b w w') (hne : b' ≠ b) : Cells w' b' vs := by
 obtain ⟨t, h⟩ := h; exact ⟨t, by rw [hu b' hne]; exact h⟩
theorem Gr.set {a w : World} (g : Gr a w) {b i : Nat} (hb : ¬ b < a.heap.size) (u : Value) : Gr a (w.setCell ⟨b, i, none⟩ u) :=
 Below.setCell g (by show a.heap.size ≤ b; omega) u

section append
variable {α : Type} {enc : α → List Value} {sz : Nat} {P : Program} {ops : Array Oper} {rest : List Oper} {o : Oper} {a : Act} {Q : Exit → Act → World → Prop} {w : World}
theorem wpList_appendL (hgd : o.guard = none) (s x : Operand) (t e : TypeId) (z : Value) (bytes : Nat) (ho : o.op = .call { callee := .builtin .append, args := #[s, x], argTypes := #[t, t] })
  (ht : P.underlying t = some (.slice e)) (hinfo : (P.info? e).map (fun i => (i.zero, i.size, i.bytes)) = some (some z, sz, bytes)) (hzs : z.cells.size = sz) (hsz : 0 < sz) (he : ∀ x, (enc x).length = sz) (h1 : ∀ x, ∀ u ∈ enc x, u.oneCell' = true)
  (base : Nat) (v vx : Value) (l m : List α) (hs : a.eval s = v) (hown : OwnL w base e sz enc v l) (hx : a.eval x = vx) (hm : SlL w sz enc vx m)
  (hlen : (l.length + m.length) * bytes ≤ 140737488355328) (hlen2 : l.length + m.length ≤ 1000000000000) (hbase : base ≤ w.heap.size)
  (h : ∀ v' w', OwnL w' base e sz enc v' (l ++ m) → w.grownBy w' v.ownBlock → wpList P ops Q rest (a.put o.dst v') w') : wpList P ops Q (o :: rest) a w := by
 obtain ⟨i0, hi, hz0, hz1, hz2⟩ := info_parts hinfo
 obtain ⟨hd, p, c, rfl, k1, k2, k3⟩ := hm
 rcases k3 with rfl | ⟨b, off, rfl, hc⟩
 ·have hm0 : m = [] := List.eq_nil_of_length_eq_zero (by omega)
  subst hm0
  have h' := h v w (by simpa using hown) ⟨rfl, rfl, rfl, Nat.le_refl _, fun _ _ _ => rfl⟩
  refine wpList_plain hgd (fun K hK => ?_)
  have hr : (Builtin.append_ #[t, t] o.type #[v, .slice p 0 0]).run P w = .ok v w := by
   rcases hown.2 with ⟨rfl, _⟩ | ⟨g, cap, cur, rfl, _, hh, hn, _⟩
   ·cases p <;> simp [Builtin.append_, run_underlying ht, sizeOf, typeInfo, hi, Builtin.lenOf, Builtin.firstCells, loadCells, loadCellsFrom]
   ·have hn' : l.length ≤ cap := hn
    cases p <;> simp [Builtin.append_, run_underlying ht, sizeOf, typeInfo, hi, Builtin.lenOf, Builtin.firstCells, loadCells, loadCellsFrom, hn', storeCells]
  unfold Oper.wp execOp
  simp only [ho, resolve, invoke, builtin, Sem.run_bind, Sem.run_pure, Result.andThen_ok, List.map_toArray, List.map_cons, List.map_nil, hs, hx, List.length_nil, hr]
  exact hK _ _ h'
 ·refine wpList_append_own _ hgd s x t ho base e i0 z sz bytes ht hi hz0 hz1 hz2 hzs hsz v l.length (l.flatMap enc) hs hown ⟨b, off, none⟩ m.length c (m.flatMap enc) hx
   (flat_len he m) (fun j u hu => ?_) (fun u hu => ?_) (by unfold maxLen; omega) hlen hbase (fun v' w' hown' hg _ => ?_)
  ·rw [addr_add0]; exact hc j u hu
  ·obtain ⟨y, _, hy⟩ := List.mem_flatMap.1 hu
   exact h1 y u hy
  ·refine h v' w' ?_ hg
   unfold OwnL
   rw [List.flatMap_append, List.length_append]
   exact hown'
end append
end Go.Proofs.YtnlocdijdfclcaaGreatDoor

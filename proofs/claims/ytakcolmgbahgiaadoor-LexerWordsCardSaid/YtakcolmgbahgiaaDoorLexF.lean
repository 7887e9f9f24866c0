/-
  Boxes of four cells (tokens); catalog.Keywords.
-/
import Derived.Test.YtakcolmgbahgiaaDoorLexE
namespace Go.Proofs.YtakcolmgbahgiaaDoor
open Go.RowKit Go.Lib Lex
set_option linter.unusedVariables false
set_option linter.unusedSimpArgs false

/-- four cells of a block that may be written -/
def Four (w : World) (b : Nat) (x y z s : Value) : Prop := ∃ t, w.heap[b]? = some (.cells #[x, y, z, s] t (0, 0))
theorem Four.lt {w : World} {b : Nat} {x y z s : Value} (h : Four w b x y z s) : b < w.heap.size := by
  obtain ⟨t, h⟩ := h
  rcases Nat.lt_or_ge b w.heap.size with h' | h'
  · exact h'
  · rw [Array.getElem?_eq_none h'] at h; cases h
theorem Four.grow {w w' : World} {b : Nat} {x y z s : Value} (h : Four w b x y z s) (g : Gr w w') : Four w' b x y z s := by
  have hl := h.lt
  obtain ⟨t, h⟩ := h; exact ⟨t, by rw [Below.block g b hl]; exact h⟩
theorem Four.c0 {w : World} {b : Nat} {x y z s : Value} (h : Four w b x y z s) : ∀ w', Gr w w' → w'.cell? ⟨b, 0, none⟩ = some x := fun w' g => by
  obtain ⟨t, h⟩ := h.grow g; simp [World.cell?, h]
theorem Four.c1 {w : World} {b : Nat} {x y z s : Value} (h : Four w b x y z s) : ∀ w', Gr w w' → w'.cell? ⟨b, 1, none⟩ = some y := fun w' g => by
  obtain ⟨t, h⟩ := h.grow g; simp [World.cell?, h]
theorem Four.c2 {w : World} {b : Nat} {x y z s : Value} (h : Four w b x y z s) : ∀ w', Gr w w' → w'.cell? ⟨b, 2, none⟩ = some z := fun w' g => by
  obtain ⟨t, h⟩ := h.grow g; simp [World.cell?, h]
theorem Four.c3 {w : World} {b : Nat} {x y z s : Value} (h : Four w b x y z s) : ∀ w', Gr w w' → w'.cell? ⟨b, 3, none⟩ = some s := fun w' g => by
  obtain ⟨t, h⟩ := h.grow g; simp [World.cell?, h]
theorem Four.f0 {w : World} {b : Nat} {x y z s : Value} (h : Four w b x y z s) (i : Nat) : w.frozen? ⟨b, i, none⟩ = false := by
  obtain ⟨t, h⟩ := h; simp [World.frozen?, h]
theorem Four.load {w : World} {b : Nat} {x y z s : Value} (h : Four w b x y z s) : w.cell? ⟨b, 0, none⟩ = some x ∧ w.cell? ⟨b, 1, none⟩ = some y ∧ w.cell? ⟨b, 2, none⟩ = some z ∧ w.cell? ⟨b, 3, none⟩ = some s :=
  ⟨h.c0 w (Gr.refl w), h.c1 w (Gr.refl w), h.c2 w (Gr.refl w), h.c3 w (Gr.refl w)⟩
theorem Four.new (w : World) (x y z s : Value) (t : TypeId) : Four (w.alloc (.cells #[x, y, z, s] t)) w.heap.size x y z s := ⟨t, heap_alloc_new w _⟩
theorem Four.set {w : World} {b : Nat} {x y z s : Value} (h : Four w b x y z s) (u v p q : Value) : Four ((((w.setCell ⟨b, 0, none⟩ u).setCell ⟨b, 1, none⟩ v).setCell ⟨b, 2, none⟩ p).setCell ⟨b, 3, none⟩ q) b u v p q := by
  obtain ⟨t, h⟩ := h
  refine ⟨t, ?_⟩
  simp [World.setCell, Array.getElem?_modify, h]
theorem Four.set0 {w : World} {b : Nat} {x y z s : Value} (h : Four w b x y z s) (u : Value) : Four (w.setCell ⟨b, 0, none⟩ u) b u y z s := by
  obtain ⟨t, h⟩ := h
  refine ⟨t, ?_⟩
  simp [World.setCell, Array.getElem?_modify, h]
theorem Four.set2 {w : World} {b : Nat} {x y z s : Value} (h : Four w b x y z s) (u : Value) : Four (w.setCell ⟨b, 2, none⟩ u) b x y u s := by
  obtain ⟨t, h⟩ := h
  refine ⟨t, ?_⟩
  simp [World.setCell, Array.getElem?_modify, h]
theorem Four.set3 {w : World} {b : Nat} {x y z s : Value} (h : Four w b x y z s) (u : Value) : Four (w.setCell ⟨b, 3, none⟩ u) b x y z u := by
  obtain ⟨t, h⟩ := h
  refine ⟨t, ?_⟩
  simp [World.setCell, Array.getElem?_modify, h]

/-- only the block b is another one -/
def Upd (b : Nat) (w w' : World) : Prop := ∀ i, i ≠ b → w'.heap[i]? = w.heap[i]?
theorem upd4 (w : World) (b : Nat) (u v p q : Value) : Upd b w ((((w.setCell ⟨b, 0, none⟩ u).setCell ⟨b, 1, none⟩ v).setCell ⟨b, 2, none⟩ p).setCell ⟨b, 3, none⟩ q) := fun i hi => by
  rw [Below.heap_setCell _ _ _ _ hi, Below.heap_setCell _ _ _ _ hi, Below.heap_setCell _ _ _ _ hi, Below.heap_setCell _ _ _ _ hi]
theorem upd1 (w : World) (b i : Nat) (u : Value) : Upd b w (w.setCell ⟨b, i, none⟩ u) := fun j hj => Below.heap_setCell _ _ _ _ hj
theorem Four.upd {w w' : World} {b b' : Nat} {x y z s : Value} (h : Four w b' x y z s) (hu : Upd b w w') (hne : b' ≠ b) : Four w' b' x y z s := by
  obtain ⟨t, h⟩ := h; exact ⟨t, by rw [hu b' hne]; exact h⟩
theorem Gr.four {a w : World} (g : Gr a w) {b : Nat} (hb : ¬ b < a.heap.size) (u v p q : Value) : Gr a ((((w.setCell ⟨b, 0, none⟩ u).setCell ⟨b, 1, none⟩ v).setCell ⟨b, 2, none⟩ p).setCell ⟨b, 3, none⟩ q) :=
  Below.setCell (Below.setCell (Below.setCell (Below.setCell g (by show a.heap.size ≤ b; omega) u) (by show a.heap.size ≤ b; omega) v) (by show a.heap.size ≤ b; omega) p) (by show a.heap.size ≤ b; omega) q
theorem Gr.one {a w : World} (g : Gr a w) {b i : Nat} (hb : ¬ b < a.heap.size) (u : Value) : Gr a (w.setCell ⟨b, i, none⟩ u) :=
  Below.setCell g (by show a.heap.size ≤ b; omega) u
theorem box4 (w : World) (x y z s : Value) (t : TypeId) : Gr w (w.alloc (.cells #[x, y, z, s] t)) ∧ Four (w.alloc (.cells #[x, y, z, s] t)) w.heap.size x y z s :=
  ⟨(Gr.refl w).alloc _, Four.new w x y z s t⟩

/-- the table that strings.Fields reads -/
def Tab (w : World) : Prop := Lib.TabIs Tryd.prog w "strings.asciiSpace" .u8 Lib.asciiSpaceTab
theorem Tab.grow {w w' : World} (h : Tab w) (g : Gr w w') : Tab w' := by
  unfold Tab Lib.TabIs World.var? at h ⊢
  rw [show Tryd.prog.globalNamed "strings.asciiSpace" = some 1 by kernel_rfl] at h ⊢
  simp only [Option.bind_some] at h ⊢
  have hlt : 1 < w.heap.size := by
    rcases Nat.lt_or_ge 1 w.heap.size with h' | h'
    · exact h'
    · rw [Array.getElem?_eq_none h'] at h; cases h
  rw [Below.block g 1 hlt]
  exact h

/-- the words of the language, as strings -/
def kws : List ByteArray := keywords.map (fun l => ⟨l.toArray⟩)
def kwText : List UInt8 := [97, 108, 119, 97, 121, 115, 32, 98, 101, 102, 111, 114, 101, 32, 98, 121, 32, 99, 97, 112, 97, 99, 105, 116, 121, 32, 100, 97, 114, 107, 32, 100, 105, 115, 116, 117, 114, 98, 32, 102, 97, 105, 108, 117, 114, 101, 115, 32, 102, 101, 101, 100, 32, 103, 114, 111, 117, 112, 32, 105, 110, 32, 106, 111, 98, 32, 107, 101, 101, 112, 32, 108, 105, 110, 107, 32, 108, 111, 97, 100, 32, 109, 97, 99, 104, 105, 110, 101, 32, 111, 110, 32, 111, 110, 108, 121, 32, 111, 114, 100, 101, 114, 32, 112, 111, 111, 108, 32, 113, 117, 111, 114, 117, 109, 32, 114, 97, 99, 107, 32, 114, 101, 115, 101, 114, 118, 101, 32, 115, 104, 97, 114, 101, 32, 115, 105, 108, 101, 110, 99, 101, 32, 115, 105, 116, 101, 32, 115, 105, 122, 101, 32, 115, 108, 111, 116, 115, 32, 115, 112, 114, 101, 97, 100]
theorem fields_kw : Lib.fields kwText = keywords := by kernel_rfl
set_option maxRecDepth 100000 in
theorem kw_ascii : ∀ (j : Nat) b, kwText[j]? = some b → b.toNat < 128 := fun j b h => by
  have : ∀ b ∈ kwText, b.toNat < 128 := by decide
  exact this b (List.mem_of_getElem? h)
def KwRow (w : World) (b : Nat) : Prop := ∀ j, j < kws.length → w.cell? ⟨b, 0 + j, none⟩ = some (.string (kws.getD j ByteArray.empty))
set_option maxRecDepth 100000 in
theorem cat_Keywords (w : World) (ht : Tab w) : Calls Tryd.prog 49 #[] w (Ret w fun r w' => ∃ b, r = .slice (some ⟨b, 0, none⟩) 28 28 ∧ KwRow w' b) := by
  have HT := Lib.hid ht
  clear ht
  go_enter Tryd.func49, Tryd.ntmps49
  go_wp2_with fail
  refine (Tryd.strings_Fields ⟨kwText.toArray⟩ w (by show kwText.length < _; decide) (by rw [show (⟨kwText.toArray⟩ : ByteArray).data.toList = kwText by simp]; exact kw_ascii) HT.out).mono ?_
  rintro _ w2 ⟨rfl, rfl⟩
  rw [show (⟨kwText.toArray⟩ : ByteArray).data.toList = kwText by simp, fields_kw]
  obtain ⟨t, ht⟩ : ∃ t, w.alloc (.cells (keywords.map fun l => Value.string ⟨l.toArray⟩).toArray 9) = t := ⟨_, rfl⟩
  have G := Lib.hid (show Gr w t by rw [← ht]; exact (Gr.refl w).alloc _)
  have HR := Lib.hid (show KwRow t w.heap.size from fun j hj => by
    have hj' : j < keywords.length := by simpa [kws] using hj
    rw [← ht]
    unfold World.cell?
    rw [show (⟨w.heap.size, 0 + j, none⟩ : Addr).block = w.heap.size from rfl, heap_alloc_new]
    simp [kws, hj'])
  rw [ht]
  clear ht
  go_wp2_with fail
  go_ret
  exact ⟨_, rfl, G.out, _, rfl, HR.out⟩
end Go.Proofs.YtakcolmgbahgiaaDoor

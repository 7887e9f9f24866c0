/-
  A store into an element of a row of the call's own.
-/
import Derived.Test.YtdekicijinmakaaGreatDoorSlc
namespace Go.Proofs.YtdekicijinmakaaGreatDoor
open Go.RowKit
set_option linter.unusedVariables false
set_option linter.unusedSimpArgs false

section put
variable {α : Type} {enc : α → List Value} {sz : Nat}
theorem flat_set (he : ∀ x, (enc x).length = sz) : ∀ (l : List α) (k : Nat) (x y : α) (j : Nat) (u : Value), l[k]? = some x → j < sz → enc y = (enc x).set j u → (l.set k y).flatMap enc = (l.flatMap enc).set (k * sz + j) u
  | [], k, x, y, j, u, h, _, _ => by simp at h
  | z :: l, 0, x, y, j, u, h, hj, hy => by
    simp at h; subst h
    rw [List.set_cons_zero, List.flatMap_cons, List.flatMap_cons, hy, List.set_append_left _ _ (by rw [he]; omega)]
    simp
  | z :: l, k + 1, x, y, j, u, h, hj, hy => by
    have ih := flat_set he l k x y j u (by simpa using h) hj hy
    rw [List.set_cons_succ, List.flatMap_cons, List.flatMap_cons, ih, List.set_append_right _ _ (by rw [he, Nat.add_mul]; omega), he]
    congr 2
    rw [Nat.add_mul]; omega
theorem OwnL.put {w : World} {base : Nat} {e : TypeId} {v : Value} {l : List α} (he : ∀ x, (enc x).length = sz) (h : OwnL w base e sz enc v l) {k : Nat} {x y : α} {j : Nat} {u : Value} (hx : l[k]? = some x) (hj : j < sz) (hy : enc y = (enc x).set j u) :
    ∃ g cap, v = .slice (some ⟨g, 0, none⟩) l.length cap ∧ base ≤ g ∧ g < w.heap.size ∧ w.cell? ⟨g, k * sz + j, none⟩ = (enc x)[j]? ∧ w.frozen? ⟨g, k * sz + j, none⟩ = false ∧ OwnL (w.setCell ⟨g, k * sz + j, none⟩ u) base e sz enc v (l.set k y) := by
  have hk : k < l.length := (List.getElem?_eq_some_iff.1 hx).1
  have hfl := flat_len he l
  have hks : k * sz + j < l.length * sz := by
    have : (k + 1) * sz ≤ l.length * sz := Nat.mul_le_mul_right _ hk
    rw [Nat.add_mul] at this; omega
  obtain ⟨h1, h2⟩ := h
  rcases h2 with ⟨rfl, h0⟩ | ⟨g, cap, cur, rfl, hb, hh, hn, hm, hs, ht⟩
  · omega
  · have hcur : k * sz + j < cur.size := by rw [hs]; exact Nat.lt_of_lt_of_le hks (Nat.mul_le_mul_right _ hn)
    have hg := (Array.getElem?_eq_some_iff.1 hh).1
    have hcell : cur[k * sz + j]? = (enc x)[j]? := by
      rw [← flat_get he l k x j hx hj, ← ht, List.getElem?_take_of_lt (by omega)]
      simp
    refine ⟨g, cap, rfl, hb, hg, ?_, ?_, ?_, ?_⟩
    · unfold World.cell?
      rw [show (⟨g, k * sz + j, none⟩ : Addr).block = g from rfl, hh]
      exact hcell
    · unfold World.frozen?
      rw [show (⟨g, k * sz + j, none⟩ : Addr).block = g from rfl, hh]
      simp
    · rw [flat_set he l k x y j u hx hj hy, List.length_set, List.length_set]; exact h1
    · rw [List.length_set]
      refine .inr ⟨g, cap, cur.setIfInBounds (k * sz + j) u, rfl, hb, ?_, hn, hm, by simpa using hs, ?_⟩
      · simp [World.setCell, Array.getElem?_modify, hh]
      · rw [flat_set he l k x y j u hx hj hy, ← ht]
        simp [List.take_set]
theorem OwnL.putS {w : World} {base : Nat} {e : TypeId} {g n cap : Nat} {l : List α} (he : ∀ x, (enc x).length = sz) (h : OwnL w base e sz enc (.slice (some ⟨g, 0, none⟩) n cap) l) {k : Nat} {x : α} (y : α) (j : Nat) (u : Value) (hx : l[k]? = some x) (hj : j < sz) (hy : enc y = (enc x).set j u) :
    base ≤ g ∧ g < w.heap.size ∧ w.cell? ⟨g, k * sz + j, none⟩ = (enc x)[j]? ∧ w.frozen? ⟨g, k * sz + j, none⟩ = false ∧ OwnL (w.setCell ⟨g, k * sz + j, none⟩ u) base e sz enc (.slice (some ⟨g, 0, none⟩) n cap) (l.set k y) := by
  obtain ⟨g', cap', hv, h1, h2, h3, h4, h5⟩ := OwnL.put he h hx hj hy
  injection hv with hv _ _
  injection hv with hv
  injection hv with hv
  subst hv
  exact ⟨h1, h2, h3, h4, h5⟩
theorem OwnL.made {w : World} {base : Nat} {e : TypeId} {v : Value} {l : List α} (h : OwnL w base e sz enc v l) (hl : 0 < l.length) : ∃ g cap, v = .slice (some ⟨g, 0, none⟩) l.length cap ∧ base ≤ g ∧ g < w.heap.size ∧ l.length ≤ cap ∧ cap ≤ 9223372036854775807 := by
  obtain ⟨h1, h2⟩ := h
  rcases h2 with ⟨rfl, h0⟩ | ⟨g, cap, cur, rfl, hb, hh, hn, hm, hs, ht⟩
  · omega
  · exact ⟨g, cap, rfl, hb, (Array.getElem?_eq_some_iff.1 hh).1, hn, by simpa [maxLen] using hm⟩
theorem OwnL.other {w : World} {base : Nat} {e : TypeId} {v u : Value} {l : List α} {b i : Nat} (h : OwnL w base e sz enc v l) (hne : v.ownBlock ≠ some b) : OwnL (w.setCell ⟨b, i, none⟩ u) base e sz enc v l := by
  refine World.ownsRow.kept (row := some b) h ⟨rfl, rfl, rfl, ?_, fun k hk hn => Below.heap_setCell _ _ _ _ (fun e => hn (congrArg some e))⟩ (.inr hne)
  simp [World.setCell]
end put
end Go.Proofs.YtdekicijinmakaaGreatDoor

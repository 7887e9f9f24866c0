/-
  exodusref15.names.
-/
import Derived.Test.YtammehbflilbiaaDoorCatP
namespace Go.Proofs.YtammehbflilbiaaDoor
open Go.RowKit Go.Lib Lex
set_option linter.unusedVariables false
set_option linter.unusedSimpArgs false

theorem flat_strV : ∀ l : List (List UInt8), l.flatMap encS = l.map strV
  | [] => rfl
  | x :: l => by rw [List.flatMap_cons, flat_strV l]; rfl
theorem StrL.toS {w : World} {v : Value} {l : List (List UInt8)} (h : StrL w v l) : StrS w v l := by
  have h : SlV w 1 v l.length (l.flatMap encS) := h
  rw [flat_strV] at h; exact h
theorem StrS.toL {w : World} {v : Value} {l : List (List UInt8)} (h : StrS w v l) : StrL w v l := by
  have h : SlV w 1 v l.length (l.map strV) := h
  rw [← flat_strV] at h; exact h
theorem names_len {M : Mdl} (h : Few M) : (names M).length ≤ 120 := by
  obtain ⟨h, _⟩ := h
  unfold names
  simp only [List.length_append, List.length_map]
  omega
theorem names_short {M : Mdl} (h : Few M) : ∀ s ∈ names M, s.length ≤ 100 := by
  obtain ⟨_, h0, h1, h2, h3, h4, _⟩ := h
  intro s hs
  unfold names at hs
  simp only [List.mem_append, List.mem_map] at hs
  rcases hs with hs | hs | ⟨x, hx, rfl⟩ | ⟨x, hx, rfl⟩ | ⟨x, hx, rfl⟩
  · exact h0 s hs
  · exact h1 s hs
  · exact h2 x hx
  · exact h3 x hx
  · exact (h4 x hx).1
end Go.Proofs.YtammehbflilbiaaDoor

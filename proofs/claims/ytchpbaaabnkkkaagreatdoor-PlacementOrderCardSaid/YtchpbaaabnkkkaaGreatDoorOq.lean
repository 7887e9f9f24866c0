/-
 An argument that is a pair of ints ([2]int), opened.
-/
import Derived.Test.YtchpbaaabnkkkaaGreatDoorOpen
import Derived.Test.YtchpbaaabnkkkaaGreatDoorPmM
import Derived.OpenShut
namespace Go.Proofs.YtchpbaaabnkkkaaGreatDoor
open Go.ChangeShapes Go.WideShapes Go.ChangeAt Go.RowKit Go.Joins
set_option linter.unusedVariables false
set_option linter.unusedSimpArgs false

section
variable {H : Type} {enc : TypeId × Value → H} {w : World}
set_option maxRecDepth 100000 in
theorem open_pair {r : Reach} {b0 : Nat} {v : Value} {d : DataW H} {q : List MemPlace} (hv : Value.okWide Tryz.prog w r b0 42 v) (h : DataW.Trod enc Tryz.prog w 0 (fun _ => true) true 42 v d q) :
  ∃ a b, v = .agg (pairV a b) ∧ True := by
 simp only [Value.okWide, Tryz.underlying42] at hv
 obtain ⟨cs, rfl, hsz, _⟩ := hv
 obtain ⟨fuel, h⟩ := h
 obtain ⟨xs, n, rfl, hx, hl, hxl, hf⟩ := DataW.trod_array Tryz.underlying42 h
 have hcs : (Value.agg cs).cells.toList = cs.toList := rfl
 rw [hcs] at hl hf
 have hl2 := hl.trans (show Tryz.prog.cellsOf 42 = 2 by kernel_rfl)
 match xs, hxl with
 | [x0, x1], _ =>
 obtain ⟨v0, v1, hv1⟩ : ∃ v0 v1, cs.toList = [v0, v1] := by
  match h : cs.toList, hl2 with
  | [v0, v1], _ => exact ⟨v0, v1, rfl⟩
 rw [hv1] at hf
 have f0 : DataW.trod enc Tryz.prog w 0 (fun _ => true) true n 3 [v0] = some x0 := by simpa [cI] using hf 0 (by decide)
 have f1 : DataW.trod enc Tryz.prog w 0 (fun _ => true) true n 3 [v1] = some x1 := by simpa [cI] using hf 1 (by decide)
 obtain ⟨a, e1, r1⟩ := open_I f0
 obtain ⟨b, e2, r2⟩ := open_I f1
 unfold encI at e1 e2
 simp only [List.cons.injEq, and_true] at e1 e2
 subst e1 e2
 refine ⟨a, b, ?_, trivial⟩
 unfold pairV
 congr 1
 apply Array.ext'
 exact hv1
end
end Go.Proofs.YtchpbaaabnkkkaaGreatDoor

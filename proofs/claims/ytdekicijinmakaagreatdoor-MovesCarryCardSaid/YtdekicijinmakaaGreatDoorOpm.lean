/-
  An argument that is a move, opened.
-/
import Derived.Test.YtdekicijinmakaaGreatDoorOpen
import Derived.Test.YtdekicijinmakaaGreatDoorMva
namespace Go.Proofs.YtdekicijinmakaaGreatDoor
open Go.ChangeShapes Go.WideShapes Go.ChangeAt Go.RowKit Go.Joins
set_option linter.unusedVariables false
set_option linter.unusedSimpArgs false

section
variable {H : Type} {enc : TypeId × Value → H} {w : World} {fuel : Nat} {cs : List Value} {x : DataW H × List MemPlace}
set_option maxRecDepth 100000 in
theorem open_move {r : Reach} {b0 : Nat} {v : Value} {d : DataW H} {p : List MemPlace} (hv : Value.okWide Tryz.prog w r b0 31 v) (h : DataW.Trod enc Tryz.prog w 0 (fun _ => true) true 31 v d p) :
    ∃ x : MvM, v = .agg (moveV x) ∧ I64 x.item ∧ I64 x.frm ∧ I64 x.to := by
  obtain ⟨cs, rfl, hsz⟩ := okWide_struct Tryz.underlying31 hv
  obtain ⟨fuel, h⟩ := h
  obtain ⟨xs, n, rfl, hx, hl, hxl, hf⟩ := DataW.trod_struct Tryz.underlying31 h
  obtain ⟨rfl, rfl⟩ := Prod.mk.inj hx
  have hcs : (Value.agg cs).cells.toList = cs.toList := rfl
  rw [hcs] at hl hf
  obtain ⟨v0, v1, v2, hv3⟩ := one3 (hl.trans (show Tryz.prog.cellsOf 31 = 3 by kernel_rfl))
  obtain ⟨x0, x1, x2, rfl⟩ := one3 hxl
  rw [hv3] at hf
  have f0 : DataW.trod enc Tryz.prog w 0 (fun _ => true) true n 3 [v0] = some x0 := by simpa [cS, cI, cL, cB] using hf 0 _ rfl
  have f1 : DataW.trod enc Tryz.prog w 0 (fun _ => true) true n 3 [v1] = some x1 := by simpa [cS, cI, cL, cB] using hf 1 _ rfl
  have f2 : DataW.trod enc Tryz.prog w 0 (fun _ => true) true n 3 [v2] = some x2 := by simpa [cS, cI, cL, cB] using hf 2 _ rfl
  obtain ⟨s, e0, r0⟩ := open_I f0
  obtain ⟨a, e1, r1⟩ := open_I f1
  obtain ⟨b, e2, r2⟩ := open_I f2
  unfold encI at e0 e1 e2
  simp only [List.cons.injEq, and_true] at e0 e1 e2
  subst e0 e1 e2
  refine ⟨⟨s, a, b⟩, ?_, r0, r1, r2⟩
  unfold moveV
  congr 1
  apply Array.ext'
  exact hv3
end
end Go.Proofs.YtdekicijinmakaaGreatDoor

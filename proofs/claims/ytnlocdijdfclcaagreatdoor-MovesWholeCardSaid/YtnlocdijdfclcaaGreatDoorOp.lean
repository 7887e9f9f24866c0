/-
  An argument that is a placement, opened.
  An argument that is a move, opened.
-/
import Derived.Test.YtnlocdijdfclcaaGreatDoorOpen
import Derived.Test.YtnlocdijdfclcaaGreatDoorPlp
import Derived.Test.YtnlocdijdfclcaaGreatDoorMva
namespace Go.Proofs.YtnlocdijdfclcaaGreatDoor
open Go.ChangeShapes Go.WideShapes Go.ChangeAt Go.RowKit Go.Joins
set_option linter.unusedVariables false
set_option linter.unusedSimpArgs false

section
variable {H : Type} {enc : TypeId × Value → H} {w : World} {fuel : Nat} {cs : List Value} {x : DataW H × List MemPlace}
theorem one1 {α : Type} {l : List α} (h : l.length = 1) : ∃ a, l = [a] := by
 match l, h with
 | [a], _ => exact ⟨a, rfl⟩
theorem one2 {α : Type} {l : List α} (h : l.length = 2) : ∃ a b, l = [a, b] := by
 match l, h with
 | [a, b], _ => exact ⟨a, b, rfl⟩
theorem cUn : Tryz.prog.cellsOf 69 = 2 := by kernel_rfl
theorem cUs : Tryz.prog.cellsOf 64 = 1 := by kernel_rfl
theorem cUr : Tryz.prog.cellsOf 30 = 1 := by kernel_rfl
theorem open_unit (h : DataW.trod enc Tryz.prog w 0 (fun _ => true) true fuel 69 cs = some x) (hw : Light 69 x.1) : ∃ y : UnitM, cs = encU y ∧ True := by
 obtain ⟨xs, n, rfl, rfl, hl, hxl, hf⟩ := DataW.trod_struct Tryz.underlying69 h
 obtain ⟨v0, v1, rfl⟩ := one2 (hl.trans cUn)
 obtain ⟨x0, x1, rfl⟩ := one2 hxl
 have f0 : DataW.trod enc Tryz.prog w 0 (fun _ => true) true n 3 [v0] = some x0 := by simpa [cS, cI, cL, cB] using hf 0 _ rfl
 have f1 : DataW.trod enc Tryz.prog w 0 (fun _ => true) true n 3 [v1] = some x1 := by simpa [cS, cI, cL, cB] using hf 1 _ rfl
 obtain ⟨a, e1, r1⟩ := open_I f0
 obtain ⟨b, e2, r2⟩ := open_I f1
 unfold encI at e1 e2
 simp only [List.cons.injEq, and_true] at e1 e2
 subst e1 e2
 exact ⟨⟨a, b⟩, rfl, trivial⟩
theorem open_urow (h : DataW.trod enc Tryz.prog w 0 (fun _ => true) true fuel 64 cs = some x) (hw : Light 64 x.1) : ∃ y : RowU, cs = encRU y ∧ RowOn w y ∧ y.us.length ≤ 17592186044416 := by
 obtain ⟨p, l, c, h1, h2, h3, _⟩ := open_row Tryz.underlying64 cUn (by decide) (of_decide_eq_true (by kernel_rfl)) encU_len (fun _ _ _ h hw => open_unit h hw) h hw
 exact ⟨⟨p, c, l⟩, h1, h2, h3⟩
set_option maxRecDepth 100000 in
theorem open_placement {r : Reach} {b0 : Nat} {v : Value} {d : DataW H} {q : List MemPlace} (hv : Value.okWide Tryz.prog w r b0 32 v) (h : DataW.Trod enc Tryz.prog w 0 (fun _ => true) true 32 v d q) (hw : Light 32 d) :
  ∃ p c L, v = plcV p c L ∧ PlcAt w p c L := by
 obtain ⟨cs, rfl, hsz⟩ := okWide_struct Tryz.underlying32 hv
 obtain ⟨fuel, h⟩ := h
 obtain ⟨xs, n, rfl, hx, hl, hxl, hf⟩ := DataW.trod_struct Tryz.underlying32 h
 obtain ⟨rfl, rfl⟩ := Prod.mk.inj hx
 have hcs : (Value.agg cs).cells.toList = cs.toList := rfl
 rw [hcs] at hl hf
 obtain ⟨v0, hv1⟩ := one1 (hl.trans (show Tryz.prog.cellsOf 32 = 1 by kernel_rfl))
 obtain ⟨x0, rfl⟩ := one1 hxl
 rw [hv1] at hf
 have f0 : DataW.trod enc Tryz.prog w 0 (fun _ => true) true n 30 [v0] = some x0 := by simpa [cS, cI, cL, cB, cUn, cUs, cUr] using hf 0 _ rfl
 unfold Light at hw
 simp only [DataW.weights, Tryz.underlying32, List.map_cons, List.map_nil, DataW.weightsEach, List.all_append, Bool.and_eq_true] at hw
 obtain ⟨w0, _⟩ := hw
 obtain ⟨p, l, c, e0, s0, b0, r0⟩ := open_row Tryz.underlying30 cUs (by decide) (of_decide_eq_true (by kernel_rfl)) encRU_len (fun _ _ _ h hw => open_urow h hw) f0 (by unfold Light; exact w0)
 simp only [List.cons.injEq, and_true] at e0
 subst e0
 refine ⟨p, c, l, ?_, ⟨s0, fun x hx => (r0 x hx).1, b0, fun x hx => (r0 x hx).2⟩⟩
 unfold plcV
 congr 1
 apply Array.ext'
 exact hv1
end
end Go.Proofs.YtnlocdijdfclcaaGreatDoor
namespace Go.Proofs.YtnlocdijdfclcaaGreatDoor
open Go.ChangeShapes Go.WideShapes Go.ChangeAt Go.RowKit Go.Joins
set_option linter.unusedVariables false
set_option linter.unusedSimpArgs false

section
variable {H : Type} {enc : TypeId × Value → H} {w : World} {fuel : Nat} {cs : List Value} {x : DataW H × List MemPlace}
set_option maxRecDepth 100000 in
theorem open_move {r : Reach} {b0 : Nat} {v : Value} {d : DataW H} {p : List MemPlace} (hv : Value.okWide Tryz.prog w r b0 34 v) (h : DataW.Trod enc Tryz.prog w 0 (fun _ => true) true 34 v d p) :
  ∃ x : MvM, v = .agg (moveV x) ∧ I64 x.item ∧ I64 x.frm ∧ I64 x.to := by
 obtain ⟨cs, rfl, hsz⟩ := okWide_struct Tryz.underlying34 hv
 obtain ⟨fuel, h⟩ := h
 obtain ⟨xs, n, rfl, hx, hl, hxl, hf⟩ := DataW.trod_struct Tryz.underlying34 h
 obtain ⟨rfl, rfl⟩ := Prod.mk.inj hx
 have hcs : (Value.agg cs).cells.toList = cs.toList := rfl
 rw [hcs] at hl hf
 obtain ⟨v0, v1, v2, hv3⟩ := one3 (hl.trans (show Tryz.prog.cellsOf 34 = 3 by kernel_rfl))
 obtain ⟨x0, x1, x2, rfl⟩ := one3 hxl
 rw [hv3] at hf
 have f0 : DataW.trod enc Tryz.prog w 0 (fun _ => true) true n 3 [v0] = some x0 := by simpa [cS, cI, cL, cB] using hf 0 _ rfl
 have f1 : DataW.trod enc Tryz.prog w 0 (fun _ => true) true n 3 [v1] = some x1 := by simpa [cS, cI, cL, cB] using hf 1 _ rfl
 have f2 : DataW.trod enc Tryz.prog w 0 (fun _ => true) true n 3 [v2] = some x2 := by simpa [cS, cI, cL, cB] using hf 2 _ rfl
 obtain ⟨s, e0, r0⟩ := open_I f0
 obtain ⟨a, e1, r1⟩ := open_I f1
 obtain ⟨b, e2, r2⟩ := open_I f2
 unfold encI at e0 e1 e2
 simp only [List.cons.injEq, and_true] at e0 e1 e2
 subst e0 e1 e2
 refine ⟨⟨s, a, b⟩, ?_, r0, r1, r2⟩
 unfold moveV
 congr 1
 apply Array.ext'
 exact hv3
end
end Go.Proofs.YtnlocdijdfclcaaGreatDoor

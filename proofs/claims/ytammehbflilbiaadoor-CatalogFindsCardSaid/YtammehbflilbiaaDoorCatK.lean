/-
  The map of catalog.forms.
-/
import Derived.Test.YtammehbflilbiaaDoorCatJ
import Derived.Test.YtammehbflilbiaaDoorEarly
namespace Go.Proofs.YtammehbflilbiaaDoor
open Go.RowKit Go.Lib Lex
set_option linter.unusedVariables false
set_option linter.unusedSimpArgs false

def frm (f g : FuncId) : Value := .agg #[.func (.func f) #[] #[], .func (.func g) #[] #[]]
def formsL : List (Value × Value) := [(.int .i64 0, frm 80 82), (.int .i64 1, frm 83 84), (.int .i64 2, frm 85 86), (.int .i64 3, frm 87 88),
  (.int .i64 4, frm 89 90), (.int .i64 5, frm 91 92), (.int .i64 6, frm 93 94)]
theorem cat_forms (w : World) : Calls Tryd.prog 73 #[] w (Ret w fun r w' => ∃ b, r = .map (some b) ∧ MapAt w' b formsL) := by
  have hmk := fun w => run_makeMap (P := Tryd.prog) 96 w
  have i0 := run_store_alloc (P := Tryd.prog) (w := w) (es := #[]) (c := 0) (t := 96) (key := .int .i64 0) (es' := #[⟨.int .i64 0, (.agg #[.func (.func 80) #[] #[], .func (.func 82) #[] #[]]), 0⟩]) (.agg #[.func (.func 80) #[] #[], .func (.func 82) #[] #[]]) Tryd.underlying96 Tryd.underlying3 int_key (by rfl) (by rfl)
  simp only [Nat.reduceAdd] at i0
  have i1 := run_store_alloc (P := Tryd.prog) (w := w) (es := #[⟨.int .i64 0, (.agg #[.func (.func 80) #[] #[], .func (.func 82) #[] #[]]), 0⟩]) (c := 1) (t := 96) (key := .int .i64 1) (es' := #[⟨.int .i64 0, (.agg #[.func (.func 80) #[] #[], .func (.func 82) #[] #[]]), 0⟩, ⟨.int .i64 1, (.agg #[.func (.func 83) #[] #[], .func (.func 84) #[] #[]]), 1⟩]) (.agg #[.func (.func 83) #[] #[], .func (.func 84) #[] #[]]) Tryd.underlying96 Tryd.underlying3 int_key (by rfl) (by rfl)
  simp only [Nat.reduceAdd] at i1
  have i2 := run_store_alloc (P := Tryd.prog) (w := w) (es := #[⟨.int .i64 0, (.agg #[.func (.func 80) #[] #[], .func (.func 82) #[] #[]]), 0⟩, ⟨.int .i64 1, (.agg #[.func (.func 83) #[] #[], .func (.func 84) #[] #[]]), 1⟩]) (c := 2) (t := 96) (key := .int .i64 2) (es' := #[⟨.int .i64 0, (.agg #[.func (.func 80) #[] #[], .func (.func 82) #[] #[]]), 0⟩, ⟨.int .i64 1, (.agg #[.func (.func 83) #[] #[], .func (.func 84) #[] #[]]), 1⟩, ⟨.int .i64 2, (.agg #[.func (.func 85) #[] #[], .func (.func 86) #[] #[]]), 2⟩]) (.agg #[.func (.func 85) #[] #[], .func (.func 86) #[] #[]]) Tryd.underlying96 Tryd.underlying3 int_key (by rfl) (by rfl)
  simp only [Nat.reduceAdd] at i2
  have i3 := run_store_alloc (P := Tryd.prog) (w := w) (es := #[⟨.int .i64 0, (.agg #[.func (.func 80) #[] #[], .func (.func 82) #[] #[]]), 0⟩, ⟨.int .i64 1, (.agg #[.func (.func 83) #[] #[], .func (.func 84) #[] #[]]), 1⟩, ⟨.int .i64 2, (.agg #[.func (.func 85) #[] #[], .func (.func 86) #[] #[]]), 2⟩]) (c := 3) (t := 96) (key := .int .i64 3) (es' := #[⟨.int .i64 0, (.agg #[.func (.func 80) #[] #[], .func (.func 82) #[] #[]]), 0⟩, ⟨.int .i64 1, (.agg #[.func (.func 83) #[] #[], .func (.func 84) #[] #[]]), 1⟩, ⟨.int .i64 2, (.agg #[.func (.func 85) #[] #[], .func (.func 86) #[] #[]]), 2⟩, ⟨.int .i64 3, (.agg #[.func (.func 87) #[] #[], .func (.func 88) #[] #[]]), 3⟩]) (.agg #[.func (.func 87) #[] #[], .func (.func 88) #[] #[]]) Tryd.underlying96 Tryd.underlying3 int_key (by rfl) (by rfl)
  simp only [Nat.reduceAdd] at i3
  have i4 := run_store_alloc (P := Tryd.prog) (w := w) (es := #[⟨.int .i64 0, (.agg #[.func (.func 80) #[] #[], .func (.func 82) #[] #[]]), 0⟩, ⟨.int .i64 1, (.agg #[.func (.func 83) #[] #[], .func (.func 84) #[] #[]]), 1⟩, ⟨.int .i64 2, (.agg #[.func (.func 85) #[] #[], .func (.func 86) #[] #[]]), 2⟩, ⟨.int .i64 3, (.agg #[.func (.func 87) #[] #[], .func (.func 88) #[] #[]]), 3⟩]) (c := 4) (t := 96) (key := .int .i64 4) (es' := #[⟨.int .i64 0, (.agg #[.func (.func 80) #[] #[], .func (.func 82) #[] #[]]), 0⟩, ⟨.int .i64 1, (.agg #[.func (.func 83) #[] #[], .func (.func 84) #[] #[]]), 1⟩, ⟨.int .i64 2, (.agg #[.func (.func 85) #[] #[], .func (.func 86) #[] #[]]), 2⟩, ⟨.int .i64 3, (.agg #[.func (.func 87) #[] #[], .func (.func 88) #[] #[]]), 3⟩, ⟨.int .i64 4, (.agg #[.func (.func 89) #[] #[], .func (.func 90) #[] #[]]), 4⟩]) (.agg #[.func (.func 89) #[] #[], .func (.func 90) #[] #[]]) Tryd.underlying96 Tryd.underlying3 int_key (by rfl) (by rfl)
  simp only [Nat.reduceAdd] at i4
  have i5 := run_store_alloc (P := Tryd.prog) (w := w) (es := #[⟨.int .i64 0, (.agg #[.func (.func 80) #[] #[], .func (.func 82) #[] #[]]), 0⟩, ⟨.int .i64 1, (.agg #[.func (.func 83) #[] #[], .func (.func 84) #[] #[]]), 1⟩, ⟨.int .i64 2, (.agg #[.func (.func 85) #[] #[], .func (.func 86) #[] #[]]), 2⟩, ⟨.int .i64 3, (.agg #[.func (.func 87) #[] #[], .func (.func 88) #[] #[]]), 3⟩, ⟨.int .i64 4, (.agg #[.func (.func 89) #[] #[], .func (.func 90) #[] #[]]), 4⟩]) (c := 5) (t := 96) (key := .int .i64 5) (es' := #[⟨.int .i64 0, (.agg #[.func (.func 80) #[] #[], .func (.func 82) #[] #[]]), 0⟩, ⟨.int .i64 1, (.agg #[.func (.func 83) #[] #[], .func (.func 84) #[] #[]]), 1⟩, ⟨.int .i64 2, (.agg #[.func (.func 85) #[] #[], .func (.func 86) #[] #[]]), 2⟩, ⟨.int .i64 3, (.agg #[.func (.func 87) #[] #[], .func (.func 88) #[] #[]]), 3⟩, ⟨.int .i64 4, (.agg #[.func (.func 89) #[] #[], .func (.func 90) #[] #[]]), 4⟩, ⟨.int .i64 5, (.agg #[.func (.func 91) #[] #[], .func (.func 92) #[] #[]]), 5⟩]) (.agg #[.func (.func 91) #[] #[], .func (.func 92) #[] #[]]) Tryd.underlying96 Tryd.underlying3 int_key (by rfl) (by rfl)
  simp only [Nat.reduceAdd] at i5
  have i6 := run_store_alloc (P := Tryd.prog) (w := w) (es := #[⟨.int .i64 0, (.agg #[.func (.func 80) #[] #[], .func (.func 82) #[] #[]]), 0⟩, ⟨.int .i64 1, (.agg #[.func (.func 83) #[] #[], .func (.func 84) #[] #[]]), 1⟩, ⟨.int .i64 2, (.agg #[.func (.func 85) #[] #[], .func (.func 86) #[] #[]]), 2⟩, ⟨.int .i64 3, (.agg #[.func (.func 87) #[] #[], .func (.func 88) #[] #[]]), 3⟩, ⟨.int .i64 4, (.agg #[.func (.func 89) #[] #[], .func (.func 90) #[] #[]]), 4⟩, ⟨.int .i64 5, (.agg #[.func (.func 91) #[] #[], .func (.func 92) #[] #[]]), 5⟩]) (c := 6) (t := 96) (key := .int .i64 6) (es' := #[⟨.int .i64 0, (.agg #[.func (.func 80) #[] #[], .func (.func 82) #[] #[]]), 0⟩, ⟨.int .i64 1, (.agg #[.func (.func 83) #[] #[], .func (.func 84) #[] #[]]), 1⟩, ⟨.int .i64 2, (.agg #[.func (.func 85) #[] #[], .func (.func 86) #[] #[]]), 2⟩, ⟨.int .i64 3, (.agg #[.func (.func 87) #[] #[], .func (.func 88) #[] #[]]), 3⟩, ⟨.int .i64 4, (.agg #[.func (.func 89) #[] #[], .func (.func 90) #[] #[]]), 4⟩, ⟨.int .i64 5, (.agg #[.func (.func 91) #[] #[], .func (.func 92) #[] #[]]), 5⟩, ⟨.int .i64 6, (.agg #[.func (.func 93) #[] #[], .func (.func 94) #[] #[]]), 6⟩]) (.agg #[.func (.func 93) #[] #[], .func (.func 94) #[] #[]]) Tryd.underlying96 Tryd.underlying3 int_key (by rfl) (by rfl)
  simp only [Nat.reduceAdd] at i6
  go_enter Tryd.func73, Tryd.ntmps73
  go_wp2_with fail
  go_ret
  refine ⟨_, rfl, (Gr.refl w).alloc _, _, rfl, _, _, (MapKept.heap_alloc w _).1, rfl⟩
end Go.Proofs.YtammehbflilbiaaDoor

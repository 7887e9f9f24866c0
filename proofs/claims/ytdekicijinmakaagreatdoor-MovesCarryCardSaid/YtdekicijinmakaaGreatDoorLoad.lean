/-
  catalog.Load, catalog.Fits.
-/
import Derived.Test.YtdekicijinmakaaGreatDoorCatI
namespace Go.Proofs.YtdekicijinmakaaGreatDoor
open Go.RowKit Go.Lib Lex
set_option linter.unusedVariables false
set_option linter.unusedSimpArgs false

theorem contains_int (w : World) (p : Option Addr) (c : Nat) (l : List Int) (x : Int) (hl : IntL w (.slice p l.length c) l) (hb : l.length ≤ 1000000) :
    Calls Tryz.prog 86 #[.slice p l.length c, .int .i64 x] w fun e w' => e = .returned (.bool (l.contains x)) ∧ w' = w := by
  by_cases h0 : l.length = 0
  · have hn : l = [] := List.eq_nil_of_length_eq_zero h0
    subst hn
    exact Tryz.slices_Contains_int_empty p c x w
  · obtain ⟨b, o, rfl, hc⟩ := SlV.cells hl (by omega)
    have h := Tryz.slices_Contains_int b o l.length c l x w (Nat.le_refl _) (by omega) (int_cells hl rfl)
    rw [List.take_length] at h
    exact h
def loadStep (n : Int) (s : Int) (x : ItemM) : Int := if x.on.contains n = true then wrap64 (s + x.load) else s
/-- the load of a machine at the beginning, as 64-bit numbers add -/
def loadW (M : Mdl) (n : Int) : Int := M.items.foldl (loadStep n) 0
theorem foldl_take {α β : Type} (f : β → α → β) (l : List α) (a : β) {k : Nat} {x : α} (h : l[k]? = some x) : (l.take (k + 1)).foldl f a = f ((l.take k).foldl f a) x := by
  rw [List.take_add_one, h, List.foldl_append]; rfl
/-- no machine has more load than capacity -/
def FitsM (M : Mdl) : Prop := ∀ (i : Nat) (x : MachM), M.machs[i]? = some x → loadW M ((i : Int) + 1) ≤ x.cap
end Go.Proofs.YtdekicijinmakaaGreatDoor

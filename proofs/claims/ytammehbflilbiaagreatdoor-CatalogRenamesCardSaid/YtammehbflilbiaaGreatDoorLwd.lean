/-
  The law CatalogSums: plain part.
-/
import Derived.Test.YtammehbflilbiaaGreatDoorExb
import Derived.Test.YtammehbflilbiaaGreatDoorOpen
import Derived.Test.YtammehbflilbiaaGreatDoorPln
import Derived.Test.YtammehbflilbiaaGreatDoorPut
namespace Go.Proofs.YtammehbflilbiaaGreatDoor
open Go.RowKit Go.Lib Lex
set_option linter.unusedVariables false
set_option linter.unusedSimpArgs false

theorem w64 {n : Int} (h : -9223372036854775808 ≤ n ∧ n ≤ 9223372036854775807) : wrap64 n = n := by
  have := IntKind.wrap_i64 n
  unfold wrap64
  omega
theorem foldl_loadS (n : Int) : ∀ (l : List ItemM) (a : Int), (∀ x ∈ l, 0 ≤ x.load ∧ x.load ≤ 1048576) → 0 ≤ a → a + 1048576 * (l.length : Int) ≤ 9223372036854775807 → l.foldl (loadStep n) a = a + loadS l n
  | [], a, _, _, _ => by simp [loadS]
  | x :: l, a, h, h0, hb => by
    have hx := h x List.mem_cons_self
    have e2 : ((x :: l).length : Int) = (l.length : Int) + 1 := by simp
    rw [e2] at hb
    rw [List.foldl_cons, foldl_loadS n l _ (fun y hy => h y (List.mem_cons_of_mem _ hy)) (by unfold loadStep; split; rw [w64 (by omega)]; omega; omega) (by unfold loadStep; split; rw [w64 (by omega)]; omega; omega)]
    have e : loadS (x :: l) n = (if x.on.contains n = true then x.load else 0) + loadS l n := by simp [loadS]
    rw [e]
    unfold loadStep
    split
    · rw [w64 (by omega)]; omega
    · omega
theorem load_bound {M : Mdl} (h : MdlOK M) : ∀ x ∈ M.items, 0 ≤ x.load ∧ x.load ≤ 1048576 := fun x hx => (h.2.2.2.2.1 x hx).2.2.1
theorem loadW_eq {M : Mdl} (h : MdlOK M) (n : Int) : loadW M n = loadS M.items n := by
  unfold loadW
  have := h.2.1
  rw [foldl_loadS n M.items 0 (load_bound h) (by omega) (by omega)]
  omega
/-- the machines, the first k of them with the capacity of their load -/
def machUp (M : Mdl) (k : Nat) : List MachM := M.machs.mapIdx fun i x => if i < k then { x with cap := loadS M.items ((i : Int) + 1) } else x
theorem machUp_len (M : Mdl) (k : Nat) : (machUp M k).length = M.machs.length := by simp [machUp]
theorem machUp_zero (M : Mdl) : machUp M 0 = M.machs := by
  apply List.ext_getElem?
  intro i
  simp only [machUp, List.getElem?_mapIdx]
  cases M.machs[i]? <;> simp
theorem machUp_get {M : Mdl} {k i : Nat} {x : MachM} (h : M.machs[i]? = some x) : (machUp M k)[i]? = some (if i < k then { x with cap := loadS M.items ((i : Int) + 1) } else x) := by
  simp only [machUp, List.getElem?_mapIdx, h, Option.map_some]
theorem machUp_set {M : Mdl} {k : Nat} {x : MachM} (h : M.machs[k]? = some x) : (machUp M k).set k { x with cap := loadS M.items ((k : Int) + 1) } = machUp M (k + 1) := by
  have hl := (List.getElem?_eq_some_iff.1 h).1
  apply List.ext_getElem?
  intro i
  by_cases e : k = i
  · subst e
    rw [List.getElem?_set_self (by rw [machUp_len]; exact hl), machUp_get h, if_pos (by omega)]
  · rw [List.getElem?_set_ne e]
    cases hi : M.machs[i]? with
    | none => simp [machUp, hi]
    | some y => 
      rw [machUp_get hi, machUp_get hi]
      by_cases h1 : i < k
      · rw [if_pos h1, if_pos (by omega)]
      · rw [if_neg h1, if_neg (by omega)]
def withMachs (M : Mdl) : Mdl := { M with machs := machUp M M.machs.length }
theorem withMachs_fits {M : Mdl} (h : MdlOK M) : FitsM (withMachs M) := fun i x hx => by
  have hi : i < M.machs.length := by have := (List.getElem?_eq_some_iff.1 hx).1; simpa [withMachs, machUp] using this
  have h1 := machUp_get (k := M.machs.length) (List.getElem?_eq_getElem hi)
  rw [if_pos hi] at h1
  have e := Option.some.inj (hx.symm.trans h1)
  subst e
  show loadW M ((i : Int) + 1) ≤ _
  rw [loadW_eq h]
  exact Int.le_refl _
theorem withMachs_few {M : Mdl} (h : Few M) : Few (withMachs M) := by
  obtain ⟨⟨a0, a1, a2, a3, a4, a5, a6⟩, b0, b1, b2, b3, b4, b5⟩ := h
  refine ⟨⟨a0, a1, a2, by unfold withMachs; rw [machUp_len]; exact a3, a4, a5, a6⟩, b0, b1, b2, fun x hx => ?_, b4, b5⟩
  obtain ⟨i, hi, e⟩ := List.getElem_of_mem hx
  have hi' : i < M.machs.length := by simpa [withMachs, machUp] using hi
  have h1 := machUp_get (k := M.machs.length) (List.getElem?_eq_getElem hi')
  rw [if_pos hi'] at h1
  have h2 : (withMachs M).machs[i]? = some x := by rw [List.getElem?_eq_getElem hi, e]
  have e2 := Option.some.inj (h2.symm.trans h1)
  subst e2
  exact b3 M.machs[i] (List.getElem_mem hi')
theorem wantS_take {M : Mdl} {k : Nat} {x : ItemM} (h : M.items[k]? = some x) : wantS (M.items.take (k + 1)) = wantS (M.items.take k) + x.load * (x.on.length : Int) := by
  unfold wantS
  rw [List.take_add_one, h]
  simp [List.map_append]
theorem mul_bound {a b A B : Int} (h1 : 0 ≤ a) (h2 : a ≤ A) (h3 : 0 ≤ b) (h4 : b ≤ B) : 0 ≤ a * b ∧ a * b ≤ A * B :=
  ⟨Int.mul_nonneg h1 h3, Int.mul_le_mul h2 h4 h3 (by omega)⟩
theorem wantS_bound {l : List ItemM} (h : ∀ x ∈ l, (0 ≤ x.load ∧ x.load ≤ 1048576) ∧ x.on.length ≤ 25) : 0 ≤ wantS l ∧ wantS l ≤ 26214400 * (l.length : Int) := by
  induction l with
  | nil => simp [wantS]
  | cons x l ih =>
    have h1 := ih (fun y hy => h y (List.mem_cons_of_mem _ hy))
    obtain ⟨h2, h3⟩ := h x List.mem_cons_self
    have h4 := mul_bound h2.1 h2.2 (show (0 : Int) ≤ (x.on.length : Int) by omega) (show (x.on.length : Int) ≤ 25 by omega)
    have e : wantS (x :: l) = x.load * (x.on.length : Int) + wantS l := by simp [wantS]
    have e2 : ((x :: l).length : Int) = (l.length : Int) + 1 := by simp
    rw [e, e2]
    omega
end Go.Proofs.YtammehbflilbiaaGreatDoor

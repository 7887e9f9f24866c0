/-
  catalog.IsName.
-/
import Derived.Test.YtammehbflilbiaaDoorCatA
import Derived.Laws.RangeAny
namespace Go.Proofs.YtammehbflilbiaaDoor
open Go.RowKit Go.Lib Lex
set_option linter.unusedVariables false
set_option linter.unusedSimpArgs false

/-- a rune that stands in no name -/
def offName (r : Nat) : Bool := (decide (r < 97) || decide (122 < r)) && (decide (r < 48) || decide (57 < r)) && (r != 95)
theorem offName_wd (c : UInt8) : offName c.toNat = !isWd c := by
  unfold offName isWd isLo isDi
  have e : (c == 95) = decide (c.toNat = 95) := by
    by_cases h : c = 95
    · subst h; rfl
    · have : ¬ c.toNat = 95 := fun e => h (UInt8.toNat_inj.1 (by simpa using e))
      simp [h, this]
  rw [e]
  by_cases h1 : 97 ≤ c.toNat <;> by_cases h2 : c.toNat ≤ 122 <;> by_cases h3 : 48 ≤ c.toNat <;> by_cases h4 : c.toNat ≤ 57 <;> by_cases h5 : c.toNat = 95 <;> simp [h1, h2, h3, h4, h5] <;> omega
theorem offName_high {r : Nat} (h : 128 ≤ r) : offName r = true := by
  unfold offName
  have h1 : 122 < r := by omega
  have h2 : 57 < r := by omega
  have h3 : r ≠ 95 := by omega
  simp [h1, h2, h3]
theorem idx_from (bs : List UInt8) : ∀ (f pos : Nat), pos ≤ bs.length → bs.length - pos ≤ f → (0 ≤ idxFuncFrom offName true ⟨bs.toArray⟩ f pos ↔ (bs.drop pos).all isWd = false)
  | 0, pos, h, hf => by
    have : bs.drop pos = [] := List.drop_eq_nil_of_le (by omega)
    rw [this]
    simp [idxFuncFrom]
  | f + 1, pos, h, hf => by
    have hz : (⟨bs.toArray⟩ : ByteArray).size = bs.length := by simp [ByteArray.size]
    rcases Nat.lt_or_ge pos bs.length with hlt | hge
    · have hp : pos < (⟨bs.toArray⟩ : ByteArray).size := by rw [hz]; exact hlt
      have hb : (⟨bs.toArray⟩ : ByteArray)[pos]'hp = bs[pos] := by show bs.toArray[pos] = _; simp
      have hd : bs.drop pos = bs[pos] :: bs.drop (pos + 1) := List.drop_eq_getElem_cons hlt
      unfold idxFuncFrom
      rw [if_pos hp, hd, List.all_cons]
      rcases Nat.lt_or_ge (bs[pos]).toNat 128 with ha | ha
      · rw [decode_ascii _ pos hp (by rw [hb]; exact ha), hb]
        show (0 ≤ if offName (bs[pos]).toNat = true then (pos : Int) else idxFuncFrom offName true ⟨bs.toArray⟩ f (pos + 1)) ↔ _
        rw [offName_wd]
        cases hw : isWd bs[pos]
        · simp
        · simp only [Bool.not_true, Bool.false_eq_true, if_false, Bool.true_and]
          exact idx_from bs f (pos + 1) (by omega) (by omega)
      · have hh := decode_high _ pos hp (by rw [hb]; exact ha)
        rw [if_pos (offName_high hh.1)]
        have : isWd bs[pos] = false := by
          have := offName_wd bs[pos]
          rw [offName_high ha] at this
          simpa using this.symm
        rw [this]
        simp
    · have : bs.drop pos = [] := List.drop_eq_nil_of_le (by omega)
      rw [this]
      unfold idxFuncFrom
      rw [if_neg (by rw [hz]; omega)]
      simp
theorem idx_name (bs : List UInt8) : decide (0 ≤ idxFunc offName true ⟨bs.toArray⟩) = !bs.all isWd := by
  have h := idx_from bs bs.length 0 (Nat.zero_le _) (by omega)
  have hz : (⟨bs.toArray⟩ : ByteArray).size = bs.length := by simp [ByteArray.size]
  unfold idxFunc
  rw [hz]
  rw [List.drop_zero] at h
  cases hw : bs.all isWd
  · rw [hw] at h; simp [h.2 rfl]
  · rw [hw] at h
    simp
    have : ¬ 0 ≤ idxFuncFrom offName true ⟨bs.toArray⟩ bs.length 0 := fun e => by have := h.1 e; cases this
    omega
set_option maxRecDepth 100000 in
theorem cat_rune (w : World) (x : Nat) (hx : x ≤ 1114111) : Calls Tryd.prog 20 (#[encR x] ++ #[]) w fun e w' => e = .returned (.bool (offName x)) ∧ Below w.heap.size w w' := by
  by_cases h1 : (x : Int) < 97
  · by_cases h2 : (x : Int) < 48
    · by_cases h5 : (x : Int) = 95
      · omega
      · have e5 : ((x : Int) != 95) = true := by simpa using h5
        have H1 := Lib.hid (And.intro h1 (And.intro h2 h5))
        clear h5
        go_enter Tryd.func20, Tryd.ntmps20
        go_wp2_with fail
        go_ret
        refine ⟨?_, Below.refl _ _⟩
        unfold offName
        have := H1.out
        congr 2
        simp
        try omega
    · by_cases h3 : 57 < (x : Int)
      · by_cases h5 : (x : Int) = 95
        · have e5 : ((x : Int) != 95) = false := by simpa using h5
          have H1 := Lib.hid (And.intro h1 (And.intro h2 h5))
          clear h5
          go_enter Tryd.func20, Tryd.ntmps20
          go_wp2_with fail
          go_ret
          refine ⟨?_, Below.refl _ _⟩
          unfold offName
          have := H1.out
          congr 2
          simp
          try omega
        · have e5 : ((x : Int) != 95) = true := by simpa using h5
          have H1 := Lib.hid (And.intro h1 (And.intro h2 h5))
          clear h5
          go_enter Tryd.func20, Tryd.ntmps20
          go_wp2_with fail
          go_ret
          refine ⟨?_, Below.refl _ _⟩
          unfold offName
          have := H1.out
          congr 2
          simp
          try omega
      · have h5 : ¬ (x : Int) = 95 := by omega
        have H1 := Lib.hid (And.intro h1 (And.intro h2 h5))
        clear h5
        go_enter Tryd.func20, Tryd.ntmps20
        go_wp2_with fail
        go_ret
        refine ⟨?_, Below.refl _ _⟩
        unfold offName
        have := H1.out
        congr 2
        simp
        try omega
  · by_cases h2 : 122 < (x : Int)
    · have h4 : ¬ (x : Int) < 48 := by omega
      have h3 : 57 < (x : Int) := by omega
      have h5 : ¬ (x : Int) = 95 := by omega
      have e5 : ((x : Int) != 95) = true := by simpa using h5
      have H1 := Lib.hid (And.intro h1 (And.intro h2 h5))
      clear h5
      go_enter Tryd.func20, Tryd.ntmps20
      go_wp2_with fail
      go_ret
      refine ⟨?_, Below.refl _ _⟩
      unfold offName
      have := H1.out
      congr 2
      simp
      try omega
    · have h5 : ¬ (x : Int) = 95 := by omega
      have H1 := Lib.hid (And.intro h1 (And.intro h2 h5))
      clear h5
      go_enter Tryd.func20, Tryd.ntmps20
      go_wp2_with fail
      go_ret
      refine ⟨?_, Below.refl _ _⟩
      unfold offName
      have := H1.out
      congr 2
      simp
      try omega
end Go.Proofs.YtammehbflilbiaaDoor

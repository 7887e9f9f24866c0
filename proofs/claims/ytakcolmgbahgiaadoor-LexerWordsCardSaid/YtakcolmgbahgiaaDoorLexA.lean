/-
  The lexer's classes of bytes: function values.
-/
import Derived.Test.YtakcolmgbahgiaaDoorLex
import Derived.Test.YtakcolmgbahgiaaDoorFast
import Derived.Test.YtakcolmgbahgiaaDoorShelf
namespace Go.Proofs.YtakcolmgbahgiaaDoor
open Go.RowKit Go.Lib
set_option linter.unusedVariables false
set_option linter.unusedSimpArgs false

/-- a box of one cell -/
def One (w : World) (b : Nat) (x : Value) : Prop := ∃ t, w.heap[b]? = some (.cells #[x] t (0, 0))
theorem One.lt {w : World} {b : Nat} {x : Value} (h : One w b x) : b < w.heap.size := by
  obtain ⟨t, h⟩ := h
  rcases Nat.lt_or_ge b w.heap.size with h' | h'
  · exact h'
  · rw [Array.getElem?_eq_none h'] at h; cases h
theorem One.grow {w w' : World} {b : Nat} {x : Value} (h : One w b x) (g : Gr w w') : One w' b x := by
  have hl := h.lt
  obtain ⟨t, h⟩ := h; exact ⟨t, by rw [Below.block g b hl]; exact h⟩
theorem One.load {w : World} {b : Nat} {x : Value} (h : One w b x) : w.cell? ⟨b, 0, none⟩ = some x := by
  obtain ⟨t, h⟩ := h; simp [World.cell?, h]
theorem One.c0 {w : World} {b : Nat} {x : Value} (h : One w b x) : ∀ w', Gr w w' → w'.cell? ⟨b, 0, none⟩ = some x := fun w' g => (h.grow g).load
theorem box1 (w : World) (x : Value) (t : TypeId) : Gr w (w.alloc (.cells #[x] t)) ∧ One (w.alloc (.cells #[x] t)) w.heap.size x :=
  ⟨(Gr.refl w).alloc _, t, heap_alloc_new w _⟩
theorem box11 (w : World) (x y : Value) (t t' : TypeId) : Gr w ((w.alloc (.cells #[x] t)).alloc (.cells #[y] t')) ∧ One ((w.alloc (.cells #[x] t)).alloc (.cells #[y] t')) w.heap.size x ∧ One ((w.alloc (.cells #[x] t)).alloc (.cells #[y] t')) (w.heap.size + 1) y := by
  obtain ⟨g, h⟩ := box1 w x t
  obtain ⟨g', h'⟩ := box1 (w.alloc (.cells #[x] t)) y t'
  rw [World.size_alloc] at h'
  exact ⟨g.trans g', h.grow g', h'⟩

/-- v is a function value that answers p of a byte, in every world that has grown out of w -/
def Cls (w : World) (v : Value) (p : UInt8 → Bool) : Prop := ∃ (f : Nat) (caps : Array Value), v = .func (.func f) #[] caps ∧ (∀ args w, (callFunc f args).run Tryd.prog w = .ok (.enter f args) w) ∧
  ∀ w', Gr w w' → ∀ c : UInt8, Calls Tryd.prog f (#[.int .u8 (c.toNat : Int)] ++ caps) w' (Ret w' fun r _ => r = .bool (p c))
theorem Cls.grow {w w' : World} {v : Value} {p : UInt8 → Bool} (h : Cls w v p) (g : Gr w w') : Cls w' v p := by
  obtain ⟨f, caps, h1, h2, h5⟩ := h
  exact ⟨f, caps, h1, h2, fun w'' g' => h5 w'' (g.trans g')⟩

def inR (lo hi : Nat) (c : UInt8) : Bool := decide (lo ≤ c.toNat) && decide (c.toNat ≤ hi)
theorem clo_from (w : World) (b1 b2 lo hi : Nat) (c : UInt8) (h1 : w.cell? ⟨b1, 0, none⟩ = some (.int .u8 lo)) (h2 : w.cell? ⟨b2, 0, none⟩ = some (.int .u8 hi)) :
    Calls Tryd.prog 46 #[.int .u8 (c.toNat : Int), .pointer (some ⟨b1, 0, none⟩), .pointer (some ⟨b2, 0, none⟩)] w (Ret w fun r _ => r = .bool (inR lo hi c)) := by
  by_cases hl : (lo : Int) ≤ (c.toNat : Int)
  · by_cases hh : (c.toNat : Int) ≤ (hi : Int)
    · go_enter Tryd.func46, Tryd.ntmps46
      go_wp2_with fail
      go_ret
      exact ⟨_, rfl, Gr.refl _, by unfold inR; rw [decide_eq_true (by omega), decide_eq_true (by omega)]; rfl⟩
    · go_enter Tryd.func46, Tryd.ntmps46
      go_wp2_with fail
      go_ret
      exact ⟨_, rfl, Gr.refl _, by unfold inR; rw [decide_eq_true (show lo ≤ c.toNat by omega), decide_eq_false (show ¬ c.toNat ≤ hi by omega)]; simp; try omega⟩
  · go_enter Tryd.func46, Tryd.ntmps46
    go_wp2_with fail
    go_ret
    exact ⟨_, rfl, Gr.refl _, by unfold inR; rw [decide_eq_false (show ¬ lo ≤ c.toNat by omega)]; simp; try omega⟩
theorem lex_from (w : World) (lo hi : Nat) :
    Calls Tryd.prog 34 #[.int .u8 lo, .int .u8 hi] w (Ret w fun r w' => Cls w' r (inR lo hi)) := by
  have B := box11 w (.int .u8 lo) (.int .u8 hi) 5 5
  go_enter Tryd.func34, Tryd.ntmps34
  go_wp2_with fail
  generalize (w.alloc _).alloc _ = W at B ⊢
  obtain ⟨g, h1, h2⟩ := B
  go_ret
  refine ⟨_, rfl, g, ⟨46, #[.pointer (some ⟨w.heap.size, 0, none⟩), .pointer (some ⟨w.heap.size + 1, 0, none⟩)], rfl, enters_of Tryd.func46 (by kernel_rfl) rfl, fun w' g' c => ?_⟩⟩
  exact clo_from w' _ _ lo hi c (h1.c0 w' g') (h2.c0 w' g')

def inS (s : List UInt8) (c : UInt8) : Bool := s.contains c
theorem indexByte_ge0 : ∀ (s : List UInt8) (c : UInt8), decide (0 ≤ indexByte s c) = s.contains c
  | [], c => rfl
  | b :: s, c => by
    have ih := indexByte_ge0 s c
    show decide (0 ≤ (if b == c then (0 : Int) else if indexByte s c == -1 then -1 else indexByte s c + 1)) = _
    rw [List.contains_cons]
    by_cases h : (b == c) = true
    · have : (c == b) = true := by simpa using (by simpa using h : b = c).symm
      rw [if_pos h, this]; rfl
    · have h' : (c == b) = false := by
        cases hc : c == b with
        | false => rfl
        | true => exact absurd (by simpa using (by simpa using hc : c = b).symm) h
      rw [if_neg h, h', Bool.false_or, ← ih]
      have hge := indexByte_ge s c
      by_cases h1 : (indexByte s c == -1) = true
      · have : indexByte s c = -1 := by simpa using h1
        rw [if_pos h1, this]
      · have : indexByte s c ≠ -1 := by simpa using h1
        rw [if_neg h1, decide_eq_true (by omega), decide_eq_true (by omega)]
theorem clo_among (w : World) (b1 : Nat) (s : List UInt8) (c : UInt8) (h1 : w.cell? ⟨b1, 0, none⟩ = some (.string ⟨s.toArray⟩)) :
    Calls Tryd.prog 44 #[.int .u8 (c.toNat : Int), .pointer (some ⟨b1, 0, none⟩)] w (Ret w fun r _ => r = .bool (inS s c)) := by
  go_enter Tryd.func44, Tryd.ntmps44
  go_wp2_with fail
  refine (Tryd.strings_IndexByte ⟨s.toArray⟩ (c.toNat : Int) w).mono ?_
  rintro _ _ ⟨rfl, rfl⟩
  have e : (c.toNat : Int).toNat.toUInt8 = c := by simp
  rw [e, show (⟨s.toArray⟩ : ByteArray).data.toList = s by simp]
  go_wp2_with fail
  go_ret
  exact ⟨_, rfl, Gr.refl _, by unfold inS; rw [← indexByte_ge0]; rfl⟩
theorem lex_among (w : World) (s : List UInt8) :
    Calls Tryd.prog 32 #[.string ⟨s.toArray⟩] w (Ret w fun r w' => Cls w' r (inS s)) := by
  have B := box1 w (.string ⟨s.toArray⟩) 9
  go_enter Tryd.func32, Tryd.ntmps32
  go_wp2_with fail
  generalize w.alloc _ = W at B ⊢
  obtain ⟨g, h1⟩ := B
  go_ret
  refine ⟨_, rfl, g, ⟨44, #[.pointer (some ⟨w.heap.size, 0, none⟩)], rfl, enters_of Tryd.func44 (by kernel_rfl) rfl, fun w' g' c => ?_⟩⟩
  exact clo_among w' _ s c (h1.c0 w' g')
theorem clo_skip (w : World) (c : UInt8) :
    Calls Tryd.prog 33 #[.int .u8 (c.toNat : Int)] w (Ret w fun r _ => r = .bool (c != 10)) := by
  by_cases h : c = 10
  · subst h
    go_enter Tryd.func33, Tryd.ntmps33
    go_wp2_with fail
    go_ret
    exact ⟨_, rfl, Gr.refl _, rfl⟩
  · have hc : ¬ (c.toNat : Int) = 10 := fun e => h (UInt8.toNat_inj.1 (show c.toNat = (10 : UInt8).toNat by show _ = 10; omega))
    go_enter Tryd.func33, Tryd.ntmps33
    go_wp2_with fail
    go_ret
    exact ⟨_, rfl, Gr.refl _, by have : (c != 10) = true := by simpa using h
                                 rw [this]; simp [hc]⟩
theorem cls_skip (w : World) : Cls w (.func (.func 33) #[] #[]) (fun c => c != 10) :=
  ⟨_, #[], rfl, enters_of Tryd.func33 (by kernel_rfl) rfl, fun w' g c => clo_skip w' c⟩
end Go.Proofs.YtakcolmgbahgiaaDoor

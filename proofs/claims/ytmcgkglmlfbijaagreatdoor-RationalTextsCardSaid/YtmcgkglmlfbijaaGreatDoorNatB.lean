/-
  awake: the examples of the chapter.
-/
import Derived.Test.YtmcgkglmlfbijaaGreatDoorNatA
namespace Go.Proofs.YtmcgkglmlfbijaaGreatDoor
open Go.RowKit Go.Lib
set_option linter.unusedVariables false
set_option linter.unusedSimpArgs false

def bigText : List UInt8 := [49, 48, 48, 48, 48, 48, 48, 48, 48, 48, 48, 48, 48, 48, 48, 48, 48, 48, 48, 48, 48]
theorem bigText_ok : okText bigText = true := by decide
theorem bigText_val : decVal bigText = 100000000000000000000 := by decide
theorem dec1 : decDigits 18446744065119617025 = [49, 56, 52, 52, 54, 55, 52, 52, 48, 54, 53, 49, 49, 57, 54, 49, 55, 48, 50, 53] := by
  simp [decDigits]
theorem dec2 : decDigits 14285714285714285714 = [49, 52, 50, 56, 53, 55, 49, 52, 50, 56, 53, 55, 49, 52, 50, 56, 53, 55, 49, 52] := by
  simp [decDigits]
theorem digs_pair {a b : Nat} (ha : a < BB) (hb : b < BB) (h0 : b ≠ 0) : digs (b * BB + a) = [a, b] := by
  have h : nval [a, b] = b * BB + a := by simp [nval]; rw [Nat.mul_comm]; omega
  rw [← h, ← digs_trimL, (trimL_eq_self_iff _ (Dig.cons ha (Dig.cons hb Dig.nil))).2 (.inr (by simpa [gd] using h0))]
theorem digs_one1 {a : Nat} (ha : a < BB) (h0 : a ≠ 0) : digs a = [a] := by
  have h : nval [a] = a := by simp [nval]
  rw [show digs a = digs (nval [a]) by rw [h], ← digs_trimL, (trimL_eq_self_iff _ (Dig.cons ha Dig.nil)).2 (.inr (by simpa [gd] using h0))]

theorem cells_two (w : World) (a b : Nat) (ha : a < BB) (hb : b < BB) (e f : Int) (he : e = a) (hf : f = b) (t : TypeId) : NatL (w.alloc (.cells #[.int .u32 e, .int .u32 f] t)) (.slice (some ⟨w.heap.size, 0, none⟩) 2 2) [a, b] := by
  subst he hf
  refine ⟨Dig.cons ha (Dig.cons hb Dig.nil), _, 2, rfl, by simp, by omega, .inr ⟨w.heap.size, 0, rfl, fun i hi => ?_⟩⟩
  unfold World.cell?
  simp only [heap_alloc_new w _]
  have : i = 0 ∨ i = 1 := by simp at hi; omega
  rcases this with rfl | rfl <;> rfl

end Go.Proofs.YtmcgkglmlfbijaaGreatDoor

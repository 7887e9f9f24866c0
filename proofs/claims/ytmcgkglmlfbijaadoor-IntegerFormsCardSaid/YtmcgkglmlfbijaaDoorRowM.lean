/-
  What the rows of exoduslaw01 share: an argument that is an api.Nat, read as digits; the listed tables.
-/
import Derived.Test.YtmcgkglmlfbijaaDoorRows
import Derived.Test.YtmcgkglmlfbijaaDoorCards
import Derived.Test.YtmcgkglmlfbijaaDoorTie
import Derived.Test.YtmcgkglmlfbijaaDoorNumA
import Derived.WalkKit
import Derived.ProofKit
import Derived.OpenShut
import Derived.JoinedCond
import Derived.Lib.SmallJoins
import Derived.ChangeSlices
import Derived.Carry
import Derived.LaidMore
import Derived.Stop.Joined
import Derived.Stop.LaidErr
import Derived.SevenTiedAt
namespace Go.Proofs.YtmcgkglmlfbijaaDoor
open Go.ChangeShapes Go.WideShapes Go.ChangeAt Go.RowKit Go.Joins
set_option linter.unusedVariables false
set_option linter.unusedSimpArgs false

set_option maxRecDepth 100000 in
theorem open_Nat {H : Type} {enc : TypeId × Value → H} {w : World} {r : Reach} {b0 : Nat} {v : Value} {d : DataW H} {p : List MemPlace} (hv : Value.okWide Tryd.prog w r b0 23 v)
    (h : DataW.Trod enc Tryd.prog w 0 (fun _ => true) true 23 v d p) : ∃ l, NatL w v l := by
  obtain ⟨fuel, h1⟩ := h
  have hs : ∀ a len cap, v = .slice (some a) len cap → a.spot = none := fun a len cap e => by
    subst e
    simp only [Value.okWide, Tryd.underlying23, Cell.okWide, Cell.ok] at hv
    exact hv.2.2.2.1
  have hsl : ∃ a len cap, v = .slice a len cap := by
    cases v <;> simp only [Value.okWide, Tryd.underlying23, Cell.okWide, Cell.ok] at hv <;> first | exact ⟨_, _, _, rfl⟩ | (exact absurd hv (by simp)) | skip
  obtain ⟨a0, n0, c0, rfl⟩ := hsl
  rcases open_ints Tryd.underlying23 Tryd.underlying52 (by kernel_rfl) h1 with ⟨h2, _⟩ | ⟨a, len, cap, zs, h2, _, hl, hm, hz, _, hc, hw⟩
  · simp [Value.cells] at h2
    obtain ⟨rfl, rfl, rfl⟩ := h2
    exact ⟨[], NatL.nil w⟩
  · simp [Value.cells] at h2
    obtain ⟨rfl, rfl, rfl⟩ := h2
    have hs := hs _ _ _ rfl
    obtain ⟨g, o, s⟩ := a
    simp only at hs
    subst hs
    simp only [if_true] at hz
    have hwf : ∀ z ∈ zs, 0 ≤ z ∧ z < 4294967296 := fun z hz => by
      have := hw z hz
      simp [Lit.wf, IntKind.min, IntKind.max, IntKind.signed, IntKind.bits] at this
      omega
    refine ⟨(zs.take n0).map Int.toNat, ?_, some ⟨g, o, none⟩, c0, ?_, ?_, ?_, .inr ⟨g, o, rfl, ?_⟩⟩
    · intro x hx
      obtain ⟨z, hz1, rfl⟩ := List.mem_map.1 hx
      have := hwf z (List.mem_of_mem_take hz1)
      rw [BB_eq]
      omega
    · simp; omega
    · simp; omega
    · simp only [maxLen] at hm; omega
    · intro i hi
      have hi2 : i < n0 := by simp at hi; omega
      have hi3 : i < zs.length := by omega
      have h5 := hc i hi3
      have h6 := hwf zs[i] (List.getElem_mem hi3)
      rw [show (gd ((zs.take n0).map Int.toNat) i : Int) = zs.getD i 0 by
        unfold gd
        simp [List.getD_eq_getElem?_getD, hi2, hi3]
        omega]
      have h7 : Addr.add ⟨g, o, none⟩ i = ⟨g, o + i, none⟩ := by simp [Addr.add]
      rw [h7] at h5
      exact h5

theorem own : ownKnob Tryd.prog.godebug = none := by kernel_rfl
theorem laidOut : laidOutB Tryd.prog = true := by kernel_rfl
def laidL : List (String × DataW Unit) := [("math/bits.deBruijn32tab", Rows.laid_math_bits_deBruijn32tab), ("math/bits.deBruijn64tab", Rows.laid_math_bits_deBruijn64tab), ("internal/strconv.uint64pow10", Rows.laid_internal_strconv_uint64pow10)]
theorem gPow : Tryd.prog.globalNamed "internal/strconv.uint64pow10" = some 0 := by kernel_rfl
theorem tPow : (Tryd.prog.globals[0]?).map (·.type) = some 111 := by kernel_rfl
theorem door_met (os : Os) (args : Array Value) : laidMetH Tryd.prog laidL ((World.doorLaid Tryd.prog 400 os).forCall (fun _ _ => 0) ⟨#[], args, []⟩).memory :=
  laidMetH_of_parts3 (fuel := 8) (laidMet_of_run' 8 (by kernel_rfl) (by kernel_rfl)) (by kernel_rfl) (by kernel_rfl)
theorem tab_of {W : World} (h : laidMetH Tryd.prog laidL W) : Tab W := by
  rw [MakeChecks.laidMetH_plain _ _ _ (by kernel_rfl)] at h
  have h2 := laidMet.tail (laidMet.tail h)
  exact Lib.tabIs_of_head (n := 20) gPow tPow Tryd.underlying111 Tryd.underlying44 (by kernel_rfl) (by kernel_rfl) h2
end Go.Proofs.YtmcgkglmlfbijaaDoor

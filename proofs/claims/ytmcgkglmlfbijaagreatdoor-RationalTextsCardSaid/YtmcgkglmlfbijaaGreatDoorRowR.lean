/-
  What the rows of exoduslaw03 share: an argument that is an api.Rat, read as digits; the listed tables.
-/
import Derived.Test.YtmcgkglmlfbijaaGreatDoorRows
import Derived.Test.YtmcgkglmlfbijaaGreatDoorCards
import Derived.Test.YtmcgkglmlfbijaaGreatDoorTie
import Derived.Test.YtmcgkglmlfbijaaGreatDoorRatM
import Derived.WalkKit
import Derived.ProofKit
import Derived.OpenShut
import Derived.JoinedCond
import Derived.Lib.SmallJoins
import Derived.ChangeSlices
import Derived.Carry
import Derived.LaidMore
import Derived.Stop.Joined
import Derived.Stop.LaidErr
import Derived.SevenTiedAt
namespace Go.Proofs.YtmcgkglmlfbijaaGreatDoor
open Go.ChangeShapes Go.WideShapes Go.ChangeAt Go.RowKit Go.Joins
set_option linter.unusedVariables false
set_option linter.unusedSimpArgs false

set_option maxRecDepth 100000 in
theorem open_NatT {H : Type} {enc : TypeId × Value → H} {w : World} {v : Value} {n : Nat} {y : DataW H × List MemPlace} (hs : ∀ a len cap, v = .slice (some a) len cap → a.spot = none) (hsl : ∃ a len cap, v = .slice a len cap)
    (h1 : DataW.trod enc Tryz.prog w 0 (fun _ => true) true n 23 [v] = some y) : ∃ l, NatL w v l := by
  obtain ⟨a0, n0, c0, rfl⟩ := hsl
  rcases open_ints Tryz.underlying23 Tryz.underlying64 (by kernel_rfl) h1 with ⟨h2, _⟩ | ⟨a, len, cap, zs, h2, _, hl, hm, hz, _, hc, hw⟩
  · simp at h2
    obtain ⟨rfl, rfl, rfl⟩ := h2
    exact ⟨[], NatL.nil w⟩
  · simp at h2
    obtain ⟨rfl, rfl, rfl⟩ := h2
    have hs := hs _ _ _ rfl
    obtain ⟨g, o, s⟩ := a
    simp only at hs
    subst hs
    simp only [if_true] at hz
    have hwf : ∀ z ∈ zs, 0 ≤ z ∧ z < 4294967296 := fun z hz => by
      have := hw z hz
      simp [Lit.wf, IntKind.min, IntKind.max, IntKind.signed, IntKind.bits] at this
      omega
    refine ⟨(zs.take n0).map Int.toNat, ?_, some ⟨g, o, none⟩, c0, ?_, ?_, ?_, .inr ⟨g, o, rfl, ?_⟩⟩
    · intro x hx
      obtain ⟨z, hz1, rfl⟩ := List.mem_map.1 hx
      have := hwf z (List.mem_of_mem_take hz1)
      rw [BB_eq]
      omega
    · simp; omega
    · simp; omega
    · simp only [maxLen] at hm; omega
    · intro i hi
      have hi2 : i < n0 := by simp at hi; omega
      have hi3 : i < zs.length := by omega
      have h5 := hc i hi3
      have h6 := hwf zs[i] (List.getElem_mem hi3)
      rw [show (gd ((zs.take n0).map Int.toNat) i : Int) = zs.getD i 0 by
        unfold gd
        simp [List.getD_eq_getElem?_getD, hi2, hi3]
        omega]
      have h7 : Addr.add ⟨g, o, none⟩ i = ⟨g, o + i, none⟩ := by simp [Addr.add]
      rw [h7] at h5
      exact h5

theorem ratTypes : Tryz.prog.cellTypes Tryz.prog.depth 27 = some [4, 23, 23] := by kernel_rfl

set_option maxRecDepth 100000 in
theorem nat_ok {w : World} {r : Reach} {b0 : Nat} {v : Value} (h : Cell.okWide Tryz.prog w r b0 23 v) : (∀ a len cap, v = .slice (some a) len cap → a.spot = none) ∧ ∃ a len cap, v = .slice a len cap := by
  constructor
  · intro a len cap e
    subst e
    simp only [Cell.okWide, Cell.ok, Tryz.underlying23] at h
    exact h.2.2.2.1
  · cases v <;> simp only [Tryz.underlying23, Cell.okWide, Cell.ok] at h <;> first | exact ⟨_, _, _, rfl⟩ | (exact absurd h (by simp)) | skip

set_option maxRecDepth 100000 in
theorem open_Rat {H : Type} {enc : TypeId × Value → H} {w : World} {r : Reach} {b0 : Nat} {v : Value} {d : DataW H} {p : List MemPlace} (hv : Value.okWide Tryz.prog w r b0 27 v)
    (h : DataW.Trod enc Tryz.prog w 0 (fun _ => true) true 27 v d p) : ∃ s l d, RatL w v s l d := by
  obtain ⟨cs, rfl, hsz⟩ := okWide_struct Tryz.underlying27 hv
  have h3 : Tryz.prog.cellsOf 27 = 3 := by kernel_rfl
  rw [h3] at hsz
  obtain ⟨c0, c1, c2, rfl⟩ : ∃ c0 c1 c2, cs = #[c0, c1, c2] := by
    obtain ⟨l⟩ := cs
    match l, hsz with
    | [c0, c1, c2], _ => exact ⟨c0, c1, c2, rfl⟩
  have hok : Cell.okWide Tryz.prog w r b0 23 c1 ∧ Cell.okWide Tryz.prog w r b0 23 c2 := by
    simp only [Value.okWide, Tryz.underlying27] at hv
    obtain ⟨cs', e1, _, ts, e2, _, e3⟩ := hv
    injection e1 with e1
    subst e1
    rw [ratTypes] at e2
    injection e2 with e2
    subst e2
    obtain ⟨u, hu, h4⟩ := e3 1 _ rfl
    obtain ⟨u', hu', h5⟩ := e3 2 _ rfl
    have e4 : u = 23 := by simpa using hu.symm
    have e5 : u' = 23 := by simpa using hu'.symm
    subst e4
    subst e5
    exact ⟨h4, h5⟩
  obtain ⟨fuel, hf⟩ := h
  obtain ⟨y0, y1, n, hx, _, h0, h1⟩ := Go.ChangeShapes.trod_struct2 Tryz.underlying27 hf
  have k1 : Tryz.prog.cellsOf 25 = 2 := by kernel_rfl
  have k2 : Tryz.prog.cellsOf 23 = 1 := by kernel_rfl
  have k3 : Tryz.prog.cellsOf 4 = 1 := by kernel_rfl
  simp only [k1, k2, Value.cells] at h0 h1
  obtain ⟨z0, z1, m, hx2, _, i0, i1⟩ := Go.ChangeShapes.trod_struct2 Tryz.underlying25 h0
  simp only [k2, k3] at i0 i1
  obtain ⟨b, hb, _⟩ := DataW.trod_bool Tryz.underlying4 i0
  simp at hb
  subst hb
  obtain ⟨hs1, hl1⟩ := nat_ok hok.1
  obtain ⟨hs2, hl2⟩ := nat_ok hok.2
  obtain ⟨l, hl⟩ := open_NatT hs1 hl1 (by simpa using i1)
  obtain ⟨d', hd⟩ := open_NatT hs2 hl2 (by simpa using h1)
  obtain ⟨p1, q1, r1, rfl⟩ := hl1
  obtain ⟨p2, q2, r2, rfl⟩ := hl2
  exact ⟨b, l, d', _, _, _, _, _, _, rfl, hl, hd⟩

theorem own : ownKnob Tryz.prog.godebug = none := by kernel_rfl
theorem laidOut : laidOutB Tryz.prog = true := by kernel_rfl
def laidL : List (String × DataW Unit) := [("math/bits.deBruijn32tab", Rows.laid_math_bits_deBruijn32tab), ("math/bits.deBruijn64tab", Rows.laid_math_bits_deBruijn64tab), ("internal/strconv.uint64pow10", Rows.laid_internal_strconv_uint64pow10)]
theorem gPow : Tryz.prog.globalNamed "internal/strconv.uint64pow10" = some 1 := by kernel_rfl
theorem tPow : (Tryz.prog.globals[1]?).map (·.type) = some 142 := by kernel_rfl
theorem door_met (os : Os) (args : Array Value) : laidMetH Tryz.prog laidL ((World.doorLaid Tryz.prog 400 os).forCall (fun _ _ => 0) ⟨#[], args, []⟩).memory :=
  laidMetH_of_parts3 (fuel := 8) (laidMet_of_run' 8 (by kernel_rfl) (by kernel_rfl)) (by kernel_rfl) (by kernel_rfl)
theorem tab_of {W : World} (h : laidMetH Tryz.prog laidL W) : Tab W := by
  rw [MakeChecks.laidMetH_plain _ _ _ (by kernel_rfl)] at h
  have h2 := laidMet.tail (laidMet.tail h)
  exact Lib.tabIs_of_head (n := 20) gPow tPow Tryz.underlying142 Tryz.underlying63 (by kernel_rfl) (by kernel_rfl) h2
end Go.Proofs.YtmcgkglmlfbijaaGreatDoor

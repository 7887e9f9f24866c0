/-
  An argument that is an api.Int, read as digits, and one that is an int64 (door seats).
-/
import Derived.Test.YtmcgkglmlfbijaaDoorRowM
import Derived.Test.YtmcgkglmlfbijaaDoorLawA
namespace Go.Proofs.YtmcgkglmlfbijaaDoor
open Go.ChangeShapes Go.WideShapes Go.ChangeAt Go.RowKit Go.Joins
set_option linter.unusedVariables false
set_option linter.unusedSimpArgs false

theorem intTypes : Tryd.prog.cellTypes Tryd.prog.depth 25 = some [4, 23] := by kernel_rfl

set_option maxRecDepth 100000 in
theorem open_Int_spot {w : World} {r : Reach} {b0 : Nat} {v0 : Value} {a : Addr} {len cap : Nat} (hv : Value.okWide Tryd.prog w r b0 25 (.agg #[v0, .slice (some a) len cap])) : a.spot = none := by
  simp only [Value.okWide, Tryd.underlying25] at hv
  obtain ⟨cs, h1, _, ts, h2, _, h3⟩ := hv
  injection h1 with h1
  subst h1
  rw [intTypes] at h2
  injection h2 with h2
  subst h2
  obtain ⟨u, hu, h4⟩ := h3 1 _ rfl
  have : u = 23 := by simpa using hu.symm
  subst this
  simp only [Cell.okWide, Cell.ok, Tryd.underlying23] at h4
  exact h4.2.2.2.1

set_option maxRecDepth 100000 in
theorem open_Int {H : Type} {enc : TypeId × Value → H} {w : World} {r : Reach} {b0 : Nat} {v : Value} {d : DataW H} {p : List MemPlace} (hv : Value.okWide Tryd.prog w r b0 25 v)
    (h : DataW.Trod enc Tryd.prog w 0 (fun _ => true) true 25 v d p) : ∃ n l, IntL w v n l := by
  obtain ⟨v0, v1, y0, y1, m, rfl, rfl, rfl, h0, h1⟩ := open_agg2 Tryd.underlying25 (by kernel_rfl) (by kernel_rfl) hv h
  obtain ⟨b, hb, _⟩ := DataW.trod_bool Tryd.underlying4 h0
  injection hb with hb _
  subst hb
  rcases open_ints Tryd.underlying23 Tryd.underlying52 (by kernel_rfl) h1 with ⟨h2, _⟩ | ⟨a, len, cap, zs, h2, _, hl, hm, hz, _, hc, hw⟩
  · injection h2 with h2 _
    subst h2
    exact ⟨b, [], none, 0, 0, rfl, fun x hx => (by cases hx), none, 0, rfl, Nat.le_refl _, by omega, .inl ⟨rfl, rfl⟩⟩
  · injection h2 with h2 _
    subst h2
    have hs := open_Int_spot hv
    obtain ⟨g, o, s⟩ := a
    simp only at hs
    subst hs
    simp only [if_true] at hz
    have hwf : ∀ z ∈ zs, 0 ≤ z ∧ z < 4294967296 := fun z hz => by
      have := hw z hz
      simp [Lit.wf, IntKind.min, IntKind.max, IntKind.signed, IntKind.bits] at this
      omega
    refine ⟨b, (zs.take len).map Int.toNat, some ⟨g, o, none⟩, len, cap, rfl, ?_, some ⟨g, o, none⟩, cap, ?_, ?_, ?_, .inr ⟨g, o, rfl, ?_⟩⟩
    · intro x hx
      obtain ⟨z, hz1, rfl⟩ := List.mem_map.1 hx
      have := hwf z (List.mem_of_mem_take hz1)
      rw [BB_eq]
      omega
    · simp; omega
    · simp; omega
    · simp only [maxLen] at hm; omega
    · intro i hi
      have hi2 : i < len := by simp at hi; omega
      have hi3 : i < zs.length := by omega
      have h5 := hc i hi3
      have h6 := hwf zs[i] (List.getElem_mem hi3)
      rw [show (gd ((zs.take len).map Int.toNat) i : Int) = zs.getD i 0 by
        unfold gd
        simp [List.getD_eq_getElem?_getD, hi2, hi3]
        omega]
      have h7 : Addr.add ⟨g, o, none⟩ i = ⟨g, o + i, none⟩ := by simp [Addr.add]
      rw [h7] at h5
      exact h5
end Go.Proofs.YtmcgkglmlfbijaaDoor

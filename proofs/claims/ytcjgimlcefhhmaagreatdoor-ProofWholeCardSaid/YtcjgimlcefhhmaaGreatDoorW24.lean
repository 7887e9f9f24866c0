/- Texts: PsG. -/
import Derived.Test.YtcjgimlcefhhmaaGreatDoorW1
import Derived.Test.YtcjgimlcefhhmaaGreatDoorW14
import Derived.Test.YtcjgimlcefhhmaaGreatDoorW15
import Derived.Test.YtcjgimlcefhhmaaGreatDoorW23
set_option linter.unusedVariables false
set_option linter.unusedSimpArgs false
set_option maxRecDepth 100000
set_option maxHeartbeats 12800000
namespace Go.Proofs.YtcjgimlcefhhmaaGreatDoor
open Go.RowKit Go.Lib
def zcR : TypeId → Array Value := fun _ => #[.bool false, .slice none 0 0, .slice none 0 0]
theorem ξo.three {T : TypeId} {b : Nat} {w : World} (h : ξo (zcR T) T b w) : ξe w b (.bool false) (.slice none 0 0) (.slice none 0 0) := ⟨T, h⟩
namespace Prf
theorem ξ4G {vs : List VarM} {a : Nat → Int} (hv : ∀ v ∈ vs, ξ1I v) (ha : ∀ j, In (a j)) (hn : vs.length ≤ 10) : (∀ j, j ≤ vs.length → Sz 200 (sumQ (lTerm vs fun j => (a j : Rat)) j)) ∧ ∀ j, Sz 200 (lTerm vs (fun j => (a j : Rat)) j) := by
 have h0 : ∀ j, OnD 1 (1099511627776 * (1099511627776 * 1)) (lTerm vs (fun j => (a j : Rat)) j) := fun j => by
  unfold lTerm
  cases hj : vs[j]? with
  | none => exact ξ1m _ _
  | some v =>
   have k := hv v (List.mem_of_getElem? hj)
   refine ξ1U ?_ (ξ9G 1 (ξ0V (ha j)))
   split
   ·exact ξ0V k.2.1
   ·exact ξ0V k.1
 have h1 : ∀ j, j ≤ 10 → OnD 1 (10 * (1099511627776 * (1099511627776 * 1))) (sumQ (lTerm vs (fun j => (a j : Rat))) j) := fun j hj =>
  (ξ2t j fun i _ => h0 i).mono (Nat.mul_le_mul hj (Nat.le_refl _))
 have e1 : (1 : Nat) ≤ BB ^ 68 := Nat.pow_pos (by decide)
 have e2 : (1 : Nat) ≤ BB ^ 64 := Nat.pow_pos (by decide)
 exact ⟨fun j hj => Sz.mono' (ξ7b (K := 12089258196146291747061760) (U := 1) (by decide) e1 e2 (by decide) ((h1 j (by omega)).mono (by decide))) (by decide), fun j => Sz.mono' (ξ7b (K := 12089258196146291747061760) (U := 1) (by decide) e1 e2 (by decide) ((h0 j).mono (by decide))) (by decide)⟩
theorem ξ8B {vs : List VarM} {j : Nat} {x : VarM} (h : vs[j]? = some x) : setLow vs (j : Int) = vs.set j { x with lo := 1 } := by
 refine List.ext_getElem? fun i => ?_
 rw [ξ4S]
 by_cases e : i = j
 ·subst e
  rw [h, List.getElem?_set_self (List.getElem?_eq_some_iff.1 h).1]
  simp
 ·rw [List.getElem?_set_ne (by omega)]
  cases vs[i]? with
  | none => rfl
  | some u => simp; omega
theorem ξ7A {vs : List VarM} {l : List Int} {k : Nat} {v : Int} (h : l[k]? = some v) : lowAll vs (l.take (k + 1)) = setLow (lowAll vs (l.take k)) v := by
 have hk := (List.getElem?_eq_some_iff.1 h).1
 rw [List.take_succ_eq_append_getElem hk, (List.getElem?_eq_some_iff.1 h).2]
 unfold lowAll
 rw [List.foldl_append]
 rfl
theorem ξ8n {vs : List VarM} {l : List Int} {v : VarM} (h : v ∈ lowAll vs l) : ∃ u ∈ vs, v = u ∨ v = { u with lo := 1 } := by
 obtain ⟨i, hi, rfl⟩ := List.getElem_of_mem h
 have h1 := ξ59 l vs i
 rw [List.getElem?_eq_getElem hi] at h1
 cases h2 : vs[i]? with
 | none => rw [h2] at h1; cases h1
 | some u =>
  rw [h2] at h1
  simp only [Option.map_some, Option.some.injEq] at h1
  refine ⟨u, List.mem_of_getElem? h2, ?_⟩
  rw [h1]
  split
  ·exact .inr rfl
  ·exact .inl rfl
theorem ξ1c {p : Prg} (l : List Int) (hp : ξr p) (hw : Whole p) : ξr ⟨lowAll p.vars l, []⟩ ∧ Whole ⟨lowAll p.vars l, []⟩ := by
 refine ⟨⟨by simp only [ξ0O]; exact hp.1, Nat.zero_le _, fun v hv => ?_, fun r hr => by cases hr⟩, fun v hv => ?_⟩
 ·obtain ⟨u, hu, rfl | rfl⟩ := ξ8n hv
  ·exact hp.2.2.1 _ hu
  ·obtain ⟨k1, k2, k3, k4⟩ := hp.2.2.1 _ hu
   exact ⟨(show In 1 by unfold In; decide), k2, k3, k4⟩
 ·obtain ⟨u, hu, rfl | rfl⟩ := ξ8n hv
  ·exact hw _ hu
  ·exact hw u hu
theorem ξaK : (Tryz.prog.info? 62).map (fun i => (i.zero, i.size, i.bytes)) = some (some (.agg #[.int .i64 0, .int .i64 0, .bool false, .bool false, .int .i64 0]), 5, 32) := by kernel_rfl
theorem ξ8o : ∀ x, ∀ u ∈ encVar x, u.oneCell' = true := fun x u hu => by
 simp [encVar] at hu
 rcases hu with rfl | rfl | rfl | rfl | rfl <;> rfl
structure ξ1C (W w : World) (b7 bg n cap : Nat) (vs : List VarM) : Prop where
 g : Gr W w
 tq : ξ0 w b7 #[.slice (some ⟨bg, 0, none⟩) n cap, .slice none 0 0]
 ro : OwnL w W.heap.size 62 5 encVar (.slice (some ⟨bg, 0, none⟩) n cap) vs
theorem ξ1C.grow {W w w' : World} {b7 g n cap : Nat} {vs : List VarM} (h : ξ1C W w b7 g n cap vs) (k : Gr w w') : ξ1C W w' b7 g n cap vs := ⟨h.g.trans k, h.tq.grow k, h.ro.grow k⟩
theorem ξ4L {x y : Rat} {c : Int} (h : cmpQ x y = c) : 0 < c ↔ y < x := by
 subst h
 unfold cmpQ
 split
 ·rename_i k; exact ⟨fun h => absurd h (by decide), fun h => by grind⟩
 ·rename_i k
  split
  ·rename_i k2; subst k2; exact ⟨fun h => absurd h (by decide), fun h => absurd h k⟩
  ·rename_i k2; exact ⟨fun _ => by grind, fun _ => by decide⟩
end Prf
end Go.Proofs.YtcjgimlcefhhmaaGreatDoor

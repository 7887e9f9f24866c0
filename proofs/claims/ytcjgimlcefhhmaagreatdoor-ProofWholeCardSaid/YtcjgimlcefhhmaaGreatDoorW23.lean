/- Texts: PsE. -/
import Derived.Test.YtcjgimlcefhhmaaGreatDoorW14
import Derived.Test.YtcjgimlcefhhmaaGreatDoorW22
set_option linter.unusedVariables false
set_option linter.unusedSimpArgs false
set_option maxRecDepth 100000
set_option maxHeartbeats 12800000
namespace Go.Proofs.YtcjgimlcefhhmaaGreatDoor
namespace Prf
open Go.RowKit Go.Lib
theorem ξ3a : ∀ (l : List ξ8) (j : Nat), (∀ x ∈ l, x.v ≠ (j : Int)) → rowCoef l j = 0
 | [], _, _ => rfl
 | t :: l, j, h => by
  rw [ξ6U, if_neg (h t (List.mem_cons_self ..)), ξ3a l j fun x hx => h x (List.mem_cons_of_mem _ hx)]
  rfl
theorem ξ6v {n : Nat} : ∀ (l : List ξ8) (last : Int) (k : Nat) (t : ξ8), l[k]? = some t → Inc n last l → ∀ x ∈ l.take k, x.v < t.v
 | y :: l, last, 0, t, _, _, x, hx => by simp at hx
 | y :: l, last, k + 1, t, ht, h, x, hx => by
  have ht' : l[k]? = some t := by simpa using ht
  rw [List.take_succ_cons] at hx
  rcases List.mem_cons.1 hx with rfl | hx
  ·exact (ξ1q l _ k t ht' h.2).1
  ·exact ξ6v l y.v k t ht' h.2 x hx
theorem ξ1W {sg c : Int} (hs : sg = 1 ∨ sg = -1) (h : In c) : In (sg * c) ∧ IntKind.i64.wrap (sg * c) = sg * c := by
 have h1 : In (sg * c) := by
  unfold In at h ⊢
  rcases hs with rfl | rfl <;> omega
 refine ⟨h1, ?_⟩
 rw [IntKind.wrap_i64]
 unfold In at h1
 omega
structure ξ7i (w W : World) (bp bo : Nat) (u0 u1 : Value) (n : Nat) (a : Nat → Rat) : Prop where
 g : Gr w W
 tp : ξ0 W bp #[u0, u1]
 ro : ξd W bo n a 80
theorem ξ7i.grow {w W W' : World} {bp bo : Nat} {u0 u1 : Value} {n : Nat} {a : Nat → Rat} (h : ξ7i w W bp bo u0 u1 n a) (g : Gr W W') : ξ7i w W' bp bo u0 u1 n a :=
 ⟨h.g.trans g, h.tp.grow g, h.ro.grow g⟩
def cutV (k : Int) (p : Option Addr) (m e : Nat) (row : Int) (q : Option Addr) (n f : Nat) : Value := .agg #[.int .i64 k, .slice p m e, .int .i64 row, .slice q n f]
end Prf
end Go.Proofs.YtcjgimlcefhhmaaGreatDoor

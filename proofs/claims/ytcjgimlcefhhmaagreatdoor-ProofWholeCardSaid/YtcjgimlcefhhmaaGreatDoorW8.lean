/- Texts: IntC IntD. -/
import Derived.Test.YtcjgimlcefhhmaaGreatDoorW7
set_option linter.unusedVariables false
set_option linter.unusedSimpArgs false
set_option maxRecDepth 100000
set_option maxHeartbeats 12800000
namespace Go.Proofs.YtcjgimlcefhhmaaGreatDoor
open Go.RowKit
def sgn (z : Int) : Int := if z < 0 then -1 else if z = 0 then 0 else 1
theorem ξaJ (n : Bool) (l : List Nat) : sgn (zval n l) = if nval l = 0 then 0 else if n then -1 else 1 := by
 unfold sgn zval
 by_cases h : nval l = 0
 ·simp [h]
 ·have hp : (0 : Int) < nval l := by omega
  rcases n with _ | _ <;> simp [h] <;> omega
theorem ξ2A (w : World) (va : Value) (n : Bool) (la : List Nat) (z : Int) (hz : sgn (zval n la) = z) (ha : IntL w va n la) (hla : la.length ≤ 1099511627776) :
  Calls Tryz.prog 193 #[va] w (Ret w fun r w' => r = .int .i64 z) := by
 rw [ξaJ] at hz
 obtain ⟨pa, ka, ca, rfl, ha⟩ := ha
 have HA := ξ ha
 have hb0 : nval la = 0 → bitsN (nval la) = 0 := fun h => by rw [h]; rfl
 have hb1 : nval la ≠ 0 → bitsN (nval la) ≠ 0 := fun h => by have := ξ3N h; omega
 have Hg := ξ ((Gr.refl w).alloc (.cells #[.bool n, .slice pa ka ca] 66))
 clear ha
 by_cases h0 : nval la = 0
 ·rw [if_pos h0] at hz
  have Hb := ξ (hb0 h0)
  subst hz
  clear hb0 hb1 h0
  go_enter Tryz.func193, Tryz.ntmps193
  go_wp2_with fail
  refine (ξ2E _ _ la (HA.out.grow Hg.out) (by omega)).mono ?_
  rintro _ _ ⟨rfl, rfl⟩
  rw [Hb.out]
  go_wp2_with fail
  go_ret
  exact ⟨_, rfl, Hg.out, rfl⟩
 ·rw [if_neg h0] at hz
  have hb := hb1 h0
  have t1 : ((bitsN (nval la) : Int) == 0) = false := by simpa using hb
  clear hb0 hb1 h0
  rcases n with _ | _
  ·simp at hz
   subst hz
   go_enter Tryz.func193, Tryz.ntmps193
   go_wp2_with fail
   refine (ξ2E _ _ la (HA.out.grow Hg.out) (by omega)).mono ?_
   rintro _ _ ⟨rfl, rfl⟩
   go_wp2_with fail
   go_ret
   exact ⟨_, rfl, Hg.out, rfl⟩
  ·simp at hz
   subst hz
   go_enter Tryz.func193, Tryz.ntmps193
   go_wp2_with fail
   refine (ξ2E _ _ la (HA.out.grow Hg.out) (by omega)).mono ?_
   rintro _ _ ⟨rfl, rfl⟩
   go_wp2_with fail
   go_ret
   exact ⟨_, rfl, Hg.out, rfl⟩
theorem ξc6 (a b : Int) : sgn (a - b) = cmpZ a b := by
 unfold sgn cmpZ
 by_cases h1 : a < b
 ·rw [if_pos (by omega), if_pos h1]
 ·rw [if_neg (by omega), if_neg h1]
  by_cases h2 : a = b
  ·rw [if_pos (by omega), if_pos h2]
  ·rw [if_neg (by omega), if_neg h2]
theorem ξ4T {n n' : Bool} {la lb : List Nat} {k : Nat} (ha : Dig la) (hb : Dig lb) (hla : la.length ≤ k) (hlb : lb.length ≤ k) : (digs (zval n la - zval n' lb).natAbs).length ≤ k + 1 := by
 refine Nat.le_trans (ξl (b := nval la + nval lb) ?_) (ξ2Q ha hb hla hlb)
 unfold zval
 rcases n with _ | _ <;> rcases n' with _ | _ <;> simp <;> omega
theorem IntL.dig {w : World} {v : Value} {n : Bool} {l : List Nat} (h : IntL w v n l) : Dig l := by
 obtain ⟨p, k, c, rfl, h⟩ := h; exact h.dig
theorem ξbH (w : World) (va vb : Value) (n n' : Bool) (la lb : List Nat) (z : Int) (hz : cmpZ (zval n la) (zval n' lb) = z) (ha : IntL w va n la) (hb : IntL w vb n' lb) (hla : la.length ≤ 549755813888) (hlb : lb.length ≤ 549755813888) :
  Calls Tryz.prog 130 #[va, vb] w (Ret w fun r w' => r = .int .i64 z) := by
 have HB0 := ξ hb
 have HA0 := ξ ha
 have HL := ξ (ξ4T (n := n) (n' := n') ha.dig hb.dig hla hlb)
 have Hz := ξ (show sgn (zval (decide (zval n la - zval n' lb < 0)) (digs (zval n la - zval n' lb).natAbs)) = z by rw [ξ16, ξc6]; exact hz)
 clear hz
 obtain ⟨pa, ka, ca, rfl, ha⟩ := ha
 obtain ⟨pb, kb, cb, rfl, hb⟩ := hb
 clear ha hb
 obtain ⟨G0, -⟩ := boxed2 w (.bool n) (.slice pa ka ca) (.bool n') (.slice pb kb cb) 66 66
 have HG := ξ G0
 clear G0
 go_enter Tryz.func130, Tryz.ntmps130
 go_wp2_with fail
 refine (ξ5n _ _ _ n n' la lb _ rfl (HA0.out.grow HG.out) (HB0.out.grow HG.out) (by omega) (by omega)).mono ?_
 rintro _ w2 ⟨r, rfl, g2, hr⟩
 have Hr := ξ hr
 have G2 := ξ g2
 clear hr g2
 go_wp2_with fail
 refine (ξ2A _ _ _ _ z Hz.out Hr.out (Nat.le_trans HL.out (by omega))).mono ?_
 rintro _ w3 ⟨_, rfl, g3, rfl⟩
 have G3 := ξ g3
 clear g3
 go_wp2_with fail
 go_ret
 exact ⟨_, rfl, HG.out.trans (G2.out.trans G3.out), rfl⟩
theorem IntC.len {w : World} {v : Value} {z : Int} (h : IntC w v z) : Dig (digs z.natAbs) := Dig.digs _
end Go.Proofs.YtcjgimlcefhhmaaGreatDoor

/-
  Integers: sign and comparison of the program; the reference's integers.
-/
import Derived.Test.YtmcgkglmlfbijaaDoorIntB
namespace Go.Proofs.YtmcgkglmlfbijaaDoor
open Go.RowKit
set_option linter.unusedVariables false
set_option linter.unusedSimpArgs false

/-- the sign of an integer as Go's -1, 0, 1 -/
def sgn (z : Int) : Int := if z < 0 then -1 else if z = 0 then 0 else 1
theorem sgn_zval (n : Bool) (l : List Nat) : sgn (zval n l) = if nval l = 0 then 0 else if n then -1 else 1 := by
  unfold sgn zval
  by_cases h : nval l = 0
  · simp [h]
  · have hp : (0 : Int) < nval l := by omega
    rcases n with _ | _ <;> simp [h] <;> omega

set_option maxHeartbeats 800000 in
theorem int_Sign (w : World) (va : Value) (n : Bool) (la : List Nat) (z : Int) (hz : sgn (zval n la) = z) (ha : IntL w va n la) (hla : la.length ≤ 1099511627776) :
    Calls Tryd.prog 14 #[va] w (Ret w fun r w' => r = .int .i64 z) := by
  rw [sgn_zval] at hz
  obtain ⟨pa, ka, ca, rfl, ha⟩ := ha
  have HA := Lib.hid ha
  have hb0 : nval la = 0 → bitsN (nval la) = 0 := fun h => by rw [h]; rfl
  have hb1 : nval la ≠ 0 → bitsN (nval la) ≠ 0 := fun h => by have := bitsN_pos h; omega
  have Hg := Lib.hid ((Gr.refl w).alloc (.cells #[.bool n, .slice pa ka ca] 25))
  clear ha
  by_cases h0 : nval la = 0
  · rw [if_pos h0] at hz
    have Hb := Lib.hid (hb0 h0)
    subst hz
    clear hb0 hb1 h0
    go_enter Tryd.func14, Tryd.ntmps14
    go_wp2_with fail
    refine (nat_Bits _ _ la (HA.out.grow Hg.out) (by omega)).mono ?_
    rintro _ _ ⟨rfl, rfl⟩
    rw [Hb.out]
    go_wp2_with fail
    go_ret
    exact ⟨_, rfl, Hg.out, rfl⟩
  · rw [if_neg h0] at hz
    have hb := hb1 h0
    have t1 : ((bitsN (nval la) : Int) == 0) = false := by simpa using hb
    clear hb0 hb1 h0
    rcases n with _ | _
    · simp at hz
      subst hz
      go_enter Tryd.func14, Tryd.ntmps14
      go_wp2_with fail
      refine (nat_Bits _ _ la (HA.out.grow Hg.out) (by omega)).mono ?_
      rintro _ _ ⟨rfl, rfl⟩
      go_wp2_with fail
      go_ret
      exact ⟨_, rfl, Hg.out, rfl⟩
    · simp at hz
      subst hz
      go_enter Tryd.func14, Tryd.ntmps14
      go_wp2_with fail
      refine (nat_Bits _ _ la (HA.out.grow Hg.out) (by omega)).mono ?_
      rintro _ _ ⟨rfl, rfl⟩
      go_wp2_with fail
      go_ret
      exact ⟨_, rfl, Hg.out, rfl⟩

theorem sgn_sub (a b : Int) : sgn (a - b) = cmpZ a b := by
  unfold sgn cmpZ
  by_cases h1 : a < b
  · rw [if_pos (by omega), if_pos h1]
  · rw [if_neg (by omega), if_neg h1]
    by_cases h2 : a = b
    · rw [if_pos (by omega), if_pos h2]
    · rw [if_neg (by omega), if_neg h2]

theorem zval_sub_length {n n' : Bool} {la lb : List Nat} {k : Nat} (ha : Dig la) (hb : Dig lb) (hla : la.length ≤ k) (hlb : lb.length ≤ k) : (digs (zval n la - zval n' lb).natAbs).length ≤ k + 1 := by
  refine Nat.le_trans (digs_mono_length (b := nval la + nval lb) ?_) (nval_add_length ha hb hla hlb)
  unfold zval
  rcases n with _ | _ <;> rcases n' with _ | _ <;> simp <;> omega

theorem IntL.dig {w : World} {v : Value} {n : Bool} {l : List Nat} (h : IntL w v n l) : Dig l := by
  obtain ⟨p, k, c, rfl, h⟩ := h; exact h.dig

/-- the reference's build -/
theorem IntC.of' {w : World} {m : Value} {n : Bool} {l : List Nat} (h : NatL w m (digs (nval l))) : IntC w (.agg #[.bool (n && decide (0 < nval l)), m]) (zval n l) := IntC.of h

set_option maxHeartbeats 800000 in
theorem ref2_build (w : World) (n : Bool) (m : Value) (l : List Nat) (z : Int) (hz : zval n l = z) (h : NatL w m l) (hlen : l.length ≤ 17592186044416) :
    Calls Tryd.prog 33 #[.bool n, m] w (Ret w fun r w' => IntC w' r z) := by
  have HA := Lib.hid h
  have B1 := Lib.hid (boxed1 w (.bool false) (.slice none 0 0) 25)
  subst hz
  clear h
  rcases n with _ | _
  · go_enter Tryd.func33, Tryd.ntmps33
    go_wp2_with fail
    refine (ref_Trim _ _ l (HA.out.grow B1.out.1) (by omega)).mono ?_
    rintro _ w1 ⟨r, rfl, g1, hr⟩
    have Hr := Lib.hid hr
    have G1 := Lib.hid g1
    obtain ⟨p, c, rfl, -⟩ := hr.parts
    have T1 := Lib.hid (B1.out.2.grow g1)
    have r0 := T1.out.load.1
    have r1 := T1.out.load.2
    have f0 := T1.out.f0 0
    have f1 := T1.out.f0 1
    obtain ⟨k, hk⟩ : ∃ k, (trimL l).length = k := ⟨_, rfl⟩
    simp only [hk]
    rw [hk] at Hr
    clear hr g1
    go_wp2_with fail
    refine bodyPost_ret (v := .agg #[.bool false, .slice p k c]) (by simp [results, Tryd.results33, go_sem, r0, r1]) rfl ?_
    refine ret_box (Nat.le_refl _) (B1.out.1.trans G1.out) T1.out ?_ ?_
    · show NatL w1 _ (digs (zval false l).natAbs)
      rw [show (zval false l).natAbs = nval l from by unfold zval; simp]
      exact Hr.out
    · unfold zval; simp
  · go_enter Tryd.func33, Tryd.ntmps33
    go_wp2_with fail
    refine (ref_Trim _ _ l (HA.out.grow B1.out.1) (by omega)).mono ?_
    rintro _ w1 ⟨r, rfl, g1, hr⟩
    have Hr := Lib.hid hr
    have G1 := Lib.hid g1
    obtain ⟨p, c, rfl, -⟩ := hr.parts
    have T1 := Lib.hid (B1.out.2.grow g1)
    have r0 := T1.out.load.1
    have r1 := T1.out.load.2
    have f0 := T1.out.f0 0
    have f1 := T1.out.f0 1
    obtain ⟨k, hk⟩ : ∃ k, (trimL l).length = k := ⟨_, rfl⟩
    have hkz : 0 < k ↔ zval true l < 0 := by
      rw [← hk, trimL, List.length_pos_iff, ne_eq, digs_eq_nil]; unfold zval; simp; omega
    simp only [hk]
    rw [hk] at Hr
    clear hr g1
    have HK := Lib.hid hkz
    clear hkz
    by_cases hk0 : 0 < k
    · have hki : (0 : Int) < (k : Int) := by omega
      go_wp2_with fail
      refine bodyPost_ret (v := .agg #[.bool true, .slice p k c]) (by simp [results, Tryd.results33, go_sem, r0, r1]) rfl ?_
      refine ret_box (Nat.le_refl _) (B1.out.1.trans G1.out) T1.out ?_ ?_
      · show NatL w1 _ (digs (zval true l).natAbs)
        rw [show (zval true l).natAbs = nval l from by unfold zval; simp]
        exact Hr.out
      · have := HK.out.1 hk0; simp [this]
    · have hki : ¬ (0 : Int) < (k : Int) := by omega
      go_wp2_with fail
      refine bodyPost_ret (v := .agg #[.bool false, .slice p k c]) (by simp [results, Tryd.results33, go_sem, r0, r1]) rfl ?_
      refine ret_box (Nat.le_refl _) (B1.out.1.trans G1.out) T1.out ?_ ?_
      · show NatL w1 _ (digs (zval true l).natAbs)
        rw [show (zval true l).natAbs = nval l from by unfold zval; simp]
        exact Hr.out
      · exact (decide_eq_false (fun h => hk0 (HK.out.2 h))).symm
end Go.Proofs.YtmcgkglmlfbijaaDoor

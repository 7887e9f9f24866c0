/-
  Integers of the program, continued: product, negative, difference, sign, comparison, from a word.
  Integers: sign and comparison of the program; the reference's integers.
  The reference's integers, continued.
-/
import Derived.Test.YtmcgkglmlfbijaaGreatDoorInt
namespace Go.Proofs.YtmcgkglmlfbijaaGreatDoor
open Go.RowKit
set_option linter.unusedVariables false
set_option linter.unusedSimpArgs false

theorem zval_mul (n n' : Bool) (la lb : List Nat) : (if (n != n') then -((nval la * nval lb : Nat) : Int) else ((nval la * nval lb : Nat) : Int)) = zval n la * zval n' lb := by
  unfold zval
  rcases n with _ | _ <;> rcases n' with _ | _ <;> simp [Int.natCast_mul, Int.neg_mul, Int.mul_neg]
theorem zval_neg (n : Bool) (la : List Nat) : (if (!n) then -((nval la : Nat) : Int) else ((nval la : Nat) : Int)) = - zval n la := by
  unfold zval
  rcases n with _ | _ <;> simp

set_option maxHeartbeats 1600000 in
theorem int_Mul (w : World) (va vb : Value) (n n' : Bool) (la lb : List Nat) (z : Int) (hz : zval n la * zval n' lb = z) (ha : IntL w va n la) (hb : IntL w vb n' lb) (hla : la.length ≤ 1099511627776) (hlb : lb.length ≤ 1099511627776) :
    Calls Tryz.prog 68 #[va, vb] w (Ret w fun r w' => IntC w' r z) := by
  have Hz := Lib.hid (show _ = z from (zval_mul n n' la lb).trans hz)
  clear hz
  obtain ⟨pa, ka, ca, rfl, ha⟩ := ha
  obtain ⟨pb, kb, cb, rfl, hb⟩ := hb
  have HA := Lib.hid ha
  have HB := Lib.hid hb
  have HL := Lib.hid (digs_mul_length (Nat.le_trans (digs_nval_length ha.dig) hla) (Nat.le_trans (digs_nval_length hb.dig) hlb))
  clear ha hb
  have B3 := boxed3 w (.bool n) (.slice pa ka ca) (.bool n') (.slice pb kb cb) (.bool false) (.slice none 0 0) 25 25 25
  go_enter Tryz.func68, Tryz.ntmps68
  go_wp2_with fail
  generalize ((w.alloc _).alloc _).alloc _ = W at B3 ⊢
  obtain ⟨G0, ta, tb, tr⟩ := B3
  have HW := Lib.hid G0
  have HR := Lib.hid tr
  have a0 := ta.c0
  have a1 := ta.c1
  have b0 := tb.c0
  have b1 := tb.c1
  have hsz := tr.lt
  clear G0 ta tb tr
  have g0 : Gr W W.drew := (Gr.refl W).drew
  refine wp_region_eager [(0, true), (1, true), (2, true), (3, true), (4, true), (5, true), (6, true), (7, true), (8, true), (9, false), (10, false), (11, false)] (by kernel_rfl) (by kernel_rfl) rfl (by kernel_rfl) (fun _ _ d _ _ h => by cases d <;> exact h) ?_
  repeat (refine wpE_readB (v := ?_) g0 rfl rfl (fun w' hg => ?_) (fun K hK => ?_); rotate_left; (go_simp; rfl); go_simp; refine hK _ _ ?_; clear hK K)
  refine wpE_do rfl rfl (fun K hK => ?_)
  go_simp
  refine (nat_Mul _ _ _ la lb ((HA.out.grow HW.out).grow g0) ((HB.out.grow HW.out).grow g0) (by omega) (by omega)).mono ?_
  rintro _ w2 ⟨r, rfl, g2, hr⟩
  refine ⟨fun _ => g2, hK _ _ ?_⟩
  clear hK K
  have G2 := Lib.hid (g0.trans g2)
  have Hr := Lib.hid hr
  clear g2 hr
  refine wpE_do rfl rfl (fun K hK => ?_)
  go_simp
  refine (int_signedC _ (n != n') r _ _ Hr.out (Nat.le_trans HL.out (by omega)) Hz.out).mono ?_
  rintro _ w3 ⟨r3, rfl, g3, hr3⟩
  refine ⟨fun _ => g3, hK _ _ ?_⟩
  clear hK K
  obtain ⟨p3, k3, c3, rfl, hr3⟩ := hr3
  obtain ⟨sg, hsg⟩ : ∃ sg, sg = decide (z < 0) := ⟨_, rfl⟩
  rw [← hsg]
  have Hsg := Lib.hid hsg
  have G3 := Lib.hid (G2.out.trans g3)
  have Hr3 := Lib.hid hr3
  have HR3 := Lib.hid (HR.out.grow G3.out)
  have r0 := HR3.out.load.1
  have r1 := HR3.out.load.2
  have f0 := HR3.out.f0 0
  have f1 := HR3.out.f0 1
  clear g3 hr3 a0 a1 b0 b1 g0 hsg
  refine wpE_do rfl rfl (fun K hK => ?_)
  go_simp
  refine ⟨fun h => Bool.noConfusion h, hK _ _ ?_⟩
  clear hK K
  refine wpE_nil ?_
  go_wp2_with fail
  refine bodyPost_ret (v := .agg #[.bool sg, .slice p3 k3 c3]) (by simp [results, Tryz.results68, go_sem, r0, r1]) rfl ?_
  exact ret_box (by omega) (HW.out.trans G3.out) HR3.out Hr3.out Hsg.out

set_option maxHeartbeats 1600000 in
theorem int_Neg (w : World) (va : Value) (n : Bool) (la : List Nat) (z : Int) (hz : - zval n la = z) (ha : IntL w va n la) (hla : la.length ≤ 1099511627776) :
    Calls Tryz.prog 51 #[va] w (Ret w fun r w' => IntC w' r z) := by
  have Hz := Lib.hid (show _ = z from (zval_neg n la).trans hz)
  clear hz
  obtain ⟨pa, ka, ca, rfl, ha⟩ := ha
  have HA := Lib.hid ha
  have HL := Lib.hid (Nat.le_trans (digs_nval_length ha.dig) hla)
  clear ha
  have B3 := boxed2 w (.bool n) (.slice pa ka ca) (.bool false) (.slice none 0 0) 25 25
  go_enter Tryz.func51, Tryz.ntmps51
  go_wp2_with fail
  generalize (w.alloc _).alloc _ = W at B3 ⊢
  obtain ⟨G0, ta, tr⟩ := B3
  have HW := Lib.hid G0
  have HR := Lib.hid tr
  have a0 := ta.c0
  have a1 := ta.c1
  have hsz := tr.lt
  clear G0 ta tr
  have g0 : Gr W W.drew := (Gr.refl W).drew
  refine wp_region_eager [(0, true), (1, true), (2, true), (3, true), (4, true), (5, false), (6, false), (7, false)] (by kernel_rfl) (by kernel_rfl) rfl (by kernel_rfl) (fun _ _ d _ _ h => by cases d <;> exact h) ?_
  repeat (refine wpE_readB (v := ?_) g0 rfl rfl (fun w' hg => ?_) (fun K hK => ?_); rotate_left; (go_simp; rfl); go_simp; refine hK _ _ ?_; clear hK K)
  refine wpE_do rfl rfl (fun K hK => ?_)
  go_simp
  refine (nat_Add _ _ _ la [] ((HA.out.grow HW.out).grow g0) (NatL.nil _) (by omega) (by simp)).mono ?_
  rintro _ w2 ⟨r, rfl, g2, hr⟩
  refine ⟨fun _ => g2, hK _ _ ?_⟩
  clear hK K
  rw [show nval la + nval [] = nval la from rfl] at hr
  have G2 := Lib.hid (g0.trans g2)
  have Hr := Lib.hid hr
  clear g2 hr
  refine wpE_do rfl rfl (fun K hK => ?_)
  go_simp
  refine (int_signedC _ (!n) r _ _ Hr.out (Nat.le_trans HL.out (by omega)) Hz.out).mono ?_
  rintro _ w3 ⟨r3, rfl, g3, hr3⟩
  refine ⟨fun _ => g3, hK _ _ ?_⟩
  clear hK K
  obtain ⟨p3, k3, c3, rfl, hr3⟩ := hr3
  obtain ⟨sg, hsg⟩ : ∃ sg, sg = decide (z < 0) := ⟨_, rfl⟩
  rw [← hsg]
  have Hsg := Lib.hid hsg
  have G3 := Lib.hid (G2.out.trans g3)
  have Hr3 := Lib.hid hr3
  have HR3 := Lib.hid (HR.out.grow G3.out)
  have r0 := HR3.out.load.1
  have r1 := HR3.out.load.2
  have f0 := HR3.out.f0 0
  have f1 := HR3.out.f0 1
  clear g3 hr3 a0 a1 g0 hsg
  refine wpE_do rfl rfl (fun K hK => ?_)
  go_simp
  refine ⟨fun h => Bool.noConfusion h, hK _ _ ?_⟩
  clear hK K
  refine wpE_nil ?_
  go_wp2_with fail
  refine bodyPost_ret (v := .agg #[.bool sg, .slice p3 k3 c3]) (by simp [results, Tryz.results51, go_sem, r0, r1]) rfl ?_
  exact ret_box (by omega) (HW.out.trans G3.out) HR3.out Hr3.out Hsg.out

theorem zval_digs (z : Int) : zval (decide (z < 0)) (digs z.natAbs) = z := by
  unfold zval
  rw [nval_digs]
  by_cases h : z < 0
  · simp [h]; omega
  · simp [h]; omega

set_option maxHeartbeats 1600000 in
theorem int_Sub (w : World) (va vb : Value) (n n' : Bool) (la lb : List Nat) (z : Int) (hz : zval n la - zval n' lb = z) (ha : IntL w va n la) (hb : IntL w vb n' lb) (hla : la.length ≤ 1099511627776) (hlb : lb.length ≤ 1099511627776) :
    Calls Tryz.prog 105 #[va, vb] w (Ret w fun r w' => IntC w' r z) := by
  have Hz := Lib.hid (show zval n la + zval (decide (-zval n' lb < 0)) (digs (-zval n' lb).natAbs) = z by rw [zval_digs, ← hz]; omega)
  have HLB := Lib.hid (show (digs (-zval n' lb).natAbs).length ≤ 1099511627776 by
    obtain ⟨pb, kb, cb, rfl, hb⟩ := hb
    have e : (-zval n' lb).natAbs = nval lb := by unfold zval; rcases n' with _ | _ <;> simp
    rw [e]; exact Nat.le_trans (digs_nval_length hb.dig) hlb)
  clear hz
  have HB0 := Lib.hid hb
  have HA0 := Lib.hid ha
  obtain ⟨pa, ka, ca, rfl, ha⟩ := ha
  obtain ⟨pb, kb, cb, rfl, hb⟩ := hb
  clear ha hb
  have B3 := boxed3 w (.bool n) (.slice pa ka ca) (.bool n') (.slice pb kb cb) (.bool false) (.slice none 0 0) 25 25 25
  go_enter Tryz.func105, Tryz.ntmps105
  go_wp2_with fail
  generalize ((w.alloc _).alloc _).alloc _ = W at B3 ⊢
  obtain ⟨G0, ta, tb, tr⟩ := B3
  have HW := Lib.hid G0
  have HR := Lib.hid tr
  have a0 := ta.c0
  have a1 := ta.c1
  have b0 := tb.c0
  have b1 := tb.c1
  have hsz := tr.lt
  clear G0 ta tb tr
  have g0 : Gr W W.drew := (Gr.refl W).drew
  refine wp_region_eager [(0, true), (1, true), (2, false), (3, false), (4, false)] (by kernel_rfl) (by kernel_rfl) rfl (by kernel_rfl) (fun _ _ d _ _ h => by cases d <;> exact h) ?_
  repeat (refine wpE_readB (v := ?_) g0 rfl rfl (fun w' hg => ?_) (fun K hK => ?_); rotate_left; (go_simp; rfl); go_simp; refine hK _ _ ?_; clear hK K)
  refine wpE_do rfl rfl (fun K hK => ?_)
  go_simp
  refine (int_Neg _ _ n' lb _ rfl (HB0.out.grow (HW.out.trans g0)) hlb).mono ?_
  rintro _ w2 ⟨r, rfl, g2, hr⟩
  refine ⟨fun _ => g2, hK _ _ ?_⟩
  clear hK K
  have G2 := Lib.hid (g0.trans g2)
  have Hr := Lib.hid hr
  clear g2 hr
  refine wpE_do rfl rfl (fun K hK => ?_)
  go_simp
  refine (int_Add _ _ _ n _ la _ z Hz.out (HA0.out.grow (HW.out.trans G2.out)) Hr.out hla HLB.out).mono ?_
  rintro _ w3 ⟨r3, rfl, g3, hr3⟩
  refine ⟨fun _ => g3, hK _ _ ?_⟩
  clear hK K
  obtain ⟨p3, k3, c3, rfl, hr3⟩ := hr3
  obtain ⟨sg, hsg⟩ : ∃ sg, sg = decide (z < 0) := ⟨_, rfl⟩
  rw [← hsg]
  have Hsg := Lib.hid hsg
  have G3 := Lib.hid (G2.out.trans g3)
  have Hr3 := Lib.hid hr3
  have HR3 := Lib.hid (HR.out.grow G3.out)
  have r0 := HR3.out.load.1
  have r1 := HR3.out.load.2
  have f0 := HR3.out.f0 0
  have f1 := HR3.out.f0 1
  clear g3 hr3 a0 a1 b0 b1 g0 hsg
  refine wpE_do rfl rfl (fun K hK => ?_)
  go_simp
  refine ⟨fun h => Bool.noConfusion h, hK _ _ ?_⟩
  clear hK K
  refine wpE_nil ?_
  go_wp2_with fail
  refine bodyPost_ret (v := .agg #[.bool sg, .slice p3 k3 c3]) (by simp [results, Tryz.results105, go_sem, r0, r1]) rfl ?_
  exact ret_box (by omega) (HW.out.trans G3.out) HR3.out Hr3.out Hsg.out
end Go.Proofs.YtmcgkglmlfbijaaGreatDoor
namespace Go.Proofs.YtmcgkglmlfbijaaGreatDoor
open Go.RowKit
set_option linter.unusedVariables false
set_option linter.unusedSimpArgs false

/-- the sign of an integer as Go's -1, 0, 1 -/
def sgn (z : Int) : Int := if z < 0 then -1 else if z = 0 then 0 else 1
theorem sgn_zval (n : Bool) (l : List Nat) : sgn (zval n l) = if nval l = 0 then 0 else if n then -1 else 1 := by
  unfold sgn zval
  by_cases h : nval l = 0
  · simp [h]
  · have hp : (0 : Int) < nval l := by omega
    rcases n with _ | _ <;> simp [h] <;> omega

set_option maxHeartbeats 800000 in
theorem int_Sign (w : World) (va : Value) (n : Bool) (la : List Nat) (z : Int) (hz : sgn (zval n la) = z) (ha : IntL w va n la) (hla : la.length ≤ 1099511627776) :
    Calls Tryz.prog 73 #[va] w (Ret w fun r w' => r = .int .i64 z) := by
  rw [sgn_zval] at hz
  obtain ⟨pa, ka, ca, rfl, ha⟩ := ha
  have HA := Lib.hid ha
  have hb0 : nval la = 0 → bitsN (nval la) = 0 := fun h => by rw [h]; rfl
  have hb1 : nval la ≠ 0 → bitsN (nval la) ≠ 0 := fun h => by have := bitsN_pos h; omega
  have Hg := Lib.hid ((Gr.refl w).alloc (.cells #[.bool n, .slice pa ka ca] 25))
  clear ha
  by_cases h0 : nval la = 0
  · rw [if_pos h0] at hz
    have Hb := Lib.hid (hb0 h0)
    subst hz
    clear hb0 hb1 h0
    go_enter Tryz.func73, Tryz.ntmps73
    go_wp2_with fail
    refine (nat_Bits _ _ la (HA.out.grow Hg.out) (by omega)).mono ?_
    rintro _ _ ⟨rfl, rfl⟩
    rw [Hb.out]
    go_wp2_with fail
    go_ret
    exact ⟨_, rfl, Hg.out, rfl⟩
  · rw [if_neg h0] at hz
    have hb := hb1 h0
    have t1 : ((bitsN (nval la) : Int) == 0) = false := by simpa using hb
    clear hb0 hb1 h0
    rcases n with _ | _
    · simp at hz
      subst hz
      go_enter Tryz.func73, Tryz.ntmps73
      go_wp2_with fail
      refine (nat_Bits _ _ la (HA.out.grow Hg.out) (by omega)).mono ?_
      rintro _ _ ⟨rfl, rfl⟩
      go_wp2_with fail
      go_ret
      exact ⟨_, rfl, Hg.out, rfl⟩
    · simp at hz
      subst hz
      go_enter Tryz.func73, Tryz.ntmps73
      go_wp2_with fail
      refine (nat_Bits _ _ la (HA.out.grow Hg.out) (by omega)).mono ?_
      rintro _ _ ⟨rfl, rfl⟩
      go_wp2_with fail
      go_ret
      exact ⟨_, rfl, Hg.out, rfl⟩

theorem sgn_sub (a b : Int) : sgn (a - b) = cmpZ a b := by
  unfold sgn cmpZ
  by_cases h1 : a < b
  · rw [if_pos (by omega), if_pos h1]
  · rw [if_neg (by omega), if_neg h1]
    by_cases h2 : a = b
    · rw [if_pos (by omega), if_pos h2]
    · rw [if_neg (by omega), if_neg h2]

theorem zval_sub_length {n n' : Bool} {la lb : List Nat} {k : Nat} (ha : Dig la) (hb : Dig lb) (hla : la.length ≤ k) (hlb : lb.length ≤ k) : (digs (zval n la - zval n' lb).natAbs).length ≤ k + 1 := by
  refine Nat.le_trans (digs_mono_length (b := nval la + nval lb) ?_) (nval_add_length ha hb hla hlb)
  unfold zval
  rcases n with _ | _ <;> rcases n' with _ | _ <;> simp <;> omega

theorem IntL.dig {w : World} {v : Value} {n : Bool} {l : List Nat} (h : IntL w v n l) : Dig l := by
  obtain ⟨p, k, c, rfl, h⟩ := h; exact h.dig

set_option maxHeartbeats 800000 in
theorem int_Cmp (w : World) (va vb : Value) (n n' : Bool) (la lb : List Nat) (z : Int) (hz : cmpZ (zval n la) (zval n' lb) = z) (ha : IntL w va n la) (hb : IntL w vb n' lb) (hla : la.length ≤ 549755813888) (hlb : lb.length ≤ 549755813888) :
    Calls Tryz.prog 67 #[va, vb] w (Ret w fun r w' => r = .int .i64 z) := by
  have HB0 := Lib.hid hb
  have HA0 := Lib.hid ha
  have HL := Lib.hid (zval_sub_length (n := n) (n' := n') ha.dig hb.dig hla hlb)
  have Hz := Lib.hid (show sgn (zval (decide (zval n la - zval n' lb < 0)) (digs (zval n la - zval n' lb).natAbs)) = z by rw [zval_digs, sgn_sub]; exact hz)
  clear hz
  obtain ⟨pa, ka, ca, rfl, ha⟩ := ha
  obtain ⟨pb, kb, cb, rfl, hb⟩ := hb
  clear ha hb
  obtain ⟨G0, -⟩ := boxed2 w (.bool n) (.slice pa ka ca) (.bool n') (.slice pb kb cb) 25 25
  have HG := Lib.hid G0
  clear G0
  go_enter Tryz.func67, Tryz.ntmps67
  go_wp2_with fail
  refine (int_Sub _ _ _ n n' la lb _ rfl (HA0.out.grow HG.out) (HB0.out.grow HG.out) (by omega) (by omega)).mono ?_
  rintro _ w2 ⟨r, rfl, g2, hr⟩
  have Hr := Lib.hid hr
  have G2 := Lib.hid g2
  clear hr g2
  go_wp2_with fail
  refine (int_Sign _ _ _ _ z Hz.out Hr.out (Nat.le_trans HL.out (by omega))).mono ?_
  rintro _ w3 ⟨_, rfl, g3, rfl⟩
  have G3 := Lib.hid g3
  clear g3
  go_wp2_with fail
  go_ret
  exact ⟨_, rfl, HG.out.trans (G2.out.trans G3.out), rfl⟩

/-- the reference's build -/
theorem IntC.of' {w : World} {m : Value} {n : Bool} {l : List Nat} (h : NatL w m (digs (nval l))) : IntC w (.agg #[.bool (n && decide (0 < nval l)), m]) (zval n l) := IntC.of h

set_option maxHeartbeats 800000 in
theorem ref2_build (w : World) (n : Bool) (m : Value) (l : List Nat) (z : Int) (hz : zval n l = z) (h : NatL w m l) (hlen : l.length ≤ 17592186044416) :
    Calls Tryz.prog 52 #[.bool n, m] w (Ret w fun r w' => IntC w' r z) := by
  have HA := Lib.hid h
  have B1 := Lib.hid (boxed1 w (.bool false) (.slice none 0 0) 25)
  subst hz
  clear h
  rcases n with _ | _
  · go_enter Tryz.func52, Tryz.ntmps52
    go_wp2_with fail
    refine (ref_Trim _ _ l (HA.out.grow B1.out.1) (by omega)).mono ?_
    rintro _ w1 ⟨r, rfl, g1, hr⟩
    have Hr := Lib.hid hr
    have G1 := Lib.hid g1
    obtain ⟨p, c, rfl, -⟩ := hr.parts
    have T1 := Lib.hid (B1.out.2.grow g1)
    have r0 := T1.out.load.1
    have r1 := T1.out.load.2
    have f0 := T1.out.f0 0
    have f1 := T1.out.f0 1
    obtain ⟨k, hk⟩ : ∃ k, (trimL l).length = k := ⟨_, rfl⟩
    simp only [hk]
    rw [hk] at Hr
    clear hr g1
    go_wp2_with fail
    refine bodyPost_ret (v := .agg #[.bool false, .slice p k c]) (by simp [results, Tryz.results52, go_sem, r0, r1]) rfl ?_
    refine ret_box (Nat.le_refl _) (B1.out.1.trans G1.out) T1.out ?_ ?_
    · show NatL w1 _ (digs (zval false l).natAbs)
      rw [show (zval false l).natAbs = nval l from by unfold zval; simp]
      exact Hr.out
    · unfold zval; simp
  · go_enter Tryz.func52, Tryz.ntmps52
    go_wp2_with fail
    refine (ref_Trim _ _ l (HA.out.grow B1.out.1) (by omega)).mono ?_
    rintro _ w1 ⟨r, rfl, g1, hr⟩
    have Hr := Lib.hid hr
    have G1 := Lib.hid g1
    obtain ⟨p, c, rfl, -⟩ := hr.parts
    have T1 := Lib.hid (B1.out.2.grow g1)
    have r0 := T1.out.load.1
    have r1 := T1.out.load.2
    have f0 := T1.out.f0 0
    have f1 := T1.out.f0 1
    obtain ⟨k, hk⟩ : ∃ k, (trimL l).length = k := ⟨_, rfl⟩
    have hkz : 0 < k ↔ zval true l < 0 := by
      rw [← hk, trimL, List.length_pos_iff, ne_eq, digs_eq_nil]; unfold zval; simp; omega
    simp only [hk]
    rw [hk] at Hr
    clear hr g1
    have HK := Lib.hid hkz
    clear hkz
    by_cases hk0 : 0 < k
    · have hki : (0 : Int) < (k : Int) := by omega
      go_wp2_with fail
      refine bodyPost_ret (v := .agg #[.bool true, .slice p k c]) (by simp [results, Tryz.results52, go_sem, r0, r1]) rfl ?_
      refine ret_box (Nat.le_refl _) (B1.out.1.trans G1.out) T1.out ?_ ?_
      · show NatL w1 _ (digs (zval true l).natAbs)
        rw [show (zval true l).natAbs = nval l from by unfold zval; simp]
        exact Hr.out
      · have := HK.out.1 hk0; simp [this]
    · have hki : ¬ (0 : Int) < (k : Int) := by omega
      go_wp2_with fail
      refine bodyPost_ret (v := .agg #[.bool false, .slice p k c]) (by simp [results, Tryz.results52, go_sem, r0, r1]) rfl ?_
      refine ret_box (Nat.le_refl _) (B1.out.1.trans G1.out) T1.out ?_ ?_
      · show NatL w1 _ (digs (zval true l).natAbs)
        rw [show (zval true l).natAbs = nval l from by unfold zval; simp]
        exact Hr.out
      · exact (decide_eq_false (fun h => hk0 (HK.out.2 h))).symm
end Go.Proofs.YtmcgkglmlfbijaaGreatDoor
namespace Go.Proofs.YtmcgkglmlfbijaaGreatDoor
open Go.RowKit
set_option linter.unusedVariables false
set_option linter.unusedSimpArgs false

theorem IntC.len {w : World} {v : Value} {z : Int} (h : IntC w v z) : Dig (digs z.natAbs) := Dig.digs _

set_option maxHeartbeats 800000 in
theorem ref2_Fix (w : World) (va : Value) (n : Bool) (la : List Nat) (z : Int) (hz : zval n la = z) (ha : IntL w va n la) (hla : la.length ≤ 1099511627776) :
    Calls Tryz.prog 56 #[va] w (Ret w fun r w' => IntC w' r z) := by
  have Hz := Lib.hid hz
  clear hz
  obtain ⟨pa, ka, ca, rfl, ha⟩ := ha
  have HA := Lib.hid ha
  clear ha
  obtain ⟨G0, ta, tr⟩ := boxed2 w (.bool n) (.slice pa ka ca) (.bool false) (.slice none 0 0) 25 25
  have HW := Lib.hid G0
  have HR := Lib.hid tr
  clear G0 ta tr
  go_enter Tryz.func56, Tryz.ntmps56
  go_wp2_with fail
  refine (ref2_build _ n _ la z Hz.out (HA.out.grow HW.out) (by omega)).mono ?_
  rintro _ w3 ⟨r3, rfl, g3, hr3⟩
  obtain ⟨p3, k3, c3, rfl, hr3⟩ := hr3
  obtain ⟨sg, hsg⟩ : ∃ sg, sg = decide (z < 0) := ⟨_, rfl⟩
  rw [← hsg]
  have Hsg := Lib.hid hsg
  have G3 := Lib.hid g3
  have Hr3 := Lib.hid hr3
  have HR3 := Lib.hid (HR.out.grow G3.out)
  have r0 := HR3.out.load.1
  have r1 := HR3.out.load.2
  have f0 := HR3.out.f0 0
  have f1 := HR3.out.f0 1
  clear g3 hr3 hsg
  go_wp2_with fail
  refine bodyPost_ret (v := .agg #[.bool sg, .slice p3 k3 c3]) (by simp [results, Tryz.results56, go_sem, r0, r1]) rfl ?_
  exact ret_box (by omega) (HW.out.trans G3.out) HR3.out Hr3.out Hsg.out

set_option maxHeartbeats 800000 in
theorem ref2_Neg (w : World) (va : Value) (n : Bool) (la : List Nat) (z : Int) (hz : - zval n la = z) (ha : IntL w va n la) (hla : la.length ≤ 1099511627776) :
    Calls Tryz.prog 59 #[va] w (Ret w fun r w' => IntC w' r z) := by
  have Hz := Lib.hid (show zval (!n) la = z by rw [← hz]; unfold zval; rcases n with _ | _ <;> simp)
  clear hz
  obtain ⟨pa, ka, ca, rfl, ha⟩ := ha
  have HA := Lib.hid ha
  clear ha
  obtain ⟨G0, ta, tr⟩ := boxed2 w (.bool n) (.slice pa ka ca) (.bool false) (.slice none 0 0) 25 25
  have HW := Lib.hid G0
  have HR := Lib.hid tr
  clear G0 ta tr
  go_enter Tryz.func59, Tryz.ntmps59
  go_wp2_with fail
  refine (ref2_build _ (!n) _ la z Hz.out (HA.out.grow HW.out) (by omega)).mono ?_
  rintro _ w3 ⟨r3, rfl, g3, hr3⟩
  obtain ⟨p3, k3, c3, rfl, hr3⟩ := hr3
  obtain ⟨sg, hsg⟩ : ∃ sg, sg = decide (z < 0) := ⟨_, rfl⟩
  rw [← hsg]
  have Hsg := Lib.hid hsg
  have G3 := Lib.hid g3
  have Hr3 := Lib.hid hr3
  have HR3 := Lib.hid (HR.out.grow G3.out)
  have r0 := HR3.out.load.1
  have r1 := HR3.out.load.2
  have f0 := HR3.out.f0 0
  have f1 := HR3.out.f0 1
  clear g3 hr3 hsg
  go_wp2_with fail
  refine bodyPost_ret (v := .agg #[.bool sg, .slice p3 k3 c3]) (by simp [results, Tryz.results59, go_sem, r0, r1]) rfl ?_
  exact ret_box (by omega) (HW.out.trans G3.out) HR3.out Hr3.out Hsg.out

set_option maxHeartbeats 800000 in
theorem ref2_Same (w : World) (va vb : Value) (n n' : Bool) (la lb : List Nat) (t : Bool) (ht : (n == n' && decide (la = lb)) = t) (ha : IntL w va n la) (hb : IntL w vb n' lb) :
    Calls Tryz.prog 19 #[va, vb] w (Ret w fun r w' => r = .bool t) := by
  obtain ⟨pa, ka, ca, rfl, ha⟩ := ha
  obtain ⟨pb, kb, cb, rfl, hb⟩ := hb
  have HA := Lib.hid ha
  have HB := Lib.hid hb
  clear ha hb
  obtain ⟨G0, -⟩ := boxed2 w (.bool n) (.slice pa ka ca) (.bool n') (.slice pb kb cb) 25 25
  have HG := Lib.hid G0
  clear G0
  by_cases hn : n = n'
  · subst hn
    obtain rfl : decide (la = lb) = t := by rw [← ht]; simp
    clear ht
    go_enter Tryz.func19, Tryz.ntmps19
    go_wp2_with fail
    refine (ref_Same _ _ _ la lb (HA.out.grow HG.out) (HB.out.grow HG.out)).mono ?_
    rintro _ w2 ⟨_, rfl, g2, rfl⟩
    have G2 := Lib.hid g2
    clear g2
    obtain ⟨tt, htt⟩ : ∃ tt, decide (la = lb) = tt := ⟨_, rfl⟩
    rw [htt]
    have Htt := Lib.hid htt
    clear htt
    go_wp2_with fail
    go_ret
    exact ⟨_, rfl, HG.out.trans G2.out, by rw [Htt.out]; rfl⟩
  · have hnn : (n == n') = false := by simpa using hn
    obtain rfl : false = t := by rw [← ht, hnn]; rfl
    clear ht hn
    go_enter Tryz.func19, Tryz.ntmps19
    go_wp2_with fail
    go_ret
    exact ⟨_, rfl, HG.out, rfl⟩

set_option maxHeartbeats 800000 in
theorem ref2_Valid (w : World) (va : Value) (n : Bool) (la : List Nat) (t : Bool) (ht : (decide (trimL la = la) && !(n && la.isEmpty)) = t) (ha : IntL w va n la) (hla : la.length ≤ 17592186044416) :
    Calls Tryz.prog 15 #[va] w (Ret w fun r w' => r = .bool t) := by
  obtain ⟨pa, ka, ca, rfl, ha⟩ := ha
  have HA := Lib.hid ha
  have hk := ha.len
  obtain ⟨G0, -⟩ := boxed1 w (.bool n) (.slice pa ka ca) 25
  have HG := Lib.hid G0
  clear G0 ha
  obtain ⟨tt, htt⟩ : ∃ tt, decide (trimL la = la) = tt := ⟨_, rfl⟩
  rw [htt] at ht
  have Htt := Lib.hid htt
  have hke : la.isEmpty = ((ka : Int) == 0) := by
    rw [← hk]
    cases la with
    | nil => rfl
    | cons x l => simp; omega
  rw [hke] at ht
  have Hht := Lib.hid ht
  clear htt hk hke ht
  rcases tt with _ | _
  · go_enter Tryz.func15, Tryz.ntmps15
    go_wp2_with fail
    refine (ref_Valid _ _ la (HA.out.grow HG.out) hla).mono ?_
    rintro _ _ ⟨rfl, rfl⟩
    rw [Htt.out]
    go_wp2_with fail
    go_ret
    exact ⟨_, rfl, HG.out, by rw [← Hht.out]; rfl⟩
  · rcases n with _ | _
    · go_enter Tryz.func15, Tryz.ntmps15
      go_wp2_with fail
      refine (ref_Valid _ _ la (HA.out.grow HG.out) hla).mono ?_
      rintro _ _ ⟨rfl, rfl⟩
      rw [Htt.out]
      go_wp2_with fail
      go_ret
      exact ⟨_, rfl, HG.out, by rw [← Hht.out]; rfl⟩
    · go_enter Tryz.func15, Tryz.ntmps15
      go_wp2_with fail
      refine (ref_Valid _ _ la (HA.out.grow HG.out) hla).mono ?_
      rintro _ _ ⟨rfl, rfl⟩
      rw [Htt.out]
      go_wp2_with fail
      go_ret
      exact ⟨_, rfl, HG.out, by rw [← Hht.out]; simp⟩

/-- two boxes written anew, one after the other; u, u' are booleans, v, v' slices -/
theorem twice {w : World} {B : Nat} {n n' sr s s' : Bool} {pa pb pr p p' : Option Addr} {ka ca kb cb kr cr k c k' c' : Nat}
    (ta : Two w B (.bool n) (.slice pa ka ca)) (tb : Two w (B + 1) (.bool n') (.slice pb kb cb)) (tr : Two w (B + 1 + 1) (.bool sr) (.slice pr kr cr)) :
    Two ((((w.setCell ⟨B, 0, none⟩ (.bool s)).setCell ⟨B, 1, none⟩ (.slice p k c)).setCell ⟨B + 1, 0, none⟩ (.bool s')).setCell ⟨B + 1, 1, none⟩ (.slice p' k' c')) B (.bool s) (.slice p k c) ∧
    Two ((((w.setCell ⟨B, 0, none⟩ (.bool s)).setCell ⟨B, 1, none⟩ (.slice p k c)).setCell ⟨B + 1, 0, none⟩ (.bool s')).setCell ⟨B + 1, 1, none⟩ (.slice p' k' c')) (B + 1) (.bool s') (.slice p' k' c') ∧
    Two ((((w.setCell ⟨B, 0, none⟩ (.bool s)).setCell ⟨B, 1, none⟩ (.slice p k c)).setCell ⟨B + 1, 0, none⟩ (.bool s')).setCell ⟨B + 1, 1, none⟩ (.slice p' k' c')) (B + 1 + 1) (.bool sr) (.slice pr kr cr) ∧
    (∀ v l, NatL w v l → NatL ((((w.setCell ⟨B, 0, none⟩ (.bool s)).setCell ⟨B, 1, none⟩ (.slice p k c)).setCell ⟨B + 1, 0, none⟩ (.bool s')).setCell ⟨B + 1, 1, none⟩ (.slice p' k' c')) v l) ∧
    Own B w ((((w.setCell ⟨B, 0, none⟩ (.bool s)).setCell ⟨B, 1, none⟩ (.slice p k c)).setCell ⟨B + 1, 0, none⟩ (.bool s')).setCell ⟨B + 1, 1, none⟩ (.slice p' k' c')) := by
  have ta1 := ta.set (.bool s) (.slice p k c)
  have tb1 := tb.other (b' := B) (by omega) (.bool s) (.slice p k c)
  have tr1 := tr.other (b' := B) (by omega) (.bool s) (.slice p k c)
  refine ⟨ta1.other (by omega) _ _, tb1.set _ _, tr1.other (by omega) _ _, fun v l h => (h.keepBox ta _ _).keepBox tb1 _ _, (setTwo_own B w (Nat.le_refl _) _ _).trans (setTwo_own B _ (by omega) _ _)⟩

set_option maxHeartbeats 800000 in
theorem ref2_Sign (w : World) (va : Value) (n : Bool) (la : List Nat) (z : Int) (hz : sgn (zval n la) = z) (ha : IntL w va n la) (hla : la.length ≤ 1099511627776) :
    Calls Tryz.prog 84 #[va] w (Ret w fun r w' => r = .int .i64 z) := by
  have HA0 := Lib.hid ha
  obtain ⟨pa, ka, ca, rfl, ha⟩ := ha
  clear ha
  obtain ⟨G0, ta⟩ := boxed1 w (.bool n) (.slice pa ka ca) 25
  have HG := Lib.hid G0
  have HT := Lib.hid ta
  have Hz := Lib.hid hz
  clear G0 hz ta
  go_enter Tryz.func84, Tryz.ntmps84
  go_wp2_with fail
  refine (ref2_Fix _ _ n la _ rfl (HA0.out.grow HG.out) hla).mono ?_
  rintro _ w3 ⟨r3, rfl, g3, hr3⟩
  obtain ⟨p3, k3, c3, rfl, hr3⟩ := hr3
  have G3 := Lib.hid g3
  have hk := hr3.len
  have HR3 := Lib.hid (HT.out.grow G3.out)
  have r0 := HR3.out.load.1
  have r1 := HR3.out.load.2
  have f0 := HR3.out.f0 0
  have f1 := HR3.out.f0 1
  obtain ⟨y, hy⟩ : ∃ y, zval n la = y := ⟨_, rfl⟩
  rw [hy] at hk ⊢
  have Hy := Lib.hid (show sgn y = z by rw [← hy]; exact Hz.out)
  have ho := Lib.hid (setTwo_own w.heap.size w3 (Nat.le_refl w.heap.size) (.bool (decide (y < 0))) (.slice p3 k3 c3))
  clear g3 hr3 hy
  rcases Int.lt_trichotomy y 0 with h | h | h
  · have hk0 : k3 ≠ 0 := by
      rw [← hk]; intro e
      have := digs_eq_nil.1 (List.eq_nil_of_length_eq_zero e); omega
    have t1 : ((k3 : Int) == 0) = false := by simpa using hk0
    have hs : decide (y < 0) = true := by simpa using h
    rw [hs] at ho ⊢
    have hz1 := Lib.hid (show z = -1 by rw [← Hy.out]; unfold sgn; rw [if_pos h])
    clear hk hs h hk0
    go_wp2_with fail
    go_ret
    exact ⟨_, rfl, Below.trans (HG.out.trans G3.out) ho.out, by rw [hz1.out]; rfl⟩
  · have hk0 : k3 = 0 := by rw [← hk, h]; simp [digs_zero]
    have hs : decide (y < 0) = false := by simp; omega
    rw [hs] at ho ⊢
    have hz1 := Lib.hid (show z = 0 by rw [← Hy.out]; unfold sgn; rw [if_neg (by omega), if_pos h])
    subst hk0
    clear hk hs h
    go_wp2_with fail
    go_ret
    exact ⟨_, rfl, Below.trans (HG.out.trans G3.out) ho.out, by rw [hz1.out]; rfl⟩
  · have hk0 : k3 ≠ 0 := by
      rw [← hk]; intro e
      have := digs_eq_nil.1 (List.eq_nil_of_length_eq_zero e); omega
    have t1 : ((k3 : Int) == 0) = false := by simpa using hk0
    have hs : decide (y < 0) = false := by simp; omega
    rw [hs] at ho ⊢
    have hz1 := Lib.hid (show z = 1 by rw [← Hy.out]; unfold sgn; rw [if_neg (by omega), if_neg (by omega)])
    clear hk hs h hk0
    go_wp2_with fail
    go_ret
    exact ⟨_, rfl, Below.trans (HG.out.trans G3.out) ho.out, by rw [hz1.out]; rfl⟩

theorem absmul (a b : Int) : (if ((decide (a < 0)) != (decide (b < 0))) then -((a.natAbs * b.natAbs : Nat) : Int) else ((a.natAbs * b.natAbs : Nat) : Int)) = a * b := by
  have := zval_mul (decide (a < 0)) (decide (b < 0)) (digs a.natAbs) (digs b.natAbs)
  rw [zval_digs, zval_digs, nval_digs, nval_digs] at this
  exact this

set_option maxHeartbeats 1600000 in
theorem ref2_Mul (w : World) (va vb : Value) (n n' : Bool) (la lb : List Nat) (z : Int) (hz : zval n la * zval n' lb = z) (ha : IntL w va n la) (hb : IntL w vb n' lb) (hla : la.length ≤ 1099511627776) (hlb : lb.length ≤ 1099511627776) :
    Calls Tryz.prog 76 #[va, vb] w (Ret w fun r w' => IntC w' r z) := by
  have HA0 := Lib.hid ha
  have HB0 := Lib.hid hb
  obtain ⟨x, hx⟩ : ∃ x, zval n la = x := ⟨_, rfl⟩
  obtain ⟨y, hy⟩ : ∃ y, zval n' lb = y := ⟨_, rfl⟩
  have hxa : (digs x.natAbs).length ≤ 1099511627776 := by
    have e : x.natAbs = nval la := by rw [← hx]; unfold zval; rcases n with _ | _ <;> simp
    rw [e]; exact Nat.le_trans (digs_nval_length ha.dig) hla
  have hya : (digs y.natAbs).length ≤ 1099511627776 := by
    have e : y.natAbs = nval lb := by rw [← hy]; unfold zval; rcases n' with _ | _ <;> simp
    rw [e]; exact Nat.le_trans (digs_nval_length hb.dig) hlb
  have Hx := Lib.hid hx
  have Hy := Lib.hid hy
  have Hxa := Lib.hid hxa
  have Hya := Lib.hid hya
  have HL := Lib.hid (digs_mul_length hxa hya)
  have Hz := Lib.hid (show zval ((decide (x < 0)) != (decide (y < 0))) (digs (x.natAbs * y.natAbs)) = z by
    rw [← hz, hx, hy]; unfold zval; rw [nval_digs]; exact absmul x y)
  obtain ⟨pa, ka, ca, rfl, ha⟩ := ha
  obtain ⟨pb, kb, cb, rfl, hb⟩ := hb
  clear ha hb hz hx hy hxa hya
  have B3 := boxed3 w (.bool n) (.slice pa ka ca) (.bool n') (.slice pb kb cb) (.bool false) (.slice none 0 0) 25 25 25
  go_enter Tryz.func76, Tryz.ntmps76
  go_wp2_with fail
  generalize ((w.alloc _).alloc _).alloc _ = W at B3 ⊢
  obtain ⟨G0, ta, tb, tr⟩ := B3
  have HW := Lib.hid G0
  have HTA := Lib.hid ta
  have HTB := Lib.hid tb
  have HTR := Lib.hid tr
  have a0 := ta.c0
  have a1 := ta.c1
  have b0 := tb.c0
  have b1 := tb.c1
  have hsz := tr.lt
  clear G0 ta tb tr
  have g0 : Gr W W.drew := (Gr.refl W).drew
  refine wp_region_eager [(0, true), (2, true), (1, false), (3, false), (4, false), (5, false)] (by kernel_rfl) (by kernel_rfl) rfl (by kernel_rfl) (fun _ _ d _ _ h => by cases d <;> exact h) ?_
  repeat (refine wpE_readB (v := ?_) g0 rfl rfl (fun w' hg => ?_) (fun K hK => ?_); rotate_left; (go_simp; rfl); go_simp; refine hK _ _ ?_; clear hK K)
  refine wpE_do rfl rfl (fun K hK => ?_)
  go_simp
  refine (ref2_Fix _ _ n la x Hx.out (HA0.out.grow (HW.out.trans g0)) hla).mono ?_
  rintro _ w2 ⟨r2, rfl, g2, hr2⟩
  refine ⟨fun _ => g2, hK _ _ ?_⟩
  clear hK K
  obtain ⟨p2, k2, c2, rfl, hr2⟩ := hr2
  have G2 := Lib.hid (g0.trans g2)
  have Hr2 := Lib.hid hr2
  clear g2 hr2
  refine wpE_do rfl rfl (fun K hK => ?_)
  go_simp
  refine (ref2_Fix _ _ n' lb y Hy.out (HB0.out.grow (HW.out.trans G2.out)) hlb).mono ?_
  rintro _ w3 ⟨r3, rfl, g3, hr3⟩
  refine ⟨fun _ => g3, hK _ _ ?_⟩
  clear hK K
  obtain ⟨p3, k3, c3, rfl, hr3⟩ := hr3
  have G3 := Lib.hid (G2.out.trans g3)
  have Hr2' := Lib.hid (Hr2.out.grow g3)
  have Hr3 := Lib.hid hr3
  obtain ⟨s, hs⟩ : ∃ s, decide (x < 0) = s := ⟨_, rfl⟩
  obtain ⟨s', hs'⟩ : ∃ s', decide (y < 0) = s' := ⟨_, rfl⟩
  rw [hs] at Hz ⊢
  rw [hs'] at Hz ⊢
  have ta := HTA.out.grow G3.out
  have tb := HTB.out.grow G3.out
  have tr := HTR.out.grow G3.out
  have TW := twice (s := s) (s' := s') (p := p2) (k := k2) (c := c2) (p' := p3) (k' := k3) (c' := c3) ta tb tr
  clear a0 a1 b0 b1
  have a0 := ta.load.1
  have a1 := ta.load.2
  have b0 := tb.load.1
  have b1 := tb.load.2
  have f1 := ta.f0 0
  have f2 := ta.f0 1
  have f3 := tb.f0 0
  have f4 := tb.f0 1
  clear g3 hr3 ta tb tr hs hs' g0
  refine wpE_do rfl rfl (fun K hK => ?_)
  go_simp
  refine ⟨fun h => Bool.noConfusion h, hK _ _ ?_⟩
  clear hK K
  refine wpE_do rfl rfl (fun K hK => ?_)
  go_simp
  refine ⟨fun h => Bool.noConfusion h, hK _ _ ?_⟩
  clear hK K
  refine wpE_nil ?_
  generalize (((w3.setCell _ _).setCell _ _).setCell _ _).setCell _ _ = W4 at TW ⊢
  obtain ⟨ta, tb, tr, hkeep, hown⟩ := TW
  have HK2 := Lib.hid (hkeep _ _ Hr2'.out)
  have HK3 := Lib.hid (hkeep _ _ Hr3.out)
  have HO := Lib.hid (Below.trans (HW.out.trans G3.out) hown)
  have HR := Lib.hid tr
  have hsz4 := tr.lt
  clear a0 a1 b0 b1 f1 f2 f3 f4 hkeep hown hsz HTA HTB HTR
  have a0 := ta.c0
  have a1 := ta.c1
  have b0 := tb.c0
  have b1 := tb.c1
  clear ta tb tr
  go_wp2_with fail
  have g4 : Gr W4 W4.drew := (Gr.refl W4).drew
  refine wp_region_eager [(0, true), (1, true), (2, true), (3, true), (4, true), (5, true), (6, true), (7, true), (8, true), (9, false), (10, false), (11, false)] (by kernel_rfl) (by kernel_rfl) rfl (by kernel_rfl) (fun _ _ d _ _ h => by cases d <;> exact h) ?_
  repeat (refine wpE_readB (v := ?_) g4 rfl rfl (fun w' hg => ?_) (fun K hK => ?_); rotate_left; (go_simp; rfl); go_simp; refine hK _ _ ?_; clear hK K)
  refine wpE_do rfl rfl (fun K hK => ?_)
  go_simp
  refine (ref_Mul _ _ _ _ _ (HK2.out.grow g4) (HK3.out.grow g4) (Nat.le_trans Hxa.out (by omega)) (Nat.le_trans Hya.out (by omega))).mono ?_
  rintro _ w5 ⟨r5, rfl, g5, hr5⟩
  refine ⟨fun _ => g5, hK _ _ ?_⟩
  clear hK K
  rw [nval_digs, nval_digs] at hr5
  have G5 := Lib.hid (g4.trans g5)
  have Hr5 := Lib.hid hr5
  clear g5 hr5
  refine wpE_do rfl rfl (fun K hK => ?_)
  go_simp
  refine (ref2_build _ (s != s') r5 _ z Hz.out Hr5.out (Nat.le_trans HL.out (by omega))).mono ?_
  rintro _ w6 ⟨r6, rfl, g6, hr6⟩
  refine ⟨fun _ => g6, hK _ _ ?_⟩
  clear hK K
  obtain ⟨p6, k6, c6, rfl, hr6⟩ := hr6
  obtain ⟨sg, hsg⟩ : ∃ sg, sg = decide (z < 0) := ⟨_, rfl⟩
  rw [← hsg]
  have Hsg := Lib.hid hsg
  have G6 := Lib.hid (G5.out.trans g6)
  have Hr6 := Lib.hid hr6
  have HR6 := Lib.hid (HR.out.grow G6.out)
  have r0 := HR6.out.load.1
  have r1 := HR6.out.load.2
  have f0 := HR6.out.f0 0
  have f1 := HR6.out.f0 1
  clear g6 hr6 a0 a1 b0 b1 g4 hsg
  refine wpE_do rfl rfl (fun K hK => ?_)
  go_simp
  refine ⟨fun h => Bool.noConfusion h, hK _ _ ?_⟩
  clear hK K
  refine wpE_nil ?_
  go_wp2_with fail
  refine bodyPost_ret (v := .agg #[.bool sg, .slice p6 k6 c6]) (by simp [results, Tryz.results76, go_sem, r0, r1]) rfl ?_
  exact ret_box (by omega) (Gr.trans HO.out G6.out) HR6.out Hr6.out Hsg.out
end Go.Proofs.YtmcgkglmlfbijaaGreatDoor

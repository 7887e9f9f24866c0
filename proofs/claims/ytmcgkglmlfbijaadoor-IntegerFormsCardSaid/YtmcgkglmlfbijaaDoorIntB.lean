/-
  Integers of the program, continued: product, negative, difference, sign, comparison, from a word.
-/
import Derived.Test.YtmcgkglmlfbijaaDoorInt
namespace Go.Proofs.YtmcgkglmlfbijaaDoor
open Go.RowKit
set_option linter.unusedVariables false
set_option linter.unusedSimpArgs false

theorem zval_mul (n n' : Bool) (la lb : List Nat) : (if (n != n') then -((nval la * nval lb : Nat) : Int) else ((nval la * nval lb : Nat) : Int)) = zval n la * zval n' lb := by
  unfold zval
  rcases n with _ | _ <;> rcases n' with _ | _ <;> simp [Int.natCast_mul, Int.neg_mul, Int.mul_neg]
theorem zval_neg (n : Bool) (la : List Nat) : (if (!n) then -((nval la : Nat) : Int) else ((nval la : Nat) : Int)) = - zval n la := by
  unfold zval
  rcases n with _ | _ <;> simp

set_option maxHeartbeats 1600000 in
theorem int_Mul (w : World) (va vb : Value) (n n' : Bool) (la lb : List Nat) (z : Int) (hz : zval n la * zval n' lb = z) (ha : IntL w va n la) (hb : IntL w vb n' lb) (hla : la.length ≤ 1099511627776) (hlb : lb.length ≤ 1099511627776) :
    Calls Tryd.prog 65 #[va, vb] w (Ret w fun r w' => IntC w' r z) := by
  have Hz := Lib.hid (show _ = z from (zval_mul n n' la lb).trans hz)
  clear hz
  obtain ⟨pa, ka, ca, rfl, ha⟩ := ha
  obtain ⟨pb, kb, cb, rfl, hb⟩ := hb
  have HA := Lib.hid ha
  have HB := Lib.hid hb
  have HL := Lib.hid (digs_mul_length (Nat.le_trans (digs_nval_length ha.dig) hla) (Nat.le_trans (digs_nval_length hb.dig) hlb))
  clear ha hb
  have B3 := boxed3 w (.bool n) (.slice pa ka ca) (.bool n') (.slice pb kb cb) (.bool false) (.slice none 0 0) 25 25 25
  go_enter Tryd.func65, Tryd.ntmps65
  go_wp2_with fail
  generalize ((w.alloc _).alloc _).alloc _ = W at B3 ⊢
  obtain ⟨G0, ta, tb, tr⟩ := B3
  have HW := Lib.hid G0
  have HR := Lib.hid tr
  have a0 := ta.c0
  have a1 := ta.c1
  have b0 := tb.c0
  have b1 := tb.c1
  have hsz := tr.lt
  clear G0 ta tb tr
  have g0 : Gr W W.drew := (Gr.refl W).drew
  refine wp_region_eager [(0, true), (1, true), (2, true), (3, true), (4, true), (5, true), (6, true), (7, true), (8, true), (9, false), (10, false), (11, false)] (by kernel_rfl) (by kernel_rfl) rfl (by kernel_rfl) (fun _ _ d _ _ h => by cases d <;> exact h) ?_
  repeat (refine wpE_readB (v := ?_) g0 rfl rfl (fun w' hg => ?_) (fun K hK => ?_); rotate_left; (go_simp; rfl); go_simp; refine hK _ _ ?_; clear hK K)
  refine wpE_do rfl rfl (fun K hK => ?_)
  go_simp
  refine (nat_Mul _ _ _ la lb ((HA.out.grow HW.out).grow g0) ((HB.out.grow HW.out).grow g0) (by omega) (by omega)).mono ?_
  rintro _ w2 ⟨r, rfl, g2, hr⟩
  refine ⟨fun _ => g2, hK _ _ ?_⟩
  clear hK K
  have G2 := Lib.hid (g0.trans g2)
  have Hr := Lib.hid hr
  clear g2 hr
  refine wpE_do rfl rfl (fun K hK => ?_)
  go_simp
  refine (int_signedC _ (n != n') r _ _ Hr.out (Nat.le_trans HL.out (by omega)) Hz.out).mono ?_
  rintro _ w3 ⟨r3, rfl, g3, hr3⟩
  refine ⟨fun _ => g3, hK _ _ ?_⟩
  clear hK K
  obtain ⟨p3, k3, c3, rfl, hr3⟩ := hr3
  obtain ⟨sg, hsg⟩ : ∃ sg, sg = decide (z < 0) := ⟨_, rfl⟩
  rw [← hsg]
  have Hsg := Lib.hid hsg
  have G3 := Lib.hid (G2.out.trans g3)
  have Hr3 := Lib.hid hr3
  have HR3 := Lib.hid (HR.out.grow G3.out)
  have r0 := HR3.out.load.1
  have r1 := HR3.out.load.2
  have f0 := HR3.out.f0 0
  have f1 := HR3.out.f0 1
  clear g3 hr3 a0 a1 b0 b1 g0 hsg
  refine wpE_do rfl rfl (fun K hK => ?_)
  go_simp
  refine ⟨fun h => Bool.noConfusion h, hK _ _ ?_⟩
  clear hK K
  refine wpE_nil ?_
  go_wp2_with fail
  refine bodyPost_ret (v := .agg #[.bool sg, .slice p3 k3 c3]) (by simp [results, Tryd.results65, go_sem, r0, r1]) rfl ?_
  exact ret_box (by omega) (HW.out.trans G3.out) HR3.out Hr3.out Hsg.out

set_option maxHeartbeats 1600000 in
theorem int_Neg (w : World) (va : Value) (n : Bool) (la : List Nat) (z : Int) (hz : - zval n la = z) (ha : IntL w va n la) (hla : la.length ≤ 1099511627776) :
    Calls Tryd.prog 16 #[va] w (Ret w fun r w' => IntC w' r z) := by
  have Hz := Lib.hid (show _ = z from (zval_neg n la).trans hz)
  clear hz
  obtain ⟨pa, ka, ca, rfl, ha⟩ := ha
  have HA := Lib.hid ha
  have HL := Lib.hid (Nat.le_trans (digs_nval_length ha.dig) hla)
  clear ha
  have B3 := boxed2 w (.bool n) (.slice pa ka ca) (.bool false) (.slice none 0 0) 25 25
  go_enter Tryd.func16, Tryd.ntmps16
  go_wp2_with fail
  generalize (w.alloc _).alloc _ = W at B3 ⊢
  obtain ⟨G0, ta, tr⟩ := B3
  have HW := Lib.hid G0
  have HR := Lib.hid tr
  have a0 := ta.c0
  have a1 := ta.c1
  have hsz := tr.lt
  clear G0 ta tr
  have g0 : Gr W W.drew := (Gr.refl W).drew
  refine wp_region_eager [(0, true), (1, true), (2, true), (3, true), (4, true), (5, false), (6, false), (7, false)] (by kernel_rfl) (by kernel_rfl) rfl (by kernel_rfl) (fun _ _ d _ _ h => by cases d <;> exact h) ?_
  repeat (refine wpE_readB (v := ?_) g0 rfl rfl (fun w' hg => ?_) (fun K hK => ?_); rotate_left; (go_simp; rfl); go_simp; refine hK _ _ ?_; clear hK K)
  refine wpE_do rfl rfl (fun K hK => ?_)
  go_simp
  refine (nat_Add _ _ _ la [] ((HA.out.grow HW.out).grow g0) (NatL.nil _) (by omega) (by simp)).mono ?_
  rintro _ w2 ⟨r, rfl, g2, hr⟩
  refine ⟨fun _ => g2, hK _ _ ?_⟩
  clear hK K
  rw [show nval la + nval [] = nval la from rfl] at hr
  have G2 := Lib.hid (g0.trans g2)
  have Hr := Lib.hid hr
  clear g2 hr
  refine wpE_do rfl rfl (fun K hK => ?_)
  go_simp
  refine (int_signedC _ (!n) r _ _ Hr.out (Nat.le_trans HL.out (by omega)) Hz.out).mono ?_
  rintro _ w3 ⟨r3, rfl, g3, hr3⟩
  refine ⟨fun _ => g3, hK _ _ ?_⟩
  clear hK K
  obtain ⟨p3, k3, c3, rfl, hr3⟩ := hr3
  obtain ⟨sg, hsg⟩ : ∃ sg, sg = decide (z < 0) := ⟨_, rfl⟩
  rw [← hsg]
  have Hsg := Lib.hid hsg
  have G3 := Lib.hid (G2.out.trans g3)
  have Hr3 := Lib.hid hr3
  have HR3 := Lib.hid (HR.out.grow G3.out)
  have r0 := HR3.out.load.1
  have r1 := HR3.out.load.2
  have f0 := HR3.out.f0 0
  have f1 := HR3.out.f0 1
  clear g3 hr3 a0 a1 g0 hsg
  refine wpE_do rfl rfl (fun K hK => ?_)
  go_simp
  refine ⟨fun h => Bool.noConfusion h, hK _ _ ?_⟩
  clear hK K
  refine wpE_nil ?_
  go_wp2_with fail
  refine bodyPost_ret (v := .agg #[.bool sg, .slice p3 k3 c3]) (by simp [results, Tryd.results16, go_sem, r0, r1]) rfl ?_
  exact ret_box (by omega) (HW.out.trans G3.out) HR3.out Hr3.out Hsg.out

theorem zval_digs (z : Int) : zval (decide (z < 0)) (digs z.natAbs) = z := by
  unfold zval
  rw [nval_digs]
  by_cases h : z < 0
  · simp [h]; omega
  · simp [h]; omega

set_option maxHeartbeats 1600000 in
theorem int_Sub (w : World) (va vb : Value) (n n' : Bool) (la lb : List Nat) (z : Int) (hz : zval n la - zval n' lb = z) (ha : IntL w va n la) (hb : IntL w vb n' lb) (hla : la.length ≤ 1099511627776) (hlb : lb.length ≤ 1099511627776) :
    Calls Tryd.prog 64 #[va, vb] w (Ret w fun r w' => IntC w' r z) := by
  have Hz := Lib.hid (show zval n la + zval (decide (-zval n' lb < 0)) (digs (-zval n' lb).natAbs) = z by rw [zval_digs, ← hz]; omega)
  have HLB := Lib.hid (show (digs (-zval n' lb).natAbs).length ≤ 1099511627776 by
    obtain ⟨pb, kb, cb, rfl, hb⟩ := hb
    have e : (-zval n' lb).natAbs = nval lb := by unfold zval; rcases n' with _ | _ <;> simp
    rw [e]; exact Nat.le_trans (digs_nval_length hb.dig) hlb)
  clear hz
  have HB0 := Lib.hid hb
  have HA0 := Lib.hid ha
  obtain ⟨pa, ka, ca, rfl, ha⟩ := ha
  obtain ⟨pb, kb, cb, rfl, hb⟩ := hb
  clear ha hb
  have B3 := boxed3 w (.bool n) (.slice pa ka ca) (.bool n') (.slice pb kb cb) (.bool false) (.slice none 0 0) 25 25 25
  go_enter Tryd.func64, Tryd.ntmps64
  go_wp2_with fail
  generalize ((w.alloc _).alloc _).alloc _ = W at B3 ⊢
  obtain ⟨G0, ta, tb, tr⟩ := B3
  have HW := Lib.hid G0
  have HR := Lib.hid tr
  have a0 := ta.c0
  have a1 := ta.c1
  have b0 := tb.c0
  have b1 := tb.c1
  have hsz := tr.lt
  clear G0 ta tb tr
  have g0 : Gr W W.drew := (Gr.refl W).drew
  refine wp_region_eager [(0, true), (1, true), (2, false), (3, false), (4, false)] (by kernel_rfl) (by kernel_rfl) rfl (by kernel_rfl) (fun _ _ d _ _ h => by cases d <;> exact h) ?_
  repeat (refine wpE_readB (v := ?_) g0 rfl rfl (fun w' hg => ?_) (fun K hK => ?_); rotate_left; (go_simp; rfl); go_simp; refine hK _ _ ?_; clear hK K)
  refine wpE_do rfl rfl (fun K hK => ?_)
  go_simp
  refine (int_Neg _ _ n' lb _ rfl (HB0.out.grow (HW.out.trans g0)) hlb).mono ?_
  rintro _ w2 ⟨r, rfl, g2, hr⟩
  refine ⟨fun _ => g2, hK _ _ ?_⟩
  clear hK K
  have G2 := Lib.hid (g0.trans g2)
  have Hr := Lib.hid hr
  clear g2 hr
  refine wpE_do rfl rfl (fun K hK => ?_)
  go_simp
  refine (int_Add _ _ _ n _ la _ z Hz.out (HA0.out.grow (HW.out.trans G2.out)) Hr.out hla HLB.out).mono ?_
  rintro _ w3 ⟨r3, rfl, g3, hr3⟩
  refine ⟨fun _ => g3, hK _ _ ?_⟩
  clear hK K
  obtain ⟨p3, k3, c3, rfl, hr3⟩ := hr3
  obtain ⟨sg, hsg⟩ : ∃ sg, sg = decide (z < 0) := ⟨_, rfl⟩
  rw [← hsg]
  have Hsg := Lib.hid hsg
  have G3 := Lib.hid (G2.out.trans g3)
  have Hr3 := Lib.hid hr3
  have HR3 := Lib.hid (HR.out.grow G3.out)
  have r0 := HR3.out.load.1
  have r1 := HR3.out.load.2
  have f0 := HR3.out.f0 0
  have f1 := HR3.out.f0 1
  clear g3 hr3 a0 a1 b0 b1 g0 hsg
  refine wpE_do rfl rfl (fun K hK => ?_)
  go_simp
  refine ⟨fun h => Bool.noConfusion h, hK _ _ ?_⟩
  clear hK K
  refine wpE_nil ?_
  go_wp2_with fail
  refine bodyPost_ret (v := .agg #[.bool sg, .slice p3 k3 c3]) (by simp [results, Tryd.results64, go_sem, r0, r1]) rfl ?_
  exact ret_box (by omega) (HW.out.trans G3.out) HR3.out Hr3.out Hsg.out
end Go.Proofs.YtmcgkglmlfbijaaDoor

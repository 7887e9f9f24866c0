/-
  Integers, continued: difference and comparison of the reference; from a word.
-/
import Derived.Test.YtmcgkglmlfbijaaGreatDoorIntE
namespace Go.Proofs.YtmcgkglmlfbijaaGreatDoor
open Go.RowKit
set_option linter.unusedVariables false
set_option linter.unusedSimpArgs false

set_option maxHeartbeats 1600000 in
theorem ref2_Sub (w : World) (va vb : Value) (n n' : Bool) (la lb : List Nat) (z : Int) (hz : zval n la - zval n' lb = z) (ha : IntL w va n la) (hb : IntL w vb n' lb) (hla : la.length ≤ 1099511627776) (hlb : lb.length ≤ 1099511627776) :
    Calls Tryz.prog 18 #[va, vb] w (Ret w fun r w' => IntC w' r z) := by
  have Hz := Lib.hid (show zval n la + zval (decide (-zval n' lb < 0)) (digs (-zval n' lb).natAbs) = z by rw [zval_digs, ← hz]; omega)
  have HLB := Lib.hid (show (digs (-zval n' lb).natAbs).length ≤ 1099511627776 by
    obtain ⟨pb, kb, cb, rfl, hb⟩ := hb
    have e : (-zval n' lb).natAbs = nval lb := by unfold zval; rcases n' with _ | _ <;> simp
    rw [e]; exact Nat.le_trans (digs_nval_length hb.dig) hlb)
  clear hz
  have HB0 := Lib.hid hb
  have HA0 := Lib.hid ha
  obtain ⟨pa, ka, ca, rfl, ha⟩ := ha
  obtain ⟨pb, kb, cb, rfl, hb⟩ := hb
  clear ha hb
  have B3 := boxed3 w (.bool n) (.slice pa ka ca) (.bool n') (.slice pb kb cb) (.bool false) (.slice none 0 0) 25 25 25
  go_enter Tryz.func18, Tryz.ntmps18
  go_wp2_with fail
  generalize ((w.alloc _).alloc _).alloc _ = W at B3 ⊢
  obtain ⟨G0, ta, tb, tr⟩ := B3
  have HW := Lib.hid G0
  have HR := Lib.hid tr
  have a0 := ta.c0
  have a1 := ta.c1
  have b0 := tb.c0
  have b1 := tb.c1
  have hsz := tr.lt
  clear G0 ta tb tr
  have g0 : Gr W W.drew := (Gr.refl W).drew
  refine wp_region_eager [(0, true), (1, true), (2, false), (3, false), (4, false)] (by kernel_rfl) (by kernel_rfl) rfl (by kernel_rfl) (fun _ _ d _ _ h => by cases d <;> exact h) ?_
  repeat (refine wpE_readB (v := ?_) g0 rfl rfl (fun w' hg => ?_) (fun K hK => ?_); rotate_left; (go_simp; rfl); go_simp; refine hK _ _ ?_; clear hK K)
  refine wpE_do rfl rfl (fun K hK => ?_)
  go_simp
  refine (ref2_Neg _ _ n' lb _ rfl (HB0.out.grow (HW.out.trans g0)) hlb).mono ?_
  rintro _ w2 ⟨r, rfl, g2, hr⟩
  refine ⟨fun _ => g2, hK _ _ ?_⟩
  clear hK K
  have G2 := Lib.hid (g0.trans g2)
  have Hr := Lib.hid hr
  clear g2 hr
  refine wpE_do rfl rfl (fun K hK => ?_)
  go_simp
  refine (ref2_Add _ _ _ n _ la _ z Hz.out (HA0.out.grow (HW.out.trans G2.out)) Hr.out hla HLB.out).mono ?_
  rintro _ w3 ⟨r3, rfl, g3, hr3⟩
  refine ⟨fun _ => g3, hK _ _ ?_⟩
  clear hK K
  obtain ⟨p3, k3, c3, rfl, hr3⟩ := hr3
  obtain ⟨sg, hsg⟩ : ∃ sg, sg = decide (z < 0) := ⟨_, rfl⟩
  rw [← hsg]
  have Hsg := Lib.hid hsg
  have G3 := Lib.hid (G2.out.trans g3)
  have Hr3 := Lib.hid hr3
  have HR3 := Lib.hid (HR.out.grow G3.out)
  have r0 := HR3.out.load.1
  have r1 := HR3.out.load.2
  have f0 := HR3.out.f0 0
  have f1 := HR3.out.f0 1
  clear g3 hr3 a0 a1 b0 b1 g0 hsg
  refine wpE_do rfl rfl (fun K hK => ?_)
  go_simp
  refine ⟨fun h => Bool.noConfusion h, hK _ _ ?_⟩
  clear hK K
  refine wpE_nil ?_
  go_wp2_with fail
  refine bodyPost_ret (v := .agg #[.bool sg, .slice p3 k3 c3]) (by simp [results, Tryz.results18, go_sem, r0, r1]) rfl ?_
  exact ret_box (by omega) (HW.out.trans G3.out) HR3.out Hr3.out Hsg.out
theorem zval_pos_digs (a : Nat) : zval false (digs a) = a := by unfold zval; rw [nval_digs]; simp
theorem zval_neg_digs (a : Nat) : zval true (digs a) = -a := by unfold zval; rw [nval_digs]; simp
theorem digs_u64_length {a : Nat} (h : a < 18446744073709551616) : (digs a).length ≤ 2 := by
  refine digs_length_le ?_
  rw [BB_eq]; omega

set_option maxHeartbeats 1600000 in
theorem ref2_From (w : World) (z : Int) (h1 : -9223372036854775808 ≤ z) (h2 : z ≤ 9223372036854775807) :
    Calls Tryz.prog 14 #[.int .i64 z] w (Ret w fun r w' => IntC w' r z) := by
  have HB1 := Lib.hid (boxed1 w (.bool false) (.slice none 0 0) 25)
  by_cases hz : z < 0
  · obtain ⟨a, ha⟩ : ∃ a : Nat, z = -(a : Int) - 1 := ⟨(-z - 1).toNat, by omega⟩
    have ha2 : a ≤ 9223372036854775807 := by omega
    have Ha := Lib.hid ha
    have E0 : -(z + 1) = (a : Int) := by omega
    clear ha
    go_enter Tryz.func14, Tryz.ntmps14
    go_wp2_with fail
    refine (ref_From _ a (by omega)).mono ?_
    rintro _ w1 ⟨r, rfl, g1, hr⟩
    have G1 := Lib.hid g1
    have Hr := Lib.hid hr
    clear hr g1
    go_wp2_with fail
    refine (ref_Add _ r (.slice (some ⟨w1.heap.size, 0, none⟩) 1 1) _ [1] (Hr.out.grow ((Gr.refl w1).alloc _)) (NatL.one w1 _ 1 rfl (by rw [BB_eq]; omega) _) (Nat.le_trans (digs_u64_length (by omega)) (by omega)) (by simp)).mono ?_
    rintro _ w2 ⟨r2, rfl, g2, hr2⟩
    rw [nval_digs, show nval [1] = 1 from rfl] at hr2
    have G2 := Lib.hid (G1.out.trans (((Gr.refl w1).alloc _).trans g2))
    have Hr2 := Lib.hid hr2
    clear hr2 g2
    go_wp2_with fail
    refine (ref2_build _ true r2 _ z (by rw [zval_neg_digs, Ha.out]; omega) Hr2.out (Nat.le_trans (digs_u64_length (by omega)) (by omega))).mono ?_
    rintro _ w3 ⟨r3, rfl, g3, hr3⟩
    obtain ⟨p3, k3, c3, rfl, hr3⟩ := hr3
    obtain ⟨sg, hsg⟩ : ∃ sg, sg = decide (z < 0) := ⟨_, rfl⟩
    rw [← hsg]
    have Hsg := Lib.hid hsg
    have G3 := Lib.hid (G2.out.trans g3)
    have Hr3 := Lib.hid hr3
    have HR3 := Lib.hid (HB1.out.2.grow G3.out)
    have r0 := HR3.out.load.1
    have r1 := HR3.out.load.2
    have f0 := HR3.out.f0 0
    have f1 := HR3.out.f0 1
    clear g3 hr3 hsg
    go_wp2_with fail
    refine bodyPost_ret (v := .agg #[.bool sg, .slice p3 k3 c3]) (by simp [results, Tryz.results14, go_sem, r0, r1]) rfl ?_
    exact ret_box (by omega) (HB1.out.1.trans G3.out) HR3.out Hr3.out Hsg.out
  · obtain ⟨a, rfl⟩ : ∃ a : Nat, z = a := ⟨z.toNat, by omega⟩
    have ha2 : a ≤ 9223372036854775807 := by omega
    go_enter Tryz.func14, Tryz.ntmps14
    go_wp2_with fail
    refine (ref_From _ a (by omega)).mono ?_
    rintro _ w1 ⟨r, rfl, g1, hr⟩
    have G1 := Lib.hid g1
    have Hr := Lib.hid hr
    clear hr g1
    go_wp2_with fail
    refine (ref2_build _ false r _ _ (zval_pos_digs a) Hr.out (Nat.le_trans (digs_u64_length (by omega)) (by omega))).mono ?_
    rintro _ w3 ⟨r3, rfl, g3, hr3⟩
    obtain ⟨p3, k3, c3, rfl, hr3⟩ := hr3
    obtain ⟨sg, hsg⟩ : ∃ sg, sg = decide ((a : Int) < 0) := ⟨_, rfl⟩
    rw [← hsg]
    have Hsg := Lib.hid hsg
    have G3 := Lib.hid (G1.out.trans g3)
    have Hr3 := Lib.hid hr3
    have HR3 := Lib.hid (HB1.out.2.grow G3.out)
    have r0 := HR3.out.load.1
    have r1 := HR3.out.load.2
    have f0 := HR3.out.f0 0
    have f1 := HR3.out.f0 1
    clear g3 hr3 hsg
    go_wp2_with fail
    refine bodyPost_ret (v := .agg #[.bool sg, .slice p3 k3 c3]) (by simp [results, Tryz.results14, go_sem, r0, r1]) rfl ?_
    exact ret_box (by omega) (HB1.out.1.trans G3.out) HR3.out Hr3.out Hsg.out

set_option maxHeartbeats 1600000 in
theorem int_From (w : World) (z : Int) (h1 : -9223372036854775808 ≤ z) (h2 : z ≤ 9223372036854775807) :
    Calls Tryz.prog 61 #[.int .i64 z] w (Ret w fun r w' => IntC w' r z) := by
  have HB1 := Lib.hid (boxed1 w (.bool false) (.slice none 0 0) 25)
  by_cases hz : z < 0
  · obtain ⟨a, ha⟩ : ∃ a : Nat, z = -(a : Int) := ⟨(-z).toNat, by omega⟩
    have ha2 : a ≤ 9223372036854775808 := by omega
    have ha0 : 0 < a := by omega
    have Ha := Lib.hid ha
    clear ha
    go_enter Tryz.func61, Tryz.ntmps61
    go_wp2_with fail
    have hneg : IntKind.u64.wrap (-IntKind.u64.wrap z) = (a : Int) := by
      rw [IntKind.wrap_u64, IntKind.wrap_u64, Ha.out]; omega
    rw [hneg]
    refine (nat_From _ a (by omega)).mono ?_
    rintro _ w1 ⟨r, rfl, g1, hr⟩
    have G1 := Lib.hid g1
    have Hr := Lib.hid hr
    clear hr g1 hneg
    go_wp2_with fail
    refine (int_signedC _ true r _ z Hr.out (Nat.le_trans (digs_u64_length (by omega)) (by omega)) (by rw [Ha.out]; simp)).mono ?_
    rintro _ w3 ⟨r3, rfl, g3, hr3⟩
    obtain ⟨p3, k3, c3, rfl, hr3⟩ := hr3
    obtain ⟨sg, hsg⟩ : ∃ sg, sg = decide (z < 0) := ⟨_, rfl⟩
    rw [← hsg]
    have Hsg := Lib.hid hsg
    have G3 := Lib.hid (G1.out.trans g3)
    have Hr3 := Lib.hid hr3
    have HR3 := Lib.hid (HB1.out.2.grow G3.out)
    have r0 := HR3.out.load.1
    have r1 := HR3.out.load.2
    have f0 := HR3.out.f0 0
    have f1 := HR3.out.f0 1
    clear g3 hr3 hsg
    go_wp2_with fail
    refine bodyPost_ret (v := .agg #[.bool sg, .slice p3 k3 c3]) (by simp [results, Tryz.results61, go_sem, r0, r1]) rfl ?_
    exact ret_box (by omega) (HB1.out.1.trans G3.out) HR3.out Hr3.out Hsg.out
  · obtain ⟨a, rfl⟩ : ∃ a : Nat, z = a := ⟨z.toNat, by omega⟩
    have ha2 : a ≤ 9223372036854775807 := by omega
    go_enter Tryz.func61, Tryz.ntmps61
    go_wp2_with fail
    refine (nat_From _ a (by omega)).mono ?_
    rintro _ w1 ⟨r, rfl, g1, hr⟩
    have G1 := Lib.hid g1
    have Hr := Lib.hid hr
    clear hr g1
    go_wp2_with fail
    refine (int_signedC _ false r _ _ Hr.out (Nat.le_trans (digs_u64_length (by omega)) (by omega)) (by simp; rfl)).mono ?_
    rintro _ w3 ⟨r3, rfl, g3, hr3⟩
    obtain ⟨p3, k3, c3, rfl, hr3⟩ := hr3
    obtain ⟨sg, hsg⟩ : ∃ sg, sg = decide ((a : Int) < 0) := ⟨_, rfl⟩
    rw [← hsg]
    have Hsg := Lib.hid hsg
    have G3 := Lib.hid (G1.out.trans g3)
    have Hr3 := Lib.hid hr3
    have HR3 := Lib.hid (HB1.out.2.grow G3.out)
    have r0 := HR3.out.load.1
    have r1 := HR3.out.load.2
    have f0 := HR3.out.f0 0
    have f1 := HR3.out.f0 1
    clear g3 hr3 hsg
    go_wp2_with fail
    refine bodyPost_ret (v := .agg #[.bool sg, .slice p3 k3 c3]) (by simp [results, Tryz.results61, go_sem, r0, r1]) rfl ?_
    exact ret_box (by omega) (HB1.out.1.trans G3.out) HR3.out Hr3.out Hsg.out
end Go.Proofs.YtmcgkglmlfbijaaGreatDoor

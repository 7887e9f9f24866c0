/-
  IntegerSums.
-/
import Derived.Test.YtpjblmedcipopaaLawA
namespace Go.Proofs.Ytpjblmedcipopaa
open Go.RowKit
set_option linter.unusedVariables false
set_option linter.unusedSimpArgs false

theorem cell_new (w : World) (a : Array Value) (t : TypeId) (i : Nat) : (w.alloc (.cells a t)).cell? ⟨w.heap.size, i, none⟩ = a[i]? := by
  unfold World.cell?
  simp only [heap_alloc_new w _]
  rfl

set_option maxRecDepth 100000 in
set_option maxHeartbeats 3200000 in
theorem law_Sums (w : World) (va vb : Value) (n n' : Bool) (la lb : List Nat) (ha : IntL w va n la) (hb : IntL w vb n' lb) :
    Calls Try.prog 5 #[va, vb] w (Ret w fun r w' => r = .bool true) := by
  have HA0 := Lib.hid ha
  have HB0 := Lib.hid hb
  obtain ⟨pa, ka, ca, rfl, ha⟩ := ha
  obtain ⟨pb, kb, cb, rfl, hb⟩ := hb
  have hla := Lib.hid ha.len
  have hlb := Lib.hid hb.len
  have B2 := boxed2 w (.bool n) (.slice pa ka ca) (.bool n') (.slice pb kb cb) 25 25
  clear ha hb
  go_enter Try.func5, Try.ntmps5
  go_wp2_with fail
  generalize (w.alloc _).alloc _ = W at B2 ⊢
  obtain ⟨G0, ta, tb⟩ := B2
  generalize w.heap.size = ba at ta tb ⊢
  have HW := Lib.hid G0
  have TA := Lib.hid ta
  have TB := Lib.hid tb
  clear G0 ta tb
  refine (law_awake W).mono ?_
  rintro _ w1 ⟨_, rfl, g1, rfl⟩
  have a0 := TA.out.c0 w1 g1
  have a1 := TA.out.c1 w1 g1
  have b0 := TB.out.c0 w1 g1
  have b1 := TB.out.c1 w1 g1
  have G1 := Lib.hid g1
  clear g1
  go_wp2_with fail
  obtain ⟨t, ht⟩ : ∃ t, decide (∀ i, i < 2 → (if i = 0 then ka else kb) ≤ 10) = t := ⟨_, rfl⟩
  have HT := Lib.hid ht
  refine (law_few _ _ 2 2 (fun i => if i = 0 then n else n') (fun i => if i = 0 then pa else pb) (fun i => if i = 0 then ka else kb) (fun i => if i = 0 then ca else cb) (by decide) (by decide) t ht (fun i hi => ?_)).mono ?_
  · match i, hi with
    | 0, _ => exact ⟨cell_new _ _ _ _, cell_new _ _ _ _⟩
    | 1, _ => exact ⟨cell_new _ _ _ _, cell_new _ _ _ _⟩
  rintro _ w3 ⟨_, rfl, g3, rfl⟩
  have G3 := Lib.hid (G1.out.trans (((Gr.refl w1).alloc _).trans g3))
  clear a0 a1 b0 b1 g3 G1
  cases t
  · clear ht
    go_wp2_with fail
    refine (law_awake w3).mono ?_
    rintro _ w4 ⟨_, rfl, g4, rfl⟩
    have G4 := Lib.hid g4
    clear g4
    go_wp2_with fail
    go_ret
    exact ⟨_, rfl, HW.out.trans (G3.out.trans G4.out), rfl⟩
  · have hh := of_decide_eq_true ht
    have hka : ka ≤ 10 := hh 0 (by decide)
    have hkb : kb ≤ 10 := hh 1 (by decide)
    have Hka : la.length ≤ 10 := by rw [hla.out]; exact hka
    have Hkb : lb.length ≤ 10 := by rw [hlb.out]; exact hkb
    have HKa := Lib.hid Hka
    have HKb := Lib.hid Hkb
    have a0 := (TA.out.grow G3.out).c0
    have a1 := (TA.out.grow G3.out).c1
    have b0 := (TB.out.grow G3.out).c0
    have b1 := (TB.out.grow G3.out).c1
    have IA := Lib.hid (HA0.out.grow (HW.out.trans G3.out))
    have IB := Lib.hid (HB0.out.grow (HW.out.trans G3.out))
    obtain ⟨zc, hzc⟩ : ∃ z, cmpZ (zval n la) (zval n' lb) = z := ⟨_, rfl⟩
    have Hzc := Lib.hid hzc
    clear hh hka hkb Hka Hkb ht hzc
    go_wp2_with fail
    refine wp_region_eager [(0, true), (1, true), (3, true), (4, true), (2, false), (5, false), (6, true), (7, true), (8, true), (9, true), (11, true), (12, true), (10, false), (13, false), (14, false), (15, true), (16, true), (17, true), (18, true), (20, true), (21, true), (19, false), (22, false), (23, false), (24, true), (25, true), (26, true), (27, true), (29, true), (30, true), (28, false), (31, false), (32, false), (33, true), (34, true)] (by kernel_rfl) (by kernel_rfl) rfl (by kernel_rfl) (fun _ _ d _ _ h => by cases d <;> exact h) ?_
    have g0 : Gr w3 w3.drew := (Gr.refl w3).drew
    repeat (refine wpE_readB (v := ?_) g0 rfl rfl (fun w' hg => ?_) (fun K hK => ?_); rotate_left; (go_simp; rfl); go_simp; refine hK _ _ ?_; clear hK K)
    refine wpE_do rfl rfl (fun K hK => ?_)
    go_simp
    refine (int_Cmp _ _ _ _ _ _ _ zc Hzc.out (IA.out.grow g0) (IB.out.grow g0) (Nat.le_trans HKa.out (by decide)) (Nat.le_trans HKb.out (by decide))).mono ?_
    rintro _ v1 ⟨_, rfl, gn, rfl⟩
    refine ⟨fun _ => gn, hK _ _ ?_⟩
    clear hK K
    have h1 := g0.trans gn
    clear gn g0
    repeat (refine wpE_readB (v := ?_) h1 rfl rfl (fun w' hg => ?_) (fun K hK => ?_); rotate_left; (go_simp; rfl); go_simp; refine hK _ _ ?_; clear hK K)
    refine wpE_do rfl rfl (fun K hK => ?_)
    go_simp
    refine (ref2_Cmp _ _ _ _ _ _ _ zc Hzc.out (IA.out.grow h1) (IB.out.grow h1) (Nat.le_trans HKa.out (by decide)) (Nat.le_trans HKb.out (by decide))).mono ?_
    rintro _ v2 ⟨_, rfl, gn, rfl⟩
    refine ⟨fun _ => gn, hK _ _ ?_⟩
    clear hK K
    have h2 := h1.trans gn
    clear gn h1
    repeat (refine wpE_readB (v := ?_) h2 rfl rfl (fun w' hg => ?_) (fun K hK => ?_); rotate_left; (go_simp; rfl); go_simp; refine hK _ _ ?_; clear hK K)
    refine wpE_do rfl rfl (fun K hK => ?_)
    go_simp
    refine (int_Add _ _ _ _ _ _ _ _ rfl (IA.out.grow h2) (IB.out.grow h2) (Nat.le_trans HKa.out (by decide)) (Nat.le_trans HKb.out (by decide))).mono ?_
    rintro _ v3 ⟨r3, rfl, gn, hr⟩
    refine ⟨fun _ => gn, hK _ _ ?_⟩
    clear hK K
    have HR := Lib.hid hr
    have h3 := h2.trans gn
    clear gn hr h2
    repeat (refine wpE_readB (v := ?_) h3 rfl rfl (fun w' hg => ?_) (fun K hK => ?_); rotate_left; (go_simp; rfl); go_simp; refine hK _ _ ?_; clear hK K)
    refine wpE_do rfl rfl (fun K hK => ?_)
    go_simp
    refine (ref2_Add _ _ _ _ _ _ _ _ rfl (IA.out.grow h3) (IB.out.grow h3) (Nat.le_trans HKa.out (by decide)) (Nat.le_trans HKb.out (by decide))).mono ?_
    rintro _ v4 ⟨r4, rfl, gn, hr⟩
    refine ⟨fun _ => gn, hK _ _ ?_⟩
    clear hK K
    have HR2 := Lib.hid hr
    have HR := Lib.hid (HR.out.grow gn)
    have h4 := h3.trans gn
    clear gn hr h3
    repeat (refine wpE_readB (v := ?_) h4 rfl rfl (fun w' hg => ?_) (fun K hK => ?_); rotate_left; (go_simp; rfl); go_simp; refine hK _ _ ?_; clear hK K)
    refine wpE_do rfl rfl (fun K hK => ?_)
    go_simp
    refine (ref2_Same _ _ _ _ _ _ _ true (by rw [IntC.same]; simp) HR.out HR2.out).mono ?_
    rintro _ v5 ⟨_, rfl, gn, rfl⟩
    refine ⟨fun _ => gn, hK _ _ ?_⟩
    clear hK K
    have h5 := h4.trans gn
    clear gn h4 HR HR2
    repeat (refine wpE_readB (v := ?_) h5 rfl rfl (fun w' hg => ?_) (fun K hK => ?_); rotate_left; (go_simp; rfl); go_simp; refine hK _ _ ?_; clear hK K)
    refine wpE_do rfl rfl (fun K hK => ?_)
    go_simp
    refine (int_Sub _ _ _ _ _ _ _ _ rfl (IA.out.grow h5) (IB.out.grow h5) (Nat.le_trans HKa.out (by decide)) (Nat.le_trans HKb.out (by decide))).mono ?_
    rintro _ v6 ⟨r6, rfl, gn, hr⟩
    refine ⟨fun _ => gn, hK _ _ ?_⟩
    clear hK K
    have HR := Lib.hid hr
    have h6 := h5.trans gn
    clear gn hr h5
    repeat (refine wpE_readB (v := ?_) h6 rfl rfl (fun w' hg => ?_) (fun K hK => ?_); rotate_left; (go_simp; rfl); go_simp; refine hK _ _ ?_; clear hK K)
    refine wpE_do rfl rfl (fun K hK => ?_)
    go_simp
    refine (ref2_Sub _ _ _ _ _ _ _ _ rfl (IA.out.grow h6) (IB.out.grow h6) (Nat.le_trans HKa.out (by decide)) (Nat.le_trans HKb.out (by decide))).mono ?_
    rintro _ v7 ⟨r7, rfl, gn, hr⟩
    refine ⟨fun _ => gn, hK _ _ ?_⟩
    clear hK K
    have HR2 := Lib.hid hr
    have HR := Lib.hid (HR.out.grow gn)
    have h7 := h6.trans gn
    clear gn hr h6
    repeat (refine wpE_readB (v := ?_) h7 rfl rfl (fun w' hg => ?_) (fun K hK => ?_); rotate_left; (go_simp; rfl); go_simp; refine hK _ _ ?_; clear hK K)
    refine wpE_do rfl rfl (fun K hK => ?_)
    go_simp
    refine (ref2_Same _ _ _ _ _ _ _ true (by rw [IntC.same]; simp) HR.out HR2.out).mono ?_
    rintro _ v8 ⟨_, rfl, gn, rfl⟩
    refine ⟨fun _ => gn, hK _ _ ?_⟩
    clear hK K
    have h8 := h7.trans gn
    clear gn h7 HR HR2
    repeat (refine wpE_readB (v := ?_) h8 rfl rfl (fun w' hg => ?_) (fun K hK => ?_); rotate_left; (go_simp; rfl); go_simp; refine hK _ _ ?_; clear hK K)
    refine wpE_do rfl rfl (fun K hK => ?_)
    go_simp
    refine (int_Mul _ _ _ _ _ _ _ _ rfl (IA.out.grow h8) (IB.out.grow h8) (Nat.le_trans HKa.out (by decide)) (Nat.le_trans HKb.out (by decide))).mono ?_
    rintro _ v9 ⟨r9, rfl, gn, hr⟩
    refine ⟨fun _ => gn, hK _ _ ?_⟩
    clear hK K
    have HR := Lib.hid hr
    have h9 := h8.trans gn
    clear gn hr h8
    repeat (refine wpE_readB (v := ?_) h9 rfl rfl (fun w' hg => ?_) (fun K hK => ?_); rotate_left; (go_simp; rfl); go_simp; refine hK _ _ ?_; clear hK K)
    refine wpE_do rfl rfl (fun K hK => ?_)
    go_simp
    refine (ref2_Mul _ _ _ _ _ _ _ _ rfl (IA.out.grow h9) (IB.out.grow h9) (Nat.le_trans HKa.out (by decide)) (Nat.le_trans HKb.out (by decide))).mono ?_
    rintro _ v10 ⟨r10, rfl, gn, hr⟩
    refine ⟨fun _ => gn, hK _ _ ?_⟩
    clear hK K
    have HR2 := Lib.hid hr
    have HR := Lib.hid (HR.out.grow gn)
    have h10 := h9.trans gn
    clear gn hr h9
    repeat (refine wpE_readB (v := ?_) h10 rfl rfl (fun w' hg => ?_) (fun K hK => ?_); rotate_left; (go_simp; rfl); go_simp; refine hK _ _ ?_; clear hK K)
    refine wpE_do rfl rfl (fun K hK => ?_)
    go_simp
    refine (ref2_Same _ _ _ _ _ _ _ true (by rw [IntC.same]; simp) HR.out HR2.out).mono ?_
    rintro _ v11 ⟨_, rfl, gn, rfl⟩
    refine ⟨fun _ => gn, hK _ _ ?_⟩
    clear hK K
    have h11 := h10.trans gn
    clear gn h10 HR HR2
    repeat (refine wpE_readB (v := ?_) h11 rfl rfl (fun w' hg => ?_) (fun K hK => ?_); rotate_left; (go_simp; rfl); go_simp; refine hK _ _ ?_; clear hK K)
    refine wpE_nil ?_
    go_wp2_with fail
    go_ret
    exact ⟨_, rfl, HW.out.trans (G3.out.trans h11), rfl⟩
end Go.Proofs.Ytpjblmedcipopaa

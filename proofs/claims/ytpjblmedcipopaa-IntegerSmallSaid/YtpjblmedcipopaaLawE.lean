/-
  IntegerQuotients: its closure.
-/
import Derived.Test.YtpjblmedcipopaaLawC
import Derived.Test.YtpjblmedcipopaaQuo
namespace Go.Proofs.Ytpjblmedcipopaa
open Go.RowKit
set_option linter.unusedVariables false
set_option linter.unusedSimpArgs false

theorem ref_CmpZ (w : World) (va vb : Value) (la lb : List Nat) (z : Int) (hz : cmpZ (nval la) (nval lb) = z) (ha : NatL w va la) (hb : NatL w vb lb) (hla : la.length ≤ 35184372088832) (hlb : lb.length ≤ 35184372088832) :
    Calls Try.prog 19 #[va, vb] w (Ret w fun r _ => r = .int .i64 z) := by
  subst hz
  exact ref_Cmp w va vb la lb ha hb hla hlb

set_option maxRecDepth 100000 in
set_option maxHeartbeats 6400000 in
theorem law_Quo1 (w : World) (vq vr : Value) (q r x y sg : Int) (bb ba : Nat) (nb na : Bool) (pb pa : Option Addr) (kb cb ka ca : Nat) (lb la : List Nat) (hq : IntC w vq q) (hr : IntC w vr r)
    (hlq : (digs q.natAbs).length ≤ 1000) (hlr : (digs r.natAbs).length ≤ 1000) (hlm : (digs (q * y).natAbs).length ≤ 100000) (hlb : lb.length ≤ 1000) (hla : la.length ≤ 1000)
    (hb0 : w.cell? ⟨bb, 0, none⟩ = some (.bool nb)) (hb1 : w.cell? ⟨bb, 1, none⟩ = some (.slice pb kb cb)) (ha0 : w.cell? ⟨ba, 0, none⟩ = some (.bool na)) (ha1 : w.cell? ⟨ba, 1, none⟩ = some (.slice pa ka ca))
    (hb : IntL w (.agg #[.bool nb, .slice pb kb cb]) nb lb) (ha : IntL w (.agg #[.bool na, .slice pa ka ca]) na la) (hnb : NatL w (.slice pb kb cb) lb) (hy : zval nb lb = y) (hx : zval na la = x)
    (h1 : q * y + r = x) (h2 : r.natAbs < y.natAbs) (h3 : r = 0 ∨ sgn r = sg) :
    Calls Try.prog 14 #[vq, vr, .int .i64 sg, .pointer (some ⟨bb, 0, none⟩), .pointer (some ⟨ba, 0, none⟩)] w (Ret w fun r w' => r = .bool true) := by
  have hcmp : cmpZ ((nval (digs r.natAbs) : Nat) : Int) (nval lb) = -1 := by
    rw [nval_digs]
    rw [← hy, zval_natAbs] at h2
    unfold cmpZ
    rw [if_pos (by omega)]
  have Hcmp := Lib.hid hcmp
  have Hlq := Lib.hid hlq
  have Hlr := Lib.hid hlr
  have Hlm := Lib.hid hlm
  have Hlb := Lib.hid hlb
  have Hla := Lib.hid hla
  have Hb0 := Lib.hid hb0
  have Hb1 := Lib.hid hb1
  have Ha0 := Lib.hid ha0
  have Ha1 := Lib.hid ha1
  have HB := Lib.hid hb
  have HA := Lib.hid ha
  have HNB := Lib.hid hnb
  have Hy := Lib.hid hy
  have Hx := Lib.hid hx
  have H1 := Lib.hid h1
  clear hcmp hlq hlr hlm hlb hla hb0 hb1 ha0 ha1 hb ha hnb hy hx h1 h2
  by_cases hr0 : r = 0
  · have Hsg := Lib.hid (show sgn r = 0 by rw [hr0]; rfl)
    clear h3 hr0
    have HQ0 := Lib.hid hq
    have HR0 := Lib.hid hr
    obtain ⟨pq, kq, cq, rfl, hq⟩ := hq
    obtain ⟨pr, kr, cr, rfl, hr⟩ := hr
    obtain ⟨sq, hsq⟩ : ∃ s, decide (q < 0) = s := ⟨_, rfl⟩
    obtain ⟨sr, hsr⟩ : ∃ s, decide (r < 0) = s := ⟨_, rfl⟩
    have B := boxed2 w (.bool sq) (.slice pq kq cq) (.bool sr) (.slice pr kr cr) 25 25
    have HNR := Lib.hid hr
    rw [hsq] at HQ0 ⊢
    rw [hsr] at HR0 ⊢
    have HVq := Lib.hid (IntC.validC q)
    have HVr := Lib.hid (IntC.validC r)
    clear hq hr
    go_enter Try.func14, Try.ntmps14
    go_wp2_with fail
    generalize (w.alloc _).alloc _ = W at B ⊢
    obtain ⟨G0, tq, tr⟩ := B
    generalize w.heap.size = bx at tq tr ⊢
    have HW := Lib.hid G0
    have q0 := tq.c0
    have q1 := tq.c1
    have r0 := tr.c0
    have r1 := tr.c1
    have cb0 : ∀ w', Gr W w' → w'.cell? ⟨bb, 0, none⟩ = some (.bool nb) := fun w' g => (HW.out.trans g).cell Hb0.out
    have cb1 : ∀ w', Gr W w' → w'.cell? ⟨bb, 1, none⟩ = some (.slice pb kb cb) := fun w' g => (HW.out.trans g).cell Hb1.out
    have ca0 : ∀ w', Gr W w' → w'.cell? ⟨ba, 0, none⟩ = some (.bool na) := fun w' g => (HW.out.trans g).cell Ha0.out
    have ca1 : ∀ w', Gr W w' → w'.cell? ⟨ba, 1, none⟩ = some (.slice pa ka ca) := fun w' g => (HW.out.trans g).cell Ha1.out
    have g0 : Gr W W.drew := (Gr.refl W).drew
    clear G0 tq tr
    refine wp_region_eager [(0, true), (1, false), (2, true), (3, true), (4, false), (5, true), (6, true), (7, true), (8, true), (10, true), (12, true), (9, false), (11, false), (13, false), (14, false), (15, true), (16, true), (17, true), (18, true), (19, true), (20, true), (21, false), (22, true), (23, true), (24, true), (25, true), (26, false), (27, true), (28, true), (29, true), (31, true), (30, false), (32, true), (33, true), (34, true), (35, true)] (by kernel_rfl) (by kernel_rfl) rfl (by kernel_rfl) (fun _ _ d _ _ h => by cases d <;> exact h) ?_
    repeat (refine wpE_readB (v := ?_) g0 rfl rfl (fun w' hg => ?_) (fun K hK => ?_); rotate_left; (go_simp; rfl); go_simp; refine hK _ _ ?_; clear hK K)
    refine wpE_do rfl rfl (fun K hK => ?_)
    go_simp
    refine (ref2_Valid _ _ _ _ true HVq.out (HQ0.out.grow (HW.out.trans g0)) (Nat.le_trans Hlq.out (by decide))).mono ?_
    rintro _ v1 ⟨_, rfl, gn, rfl⟩
    refine ⟨fun _ => gn, hK _ _ ?_⟩
    clear hK K
    have h1 := g0.trans gn
    clear gn g0
    repeat (refine wpE_readB (v := ?_) h1 rfl rfl (fun w' hg => ?_) (fun K hK => ?_); rotate_left; (go_simp; rfl); go_simp; refine hK _ _ ?_; clear hK K)
    refine wpE_do rfl rfl (fun K hK => ?_)
    go_simp
    refine (ref2_Valid _ _ _ _ true HVr.out (HR0.out.grow (HW.out.trans h1)) (Nat.le_trans Hlr.out (by decide))).mono ?_
    rintro _ v2 ⟨_, rfl, gn, rfl⟩
    refine ⟨fun _ => gn, hK _ _ ?_⟩
    clear hK K
    have h2 := h1.trans gn
    clear gn h1
    repeat (refine wpE_readB (v := ?_) h2 rfl rfl (fun w' hg => ?_) (fun K hK => ?_); rotate_left; (go_simp; rfl); go_simp; refine hK _ _ ?_; clear hK K)
    refine wpE_do rfl rfl (fun K hK => ?_)
    go_simp
    refine (ref2_Mul _ _ _ _ _ _ _ (q * y) (by rw [zval_digs, Hy.out]) (HQ0.out.grow (HW.out.trans h2)) (HB.out.grow (HW.out.trans h2)) (Nat.le_trans Hlq.out (by decide)) (Nat.le_trans Hlb.out (by decide))).mono ?_
    rintro _ v3 ⟨r3, rfl, gn, hr3⟩
    refine ⟨fun _ => gn, hK _ _ ?_⟩
    clear hK K
    have h3 := h2.trans gn
    have H3 := Lib.hid hr3
    clear gn h2 hr3
    repeat (refine wpE_readB (v := ?_) h3 rfl rfl (fun w' hg => ?_) (fun K hK => ?_); rotate_left; (go_simp; rfl); go_simp; refine hK _ _ ?_; clear hK K)
    refine wpE_do rfl rfl (fun K hK => ?_)
    go_simp
    refine (ref2_Add _ _ _ _ _ _ _ x (by rw [zval_digs, zval_digs]; exact H1.out) H3.out (HR0.out.grow (HW.out.trans h3)) (Nat.le_trans Hlm.out (by decide)) (Nat.le_trans Hlr.out (by decide))).mono ?_
    rintro _ v4 ⟨r4, rfl, gn, hr4⟩
    refine ⟨fun _ => gn, hK _ _ ?_⟩
    clear hK K
    have h4 := h3.trans gn
    have H4 := Lib.hid hr4
    clear gn h3 hr4 H3
    repeat (refine wpE_readB (v := ?_) h4 rfl rfl (fun w' hg => ?_) (fun K hK => ?_); rotate_left; (go_simp; rfl); go_simp; refine hK _ _ ?_; clear hK K)
    refine wpE_do rfl rfl (fun K hK => ?_)
    go_simp
    refine (ref2_Fix _ _ _ _ x Hx.out (HA.out.grow (HW.out.trans h4)) (Nat.le_trans Hla.out (by decide))).mono ?_
    rintro _ v5 ⟨r5, rfl, gn, hr5⟩
    refine ⟨fun _ => gn, hK _ _ ?_⟩
    clear hK K
    have h5 := h4.trans gn
    have H4 := Lib.hid (H4.out.grow gn)
    have H5 := Lib.hid hr5
    clear gn h4 hr5
    repeat (refine wpE_readB (v := ?_) h5 rfl rfl (fun w' hg => ?_) (fun K hK => ?_); rotate_left; (go_simp; rfl); go_simp; refine hK _ _ ?_; clear hK K)
    refine wpE_do rfl rfl (fun K hK => ?_)
    go_simp
    refine (v_Same _ _ _ x x true H4.out H5.out (by simp)).mono ?_
    rintro _ v6 ⟨_, rfl, gn, rfl⟩
    refine ⟨fun _ => gn, hK _ _ ?_⟩
    clear hK K
    have h6 := h5.trans gn
    clear gn h5 H4 H5
    repeat (refine wpE_readB (v := ?_) h6 rfl rfl (fun w' hg => ?_) (fun K hK => ?_); rotate_left; (go_simp; rfl); go_simp; refine hK _ _ ?_; clear hK K)
    refine wpE_do rfl rfl (fun K hK => ?_)
    go_simp
    refine (ref_CmpZ _ _ _ _ _ (-1) Hcmp.out (HNR.out.grow (HW.out.trans h6)) (HNB.out.grow (HW.out.trans h6)) (Nat.le_trans Hlr.out (by decide)) (Nat.le_trans Hlb.out (by decide))).mono ?_
    rintro _ v7 ⟨_, rfl, gn, rfl⟩
    refine ⟨fun _ => gn, hK _ _ ?_⟩
    clear hK K
    have h7 := h6.trans gn
    clear gn h6
    repeat (refine wpE_readB (v := ?_) h7 rfl rfl (fun w' hg => ?_) (fun K hK => ?_); rotate_left; (go_simp; rfl); go_simp; refine hK _ _ ?_; clear hK K)
    refine wpE_do rfl rfl (fun K hK => ?_)
    go_simp
    refine (ref2_Sign _ _ _ _ 0 (by rw [zval_digs]; exact Hsg.out) (HR0.out.grow (HW.out.trans h7)) (Nat.le_trans Hlr.out (by decide))).mono ?_
    rintro _ v8 ⟨_, rfl, gn, rfl⟩
    refine ⟨fun _ => gn, hK _ _ ?_⟩
    clear hK K
    have h8 := h7.trans gn
    clear gn h7
    repeat (refine wpE_readB (v := ?_) h8 rfl rfl (fun w' hg => ?_) (fun K hK => ?_); rotate_left; (go_simp; rfl); go_simp; refine hK _ _ ?_; clear hK K)
    repeat (refine wpE_skip rfl rfl ?_; go_simp)
    repeat (refine wpE_readB (v := ?_) h8 rfl rfl (fun w' hg => ?_) (fun K hK => ?_); rotate_left; (go_simp; rfl); go_simp; refine hK _ _ ?_; clear hK K)
    refine wpE_nil ?_
    go_wp2_with fail
    go_ret
    exact ⟨_, rfl, HW.out.trans h8, rfl⟩
  · have hs := h3.resolve_left hr0
    have Hsg := Lib.hid hs
    have e0 : (sg == 0) = false := by
      have : sg ≠ 0 := by rw [← hs]; unfold sgn; split <;> (try split) <;> omega
      simpa using this
    clear h3 hr0 hs
    have HQ0 := Lib.hid hq
    have HR0 := Lib.hid hr
    obtain ⟨pq, kq, cq, rfl, hq⟩ := hq
    obtain ⟨pr, kr, cr, rfl, hr⟩ := hr
    obtain ⟨sq, hsq⟩ : ∃ s, decide (q < 0) = s := ⟨_, rfl⟩
    obtain ⟨sr, hsr⟩ : ∃ s, decide (r < 0) = s := ⟨_, rfl⟩
    have B := boxed2 w (.bool sq) (.slice pq kq cq) (.bool sr) (.slice pr kr cr) 25 25
    have HNR := Lib.hid hr
    rw [hsq] at HQ0 ⊢
    rw [hsr] at HR0 ⊢
    have HVq := Lib.hid (IntC.validC q)
    have HVr := Lib.hid (IntC.validC r)
    clear hq hr
    go_enter Try.func14, Try.ntmps14
    go_wp2_with fail
    generalize (w.alloc _).alloc _ = W at B ⊢
    obtain ⟨G0, tq, tr⟩ := B
    generalize w.heap.size = bx at tq tr ⊢
    have HW := Lib.hid G0
    have q0 := tq.c0
    have q1 := tq.c1
    have r0 := tr.c0
    have r1 := tr.c1
    have cb0 : ∀ w', Gr W w' → w'.cell? ⟨bb, 0, none⟩ = some (.bool nb) := fun w' g => (HW.out.trans g).cell Hb0.out
    have cb1 : ∀ w', Gr W w' → w'.cell? ⟨bb, 1, none⟩ = some (.slice pb kb cb) := fun w' g => (HW.out.trans g).cell Hb1.out
    have ca0 : ∀ w', Gr W w' → w'.cell? ⟨ba, 0, none⟩ = some (.bool na) := fun w' g => (HW.out.trans g).cell Ha0.out
    have ca1 : ∀ w', Gr W w' → w'.cell? ⟨ba, 1, none⟩ = some (.slice pa ka ca) := fun w' g => (HW.out.trans g).cell Ha1.out
    have g0 : Gr W W.drew := (Gr.refl W).drew
    clear G0 tq tr
    refine wp_region_eager [(0, true), (1, false), (2, true), (3, true), (4, false), (5, true), (6, true), (7, true), (8, true), (10, true), (12, true), (9, false), (11, false), (13, false), (14, false), (15, true), (16, true), (17, true), (18, true), (19, true), (20, true), (21, false), (22, true), (23, true), (24, true), (25, true), (26, false), (27, true), (28, true), (29, true), (31, true), (30, false), (32, true), (33, true), (34, true), (35, true)] (by kernel_rfl) (by kernel_rfl) rfl (by kernel_rfl) (fun _ _ d _ _ h => by cases d <;> exact h) ?_
    repeat (refine wpE_readB (v := ?_) g0 rfl rfl (fun w' hg => ?_) (fun K hK => ?_); rotate_left; (go_simp; rfl); go_simp; refine hK _ _ ?_; clear hK K)
    refine wpE_do rfl rfl (fun K hK => ?_)
    go_simp
    refine (ref2_Valid _ _ _ _ true HVq.out (HQ0.out.grow (HW.out.trans g0)) (Nat.le_trans Hlq.out (by decide))).mono ?_
    rintro _ v1 ⟨_, rfl, gn, rfl⟩
    refine ⟨fun _ => gn, hK _ _ ?_⟩
    clear hK K
    have h1 := g0.trans gn
    clear gn g0
    repeat (refine wpE_readB (v := ?_) h1 rfl rfl (fun w' hg => ?_) (fun K hK => ?_); rotate_left; (go_simp; rfl); go_simp; refine hK _ _ ?_; clear hK K)
    refine wpE_do rfl rfl (fun K hK => ?_)
    go_simp
    refine (ref2_Valid _ _ _ _ true HVr.out (HR0.out.grow (HW.out.trans h1)) (Nat.le_trans Hlr.out (by decide))).mono ?_
    rintro _ v2 ⟨_, rfl, gn, rfl⟩
    refine ⟨fun _ => gn, hK _ _ ?_⟩
    clear hK K
    have h2 := h1.trans gn
    clear gn h1
    repeat (refine wpE_readB (v := ?_) h2 rfl rfl (fun w' hg => ?_) (fun K hK => ?_); rotate_left; (go_simp; rfl); go_simp; refine hK _ _ ?_; clear hK K)
    refine wpE_do rfl rfl (fun K hK => ?_)
    go_simp
    refine (ref2_Mul _ _ _ _ _ _ _ (q * y) (by rw [zval_digs, Hy.out]) (HQ0.out.grow (HW.out.trans h2)) (HB.out.grow (HW.out.trans h2)) (Nat.le_trans Hlq.out (by decide)) (Nat.le_trans Hlb.out (by decide))).mono ?_
    rintro _ v3 ⟨r3, rfl, gn, hr3⟩
    refine ⟨fun _ => gn, hK _ _ ?_⟩
    clear hK K
    have h3 := h2.trans gn
    have H3 := Lib.hid hr3
    clear gn h2 hr3
    repeat (refine wpE_readB (v := ?_) h3 rfl rfl (fun w' hg => ?_) (fun K hK => ?_); rotate_left; (go_simp; rfl); go_simp; refine hK _ _ ?_; clear hK K)
    refine wpE_do rfl rfl (fun K hK => ?_)
    go_simp
    refine (ref2_Add _ _ _ _ _ _ _ x (by rw [zval_digs, zval_digs]; exact H1.out) H3.out (HR0.out.grow (HW.out.trans h3)) (Nat.le_trans Hlm.out (by decide)) (Nat.le_trans Hlr.out (by decide))).mono ?_
    rintro _ v4 ⟨r4, rfl, gn, hr4⟩
    refine ⟨fun _ => gn, hK _ _ ?_⟩
    clear hK K
    have h4 := h3.trans gn
    have H4 := Lib.hid hr4
    clear gn h3 hr4 H3
    repeat (refine wpE_readB (v := ?_) h4 rfl rfl (fun w' hg => ?_) (fun K hK => ?_); rotate_left; (go_simp; rfl); go_simp; refine hK _ _ ?_; clear hK K)
    refine wpE_do rfl rfl (fun K hK => ?_)
    go_simp
    refine (ref2_Fix _ _ _ _ x Hx.out (HA.out.grow (HW.out.trans h4)) (Nat.le_trans Hla.out (by decide))).mono ?_
    rintro _ v5 ⟨r5, rfl, gn, hr5⟩
    refine ⟨fun _ => gn, hK _ _ ?_⟩
    clear hK K
    have h5 := h4.trans gn
    have H4 := Lib.hid (H4.out.grow gn)
    have H5 := Lib.hid hr5
    clear gn h4 hr5
    repeat (refine wpE_readB (v := ?_) h5 rfl rfl (fun w' hg => ?_) (fun K hK => ?_); rotate_left; (go_simp; rfl); go_simp; refine hK _ _ ?_; clear hK K)
    refine wpE_do rfl rfl (fun K hK => ?_)
    go_simp
    refine (v_Same _ _ _ x x true H4.out H5.out (by simp)).mono ?_
    rintro _ v6 ⟨_, rfl, gn, rfl⟩
    refine ⟨fun _ => gn, hK _ _ ?_⟩
    clear hK K
    have h6 := h5.trans gn
    clear gn h5 H4 H5
    repeat (refine wpE_readB (v := ?_) h6 rfl rfl (fun w' hg => ?_) (fun K hK => ?_); rotate_left; (go_simp; rfl); go_simp; refine hK _ _ ?_; clear hK K)
    refine wpE_do rfl rfl (fun K hK => ?_)
    go_simp
    refine (ref_CmpZ _ _ _ _ _ (-1) Hcmp.out (HNR.out.grow (HW.out.trans h6)) (HNB.out.grow (HW.out.trans h6)) (Nat.le_trans Hlr.out (by decide)) (Nat.le_trans Hlb.out (by decide))).mono ?_
    rintro _ v7 ⟨_, rfl, gn, rfl⟩
    refine ⟨fun _ => gn, hK _ _ ?_⟩
    clear hK K
    have h7 := h6.trans gn
    clear gn h6
    repeat (refine wpE_readB (v := ?_) h7 rfl rfl (fun w' hg => ?_) (fun K hK => ?_); rotate_left; (go_simp; rfl); go_simp; refine hK _ _ ?_; clear hK K)
    refine wpE_do rfl rfl (fun K hK => ?_)
    go_simp
    refine (ref2_Sign _ _ _ _ sg (by rw [zval_digs]; exact Hsg.out) (HR0.out.grow (HW.out.trans h7)) (Nat.le_trans Hlr.out (by decide))).mono ?_
    rintro _ v8 ⟨_, rfl, gn, rfl⟩
    refine ⟨fun _ => gn, hK _ _ ?_⟩
    clear hK K
    have h8 := h7.trans gn
    clear gn h7
    repeat (refine wpE_readB (v := ?_) h8 rfl rfl (fun w' hg => ?_) (fun K hK => ?_); rotate_left; (go_simp; rfl); go_simp; refine hK _ _ ?_; clear hK K)
    refine wpE_do rfl rfl (fun K hK => ?_)
    go_simp
    refine (ref2_Sign _ _ _ _ sg (by rw [zval_digs]; exact Hsg.out) (HR0.out.grow (HW.out.trans h8)) (Nat.le_trans Hlr.out (by decide))).mono ?_
    rintro _ v9 ⟨_, rfl, gn, rfl⟩
    refine ⟨fun _ => gn, hK _ _ ?_⟩
    clear hK K
    have h9 := h8.trans gn
    clear gn h8
    repeat (refine wpE_readB (v := ?_) h9 rfl rfl (fun w' hg => ?_) (fun K hK => ?_); rotate_left; (go_simp; rfl); go_simp; refine hK _ _ ?_; clear hK K)
    refine wpE_nil ?_
    go_wp2_with fail
    go_ret
    exact ⟨_, rfl, HW.out.trans h9, rfl⟩
end Go.Proofs.Ytpjblmedcipopaa

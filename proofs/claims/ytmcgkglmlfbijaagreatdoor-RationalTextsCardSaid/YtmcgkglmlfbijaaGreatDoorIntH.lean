/-
  Integers of the program: the two divisions.
-/
import Derived.Test.YtmcgkglmlfbijaaGreatDoorIntG
namespace Go.Proofs.YtmcgkglmlfbijaaGreatDoor
open Go.RowKit
set_option linter.unusedVariables false
set_option linter.unusedSimpArgs false

set_option maxHeartbeats 1600000 in
theorem int_Quo_zero (w : World) (va vb : Value) (n n' : Bool) (la lb : List Nat) (ha : IntL w va n la) (hb : IntL w vb n' lb) (h0 : nval lb = 0) :
    Calls Tryz.prog 80 #[va, vb] w (Ret w fun r w' => r = .tuple #[.agg #[.bool false, .slice none 0 0], .agg #[.bool false, .slice none 0 0], .int .i64 2]) := by
  have HA0 := Lib.hid ha
  have HB0 := Lib.hid hb
  have H0 := Lib.hid h0
  obtain ⟨pa, ka, ca, rfl, ha⟩ := ha
  obtain ⟨pb, kb, cb, rfl, hb⟩ := hb
  clear ha hb h0
  have B4 := boxed4 w (.bool n) (.slice pa ka ca) (.bool n') (.slice pb kb cb) (.bool false) (.slice none 0 0) (.bool false) (.slice none 0 0) 25 25 25 25
  go_enter Tryz.func80, Tryz.ntmps80
  go_wp2_with fail
  generalize (((w.alloc _).alloc _).alloc _).alloc _ = W at B4 ⊢
  obtain ⟨G0, ta, tb, tr, tq⟩ := B4
  have HW := Lib.hid G0
  refine (int_divide_zero _ _ _ n n' la lb _ (HA0.out.grow HW.out) (HB0.out.grow HW.out) H0.out).mono ?_
  rintro _ w9 ⟨_, rfl, g9, rfl⟩
  have G9 := Lib.hid g9
  have tr := tr.grow g9
  have tq := tq.grow g9
  have TW := two_results (s := false) (s' := false) (p := none) (k := 0) (c := 0) (p' := none) (k' := 0) (c' := 0) tr tq
  have f0 := tr.f0 0
  have f1 := tr.f0 1
  have f2 := tq.f0 0
  have f3 := tq.f0 1
  have r0 := tr.load.1
  have r1 := tr.load.2
  have u0 := tq.load.1
  have u1 := tq.load.2
  clear G0 ta tb tr tq g9
  go_wp2_with fail
  generalize (((w9.setCell _ _).setCell _ _).setCell _ _).setCell _ _ = W10 at TW ⊢
  obtain ⟨t1, t2, hkeep, hown⟩ := TW
  have x0 := t1.load.1
  have x1 := t1.load.2
  have y0 := t2.load.1
  have y1 := t2.load.2
  refine bodyPost_ret (v := .tuple #[.agg #[.bool false, .slice none 0 0], .agg #[.bool false, .slice none 0 0], .int .i64 2]) (by simp [results, Tryz.results80, go_sem, x0, x1, y0, y1]) rfl ?_
  exact ⟨_, rfl, Below.trans (HW.out.trans G9.out) (Below.mono hown (by omega)), rfl⟩

set_option maxHeartbeats 1600000 in
theorem int_Quo (w : World) (va vb : Value) (n n' : Bool) (la lb : List Nat) (x y Q R : Int) (hx : zval n la = x) (hy : zval n' lb = y) (hQ : quoZ false x y = Q) (hR : x - Q * y = R)
    (ha : IntL w va n la) (hb : IntL w vb n' lb) (hla : la.length ≤ 274877906944) (hlb : lb.length ≤ 274877906944) (h0 : y ≠ 0) :
    Calls Tryz.prog 80 #[va, vb] w (Ret w fun r w' => ∃ q s, r = .tuple #[q, s, .int .i64 0] ∧ IntC w' q Q ∧ IntC w' s R) := by
  have HA0 := Lib.hid ha
  have HB0 := Lib.hid hb
  have H0 := Lib.hid h0
  have Hx := Lib.hid hx
  have Hy := Lib.hid hy
  have HQ := Lib.hid hQ
  have HR := Lib.hid hR
  obtain ⟨pa, ka, ca, rfl, ha⟩ := ha
  obtain ⟨pb, kb, cb, rfl, hb⟩ := hb
  clear ha hb h0 hx hy hQ hR
  have B4 := boxed4 w (.bool n) (.slice pa ka ca) (.bool n') (.slice pb kb cb) (.bool false) (.slice none 0 0) (.bool false) (.slice none 0 0) 25 25 25 25
  go_enter Tryz.func80, Tryz.ntmps80
  go_wp2_with fail
  generalize (((w.alloc _).alloc _).alloc _).alloc _ = W at B4 ⊢
  obtain ⟨G0, ta, tb, tr, tq⟩ := B4
  have HW := Lib.hid G0
  refine (int_divide _ _ _ n n' la lb false 110 (.inl ⟨rfl, rfl⟩) x y Hx.out Hy.out (HA0.out.grow HW.out) (HB0.out.grow HW.out) hla hlb H0.out).mono ?_
  rintro _ w9 ⟨_, rfl, g9, q, s, rfl, hq, hs⟩
  rw [HQ.out] at hq hs
  rw [HR.out] at hs
  have G9 := Lib.hid g9
  obtain ⟨p6, k6, c6, rfl, hq⟩ := hq
  obtain ⟨p9, k9, c9, rfl, hs⟩ := hs
  have Hq := Lib.hid hq
  have Hs := Lib.hid hs
  obtain ⟨sg, hsg⟩ : ∃ sg, decide (Q < 0) = sg := ⟨_, rfl⟩
  obtain ⟨s9, hs9⟩ : ∃ s9, decide (R < 0) = s9 := ⟨_, rfl⟩
  rw [hsg, hs9]
  have Hsg := Lib.hid hsg
  have Hs9 := Lib.hid hs9
  have tr := tr.grow g9
  have tq := tq.grow g9
  have TW := two_results (s := sg) (s' := s9) (p := p6) (k := k6) (c := c6) (p' := p9) (k' := k9) (c' := c9) tr tq
  have f0 := tr.f0 0
  have f1 := tr.f0 1
  have f2 := tq.f0 0
  have f3 := tq.f0 1
  have r0 := tr.load.1
  have r1 := tr.load.2
  have u0 := tq.load.1
  have u1 := tq.load.2
  clear G0 ta tb tr tq g9 hq hs hsg hs9
  go_wp2_with fail
  generalize (((w9.setCell _ _).setCell _ _).setCell _ _).setCell _ _ = W10 at TW ⊢
  obtain ⟨t1, t2, hkeep, hown⟩ := TW
  have x0 := t1.load.1
  have x1 := t1.load.2
  have y0 := t2.load.1
  have y1 := t2.load.2
  refine bodyPost_ret (v := .tuple #[.agg #[.bool sg, .slice p6 k6 c6], .agg #[.bool s9, .slice p9 k9 c9], .int .i64 0]) (by simp [results, Tryz.results80, go_sem, x0, x1, y0, y1]) rfl ?_
  refine ⟨_, rfl, Below.trans (HW.out.trans G9.out) (Below.mono hown (by omega)), _, _, rfl, ?_, ?_⟩
  · rw [IntC, Hsg.out]
    exact ⟨_, _, _, rfl, hkeep _ _ Hq.out⟩
  · rw [IntC, Hs9.out]
    exact ⟨_, _, _, rfl, hkeep _ _ Hs.out⟩

set_option maxHeartbeats 1600000 in
theorem int_Floor_zero (w : World) (va vb : Value) (n n' : Bool) (la lb : List Nat) (ha : IntL w va n la) (hb : IntL w vb n' lb) (h0 : nval lb = 0) :
    Calls Tryz.prog 49 #[va, vb] w (Ret w fun r w' => r = .tuple #[.agg #[.bool false, .slice none 0 0], .agg #[.bool false, .slice none 0 0], .int .i64 2]) := by
  have HA0 := Lib.hid ha
  have HB0 := Lib.hid hb
  have H0 := Lib.hid h0
  obtain ⟨pa, ka, ca, rfl, ha⟩ := ha
  obtain ⟨pb, kb, cb, rfl, hb⟩ := hb
  clear ha hb h0
  have B4 := boxed4 w (.bool n) (.slice pa ka ca) (.bool n') (.slice pb kb cb) (.bool false) (.slice none 0 0) (.bool false) (.slice none 0 0) 25 25 25 25
  go_enter Tryz.func49, Tryz.ntmps49
  go_wp2_with fail
  generalize (((w.alloc _).alloc _).alloc _).alloc _ = W at B4 ⊢
  obtain ⟨G0, ta, tb, tr, tq⟩ := B4
  have HW := Lib.hid G0
  refine (int_divide_zero _ _ _ n n' la lb _ (HA0.out.grow HW.out) (HB0.out.grow HW.out) H0.out).mono ?_
  rintro _ w9 ⟨_, rfl, g9, rfl⟩
  have G9 := Lib.hid g9
  have tr := tr.grow g9
  have tq := tq.grow g9
  have TW := two_results (s := false) (s' := false) (p := none) (k := 0) (c := 0) (p' := none) (k' := 0) (c' := 0) tr tq
  have f0 := tr.f0 0
  have f1 := tr.f0 1
  have f2 := tq.f0 0
  have f3 := tq.f0 1
  have r0 := tr.load.1
  have r1 := tr.load.2
  have u0 := tq.load.1
  have u1 := tq.load.2
  clear G0 ta tb tr tq g9
  go_wp2_with fail
  generalize (((w9.setCell _ _).setCell _ _).setCell _ _).setCell _ _ = W10 at TW ⊢
  obtain ⟨t1, t2, hkeep, hown⟩ := TW
  have x0 := t1.load.1
  have x1 := t1.load.2
  have y0 := t2.load.1
  have y1 := t2.load.2
  refine bodyPost_ret (v := .tuple #[.agg #[.bool false, .slice none 0 0], .agg #[.bool false, .slice none 0 0], .int .i64 2]) (by simp [results, Tryz.results49, go_sem, x0, x1, y0, y1]) rfl ?_
  exact ⟨_, rfl, Below.trans (HW.out.trans G9.out) (Below.mono hown (by omega)), rfl⟩

set_option maxHeartbeats 1600000 in
theorem int_Floor (w : World) (va vb : Value) (n n' : Bool) (la lb : List Nat) (x y Q R : Int) (hx : zval n la = x) (hy : zval n' lb = y) (hQ : quoZ true x y = Q) (hR : x - Q * y = R)
    (ha : IntL w va n la) (hb : IntL w vb n' lb) (hla : la.length ≤ 274877906944) (hlb : lb.length ≤ 274877906944) (h0 : y ≠ 0) :
    Calls Tryz.prog 49 #[va, vb] w (Ret w fun r w' => ∃ q s, r = .tuple #[q, s, .int .i64 0] ∧ IntC w' q Q ∧ IntC w' s R) := by
  have HA0 := Lib.hid ha
  have HB0 := Lib.hid hb
  have H0 := Lib.hid h0
  have Hx := Lib.hid hx
  have Hy := Lib.hid hy
  have HQ := Lib.hid hQ
  have HR := Lib.hid hR
  obtain ⟨pa, ka, ca, rfl, ha⟩ := ha
  obtain ⟨pb, kb, cb, rfl, hb⟩ := hb
  clear ha hb h0 hx hy hQ hR
  have B4 := boxed4 w (.bool n) (.slice pa ka ca) (.bool n') (.slice pb kb cb) (.bool false) (.slice none 0 0) (.bool false) (.slice none 0 0) 25 25 25 25
  go_enter Tryz.func49, Tryz.ntmps49
  go_wp2_with fail
  generalize (((w.alloc _).alloc _).alloc _).alloc _ = W at B4 ⊢
  obtain ⟨G0, ta, tb, tr, tq⟩ := B4
  have HW := Lib.hid G0
  refine (int_divide _ _ _ n n' la lb true 95 (.inr ⟨rfl, rfl⟩) x y Hx.out Hy.out (HA0.out.grow HW.out) (HB0.out.grow HW.out) hla hlb H0.out).mono ?_
  rintro _ w9 ⟨_, rfl, g9, q, s, rfl, hq, hs⟩
  rw [HQ.out] at hq hs
  rw [HR.out] at hs
  have G9 := Lib.hid g9
  obtain ⟨p6, k6, c6, rfl, hq⟩ := hq
  obtain ⟨p9, k9, c9, rfl, hs⟩ := hs
  have Hq := Lib.hid hq
  have Hs := Lib.hid hs
  obtain ⟨sg, hsg⟩ : ∃ sg, decide (Q < 0) = sg := ⟨_, rfl⟩
  obtain ⟨s9, hs9⟩ : ∃ s9, decide (R < 0) = s9 := ⟨_, rfl⟩
  rw [hsg, hs9]
  have Hsg := Lib.hid hsg
  have Hs9 := Lib.hid hs9
  have tr := tr.grow g9
  have tq := tq.grow g9
  have TW := two_results (s := sg) (s' := s9) (p := p6) (k := k6) (c := c6) (p' := p9) (k' := k9) (c' := c9) tr tq
  have f0 := tr.f0 0
  have f1 := tr.f0 1
  have f2 := tq.f0 0
  have f3 := tq.f0 1
  have r0 := tr.load.1
  have r1 := tr.load.2
  have u0 := tq.load.1
  have u1 := tq.load.2
  clear G0 ta tb tr tq g9 hq hs hsg hs9
  go_wp2_with fail
  generalize (((w9.setCell _ _).setCell _ _).setCell _ _).setCell _ _ = W10 at TW ⊢
  obtain ⟨t1, t2, hkeep, hown⟩ := TW
  have x0 := t1.load.1
  have x1 := t1.load.2
  have y0 := t2.load.1
  have y1 := t2.load.2
  refine bodyPost_ret (v := .tuple #[.agg #[.bool sg, .slice p6 k6 c6], .agg #[.bool s9, .slice p9 k9 c9], .int .i64 0]) (by simp [results, Tryz.results49, go_sem, x0, x1, y0, y1]) rfl ?_
  refine ⟨_, rfl, Below.trans (HW.out.trans G9.out) (Below.mono hown (by omega)), _, _, rfl, ?_, ?_⟩
  · rw [IntC, Hsg.out]
    exact ⟨_, _, _, rfl, hkeep _ _ Hq.out⟩
  · rw [IntC, Hs9.out]
    exact ⟨_, _, _, rfl, hkeep _ _ Hs.out⟩
end Go.Proofs.YtmcgkglmlfbijaaGreatDoor

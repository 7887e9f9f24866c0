/-
  The reference's integers, continued.
-/
import Derived.Test.YtmcgkglmlfbijaaDoorIntC
namespace Go.Proofs.YtmcgkglmlfbijaaDoor
open Go.RowKit
set_option linter.unusedVariables false
set_option linter.unusedSimpArgs false

theorem IntC.len {w : World} {v : Value} {z : Int} (h : IntC w v z) : Dig (digs z.natAbs) := Dig.digs _

set_option maxHeartbeats 800000 in
theorem ref2_Fix (w : World) (va : Value) (n : Bool) (la : List Nat) (z : Int) (hz : zval n la = z) (ha : IntL w va n la) (hla : la.length ≤ 1099511627776) :
    Calls Tryd.prog 26 #[va] w (Ret w fun r w' => IntC w' r z) := by
  have Hz := Lib.hid hz
  clear hz
  obtain ⟨pa, ka, ca, rfl, ha⟩ := ha
  have HA := Lib.hid ha
  clear ha
  obtain ⟨G0, ta, tr⟩ := boxed2 w (.bool n) (.slice pa ka ca) (.bool false) (.slice none 0 0) 25 25
  have HW := Lib.hid G0
  have HR := Lib.hid tr
  clear G0 ta tr
  go_enter Tryd.func26, Tryd.ntmps26
  go_wp2_with fail
  refine (ref2_build _ n _ la z Hz.out (HA.out.grow HW.out) (by omega)).mono ?_
  rintro _ w3 ⟨r3, rfl, g3, hr3⟩
  obtain ⟨p3, k3, c3, rfl, hr3⟩ := hr3
  obtain ⟨sg, hsg⟩ : ∃ sg, sg = decide (z < 0) := ⟨_, rfl⟩
  rw [← hsg]
  have Hsg := Lib.hid hsg
  have G3 := Lib.hid g3
  have Hr3 := Lib.hid hr3
  have HR3 := Lib.hid (HR.out.grow G3.out)
  have r0 := HR3.out.load.1
  have r1 := HR3.out.load.2
  have f0 := HR3.out.f0 0
  have f1 := HR3.out.f0 1
  clear g3 hr3 hsg
  go_wp2_with fail
  refine bodyPost_ret (v := .agg #[.bool sg, .slice p3 k3 c3]) (by simp [results, Tryd.results26, go_sem, r0, r1]) rfl ?_
  exact ret_box (by omega) (HW.out.trans G3.out) HR3.out Hr3.out Hsg.out

set_option maxHeartbeats 800000 in
theorem ref2_Neg (w : World) (va : Value) (n : Bool) (la : List Nat) (z : Int) (hz : - zval n la = z) (ha : IntL w va n la) (hla : la.length ≤ 1099511627776) :
    Calls Tryd.prog 17 #[va] w (Ret w fun r w' => IntC w' r z) := by
  have Hz := Lib.hid (show zval (!n) la = z by rw [← hz]; unfold zval; rcases n with _ | _ <;> simp)
  clear hz
  obtain ⟨pa, ka, ca, rfl, ha⟩ := ha
  have HA := Lib.hid ha
  clear ha
  obtain ⟨G0, ta, tr⟩ := boxed2 w (.bool n) (.slice pa ka ca) (.bool false) (.slice none 0 0) 25 25
  have HW := Lib.hid G0
  have HR := Lib.hid tr
  clear G0 ta tr
  go_enter Tryd.func17, Tryd.ntmps17
  go_wp2_with fail
  refine (ref2_build _ (!n) _ la z Hz.out (HA.out.grow HW.out) (by omega)).mono ?_
  rintro _ w3 ⟨r3, rfl, g3, hr3⟩
  obtain ⟨p3, k3, c3, rfl, hr3⟩ := hr3
  obtain ⟨sg, hsg⟩ : ∃ sg, sg = decide (z < 0) := ⟨_, rfl⟩
  rw [← hsg]
  have Hsg := Lib.hid hsg
  have G3 := Lib.hid g3
  have Hr3 := Lib.hid hr3
  have HR3 := Lib.hid (HR.out.grow G3.out)
  have r0 := HR3.out.load.1
  have r1 := HR3.out.load.2
  have f0 := HR3.out.f0 0
  have f1 := HR3.out.f0 1
  clear g3 hr3 hsg
  go_wp2_with fail
  refine bodyPost_ret (v := .agg #[.bool sg, .slice p3 k3 c3]) (by simp [results, Tryd.results17, go_sem, r0, r1]) rfl ?_
  exact ret_box (by omega) (HW.out.trans G3.out) HR3.out Hr3.out Hsg.out

set_option maxHeartbeats 800000 in
theorem ref2_Same (w : World) (va vb : Value) (n n' : Bool) (la lb : List Nat) (t : Bool) (ht : (n == n' && decide (la = lb)) = t) (ha : IntL w va n la) (hb : IntL w vb n' lb) :
    Calls Tryd.prog 12 #[va, vb] w (Ret w fun r w' => r = .bool t) := by
  obtain ⟨pa, ka, ca, rfl, ha⟩ := ha
  obtain ⟨pb, kb, cb, rfl, hb⟩ := hb
  have HA := Lib.hid ha
  have HB := Lib.hid hb
  clear ha hb
  obtain ⟨G0, -⟩ := boxed2 w (.bool n) (.slice pa ka ca) (.bool n') (.slice pb kb cb) 25 25
  have HG := Lib.hid G0
  clear G0
  by_cases hn : n = n'
  · subst hn
    obtain rfl : decide (la = lb) = t := by rw [← ht]; simp
    clear ht
    go_enter Tryd.func12, Tryd.ntmps12
    go_wp2_with fail
    refine (ref_Same _ _ _ la lb (HA.out.grow HG.out) (HB.out.grow HG.out)).mono ?_
    rintro _ w2 ⟨_, rfl, g2, rfl⟩
    have G2 := Lib.hid g2
    clear g2
    obtain ⟨tt, htt⟩ : ∃ tt, decide (la = lb) = tt := ⟨_, rfl⟩
    rw [htt]
    have Htt := Lib.hid htt
    clear htt
    go_wp2_with fail
    go_ret
    exact ⟨_, rfl, HG.out.trans G2.out, by rw [Htt.out]; rfl⟩
  · have hnn : (n == n') = false := by simpa using hn
    obtain rfl : false = t := by rw [← ht, hnn]; rfl
    clear ht hn
    go_enter Tryd.func12, Tryd.ntmps12
    go_wp2_with fail
    go_ret
    exact ⟨_, rfl, HG.out, rfl⟩

set_option maxHeartbeats 800000 in
theorem ref2_Valid (w : World) (va : Value) (n : Bool) (la : List Nat) (t : Bool) (ht : (decide (trimL la = la) && !(n && la.isEmpty)) = t) (ha : IntL w va n la) (hla : la.length ≤ 17592186044416) :
    Calls Tryd.prog 11 #[va] w (Ret w fun r w' => r = .bool t) := by
  obtain ⟨pa, ka, ca, rfl, ha⟩ := ha
  have HA := Lib.hid ha
  have hk := ha.len
  obtain ⟨G0, -⟩ := boxed1 w (.bool n) (.slice pa ka ca) 25
  have HG := Lib.hid G0
  clear G0 ha
  obtain ⟨tt, htt⟩ : ∃ tt, decide (trimL la = la) = tt := ⟨_, rfl⟩
  rw [htt] at ht
  have Htt := Lib.hid htt
  have hke : la.isEmpty = ((ka : Int) == 0) := by
    rw [← hk]
    cases la with
    | nil => rfl
    | cons x l => simp; omega
  rw [hke] at ht
  have Hht := Lib.hid ht
  clear htt hk hke ht
  rcases tt with _ | _
  · go_enter Tryd.func11, Tryd.ntmps11
    go_wp2_with fail
    refine (ref_Valid _ _ la (HA.out.grow HG.out) hla).mono ?_
    rintro _ _ ⟨rfl, rfl⟩
    rw [Htt.out]
    go_wp2_with fail
    go_ret
    exact ⟨_, rfl, HG.out, by rw [← Hht.out]; rfl⟩
  · rcases n with _ | _
    · go_enter Tryd.func11, Tryd.ntmps11
      go_wp2_with fail
      refine (ref_Valid _ _ la (HA.out.grow HG.out) hla).mono ?_
      rintro _ _ ⟨rfl, rfl⟩
      rw [Htt.out]
      go_wp2_with fail
      go_ret
      exact ⟨_, rfl, HG.out, by rw [← Hht.out]; rfl⟩
    · go_enter Tryd.func11, Tryd.ntmps11
      go_wp2_with fail
      refine (ref_Valid _ _ la (HA.out.grow HG.out) hla).mono ?_
      rintro _ _ ⟨rfl, rfl⟩
      rw [Htt.out]
      go_wp2_with fail
      go_ret
      exact ⟨_, rfl, HG.out, by rw [← Hht.out]; simp⟩

/-- two boxes written anew, one after the other; u, u' are booleans, v, v' slices -/
theorem twice {w : World} {B : Nat} {n n' sr s s' : Bool} {pa pb pr p p' : Option Addr} {ka ca kb cb kr cr k c k' c' : Nat}
    (ta : Two w B (.bool n) (.slice pa ka ca)) (tb : Two w (B + 1) (.bool n') (.slice pb kb cb)) (tr : Two w (B + 1 + 1) (.bool sr) (.slice pr kr cr)) :
    Two ((((w.setCell ⟨B, 0, none⟩ (.bool s)).setCell ⟨B, 1, none⟩ (.slice p k c)).setCell ⟨B + 1, 0, none⟩ (.bool s')).setCell ⟨B + 1, 1, none⟩ (.slice p' k' c')) B (.bool s) (.slice p k c) ∧
    Two ((((w.setCell ⟨B, 0, none⟩ (.bool s)).setCell ⟨B, 1, none⟩ (.slice p k c)).setCell ⟨B + 1, 0, none⟩ (.bool s')).setCell ⟨B + 1, 1, none⟩ (.slice p' k' c')) (B + 1) (.bool s') (.slice p' k' c') ∧
    Two ((((w.setCell ⟨B, 0, none⟩ (.bool s)).setCell ⟨B, 1, none⟩ (.slice p k c)).setCell ⟨B + 1, 0, none⟩ (.bool s')).setCell ⟨B + 1, 1, none⟩ (.slice p' k' c')) (B + 1 + 1) (.bool sr) (.slice pr kr cr) ∧
    (∀ v l, NatL w v l → NatL ((((w.setCell ⟨B, 0, none⟩ (.bool s)).setCell ⟨B, 1, none⟩ (.slice p k c)).setCell ⟨B + 1, 0, none⟩ (.bool s')).setCell ⟨B + 1, 1, none⟩ (.slice p' k' c')) v l) ∧
    Own B w ((((w.setCell ⟨B, 0, none⟩ (.bool s)).setCell ⟨B, 1, none⟩ (.slice p k c)).setCell ⟨B + 1, 0, none⟩ (.bool s')).setCell ⟨B + 1, 1, none⟩ (.slice p' k' c')) := by
  have ta1 := ta.set (.bool s) (.slice p k c)
  have tb1 := tb.other (b' := B) (by omega) (.bool s) (.slice p k c)
  have tr1 := tr.other (b' := B) (by omega) (.bool s) (.slice p k c)
  refine ⟨ta1.other (by omega) _ _, tb1.set _ _, tr1.other (by omega) _ _, fun v l h => (h.keepBox ta _ _).keepBox tb1 _ _, (setTwo_own B w (Nat.le_refl _) _ _).trans (setTwo_own B _ (by omega) _ _)⟩

set_option maxHeartbeats 800000 in
theorem ref2_Sign (w : World) (va : Value) (n : Bool) (la : List Nat) (z : Int) (hz : sgn (zval n la) = z) (ha : IntL w va n la) (hla : la.length ≤ 1099511627776) :
    Calls Tryd.prog 15 #[va] w (Ret w fun r w' => r = .int .i64 z) := by
  have HA0 := Lib.hid ha
  obtain ⟨pa, ka, ca, rfl, ha⟩ := ha
  clear ha
  obtain ⟨G0, ta⟩ := boxed1 w (.bool n) (.slice pa ka ca) 25
  have HG := Lib.hid G0
  have HT := Lib.hid ta
  have Hz := Lib.hid hz
  clear G0 hz ta
  go_enter Tryd.func15, Tryd.ntmps15
  go_wp2_with fail
  refine (ref2_Fix _ _ n la _ rfl (HA0.out.grow HG.out) hla).mono ?_
  rintro _ w3 ⟨r3, rfl, g3, hr3⟩
  obtain ⟨p3, k3, c3, rfl, hr3⟩ := hr3
  have G3 := Lib.hid g3
  have hk := hr3.len
  have HR3 := Lib.hid (HT.out.grow G3.out)
  have r0 := HR3.out.load.1
  have r1 := HR3.out.load.2
  have f0 := HR3.out.f0 0
  have f1 := HR3.out.f0 1
  obtain ⟨y, hy⟩ : ∃ y, zval n la = y := ⟨_, rfl⟩
  rw [hy] at hk ⊢
  have Hy := Lib.hid (show sgn y = z by rw [← hy]; exact Hz.out)
  have ho := Lib.hid (setTwo_own w.heap.size w3 (Nat.le_refl w.heap.size) (.bool (decide (y < 0))) (.slice p3 k3 c3))
  clear g3 hr3 hy
  rcases Int.lt_trichotomy y 0 with h | h | h
  · have hk0 : k3 ≠ 0 := by
      rw [← hk]; intro e
      have := digs_eq_nil.1 (List.eq_nil_of_length_eq_zero e); omega
    have t1 : ((k3 : Int) == 0) = false := by simpa using hk0
    have hs : decide (y < 0) = true := by simpa using h
    rw [hs] at ho ⊢
    have hz1 := Lib.hid (show z = -1 by rw [← Hy.out]; unfold sgn; rw [if_pos h])
    clear hk hs h hk0
    go_wp2_with fail
    go_ret
    exact ⟨_, rfl, Below.trans (HG.out.trans G3.out) ho.out, by rw [hz1.out]; rfl⟩
  · have hk0 : k3 = 0 := by rw [← hk, h]; simp [digs_zero]
    have hs : decide (y < 0) = false := by simp; omega
    rw [hs] at ho ⊢
    have hz1 := Lib.hid (show z = 0 by rw [← Hy.out]; unfold sgn; rw [if_neg (by omega), if_pos h])
    subst hk0
    clear hk hs h
    go_wp2_with fail
    go_ret
    exact ⟨_, rfl, Below.trans (HG.out.trans G3.out) ho.out, by rw [hz1.out]; rfl⟩
  · have hk0 : k3 ≠ 0 := by
      rw [← hk]; intro e
      have := digs_eq_nil.1 (List.eq_nil_of_length_eq_zero e); omega
    have t1 : ((k3 : Int) == 0) = false := by simpa using hk0
    have hs : decide (y < 0) = false := by simp; omega
    rw [hs] at ho ⊢
    have hz1 := Lib.hid (show z = 1 by rw [← Hy.out]; unfold sgn; rw [if_neg (by omega), if_neg (by omega)])
    clear hk hs h hk0
    go_wp2_with fail
    go_ret
    exact ⟨_, rfl, Below.trans (HG.out.trans G3.out) ho.out, by rw [hz1.out]; rfl⟩

theorem absmul (a b : Int) : (if ((decide (a < 0)) != (decide (b < 0))) then -((a.natAbs * b.natAbs : Nat) : Int) else ((a.natAbs * b.natAbs : Nat) : Int)) = a * b := by
  have := zval_mul (decide (a < 0)) (decide (b < 0)) (digs a.natAbs) (digs b.natAbs)
  rw [zval_digs, zval_digs, nval_digs, nval_digs] at this
  exact this

end Go.Proofs.YtmcgkglmlfbijaaDoor

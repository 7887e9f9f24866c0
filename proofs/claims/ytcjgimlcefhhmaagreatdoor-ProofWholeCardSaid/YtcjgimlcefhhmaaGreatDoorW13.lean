/- Texts: IntH IntI Law LawA LawB LawC NatA NumF NumG NatB IntJ NumJ IntK. -/
import Derived.Deep.RegionWith
import Derived.Laws.EntriesVeiled
import Derived.Test.YtcjgimlcefhhmaaGreatDoorW1
import Derived.Test.YtcjgimlcefhhmaaGreatDoorW10
import Derived.Test.YtcjgimlcefhhmaaGreatDoorW11
import Derived.Test.YtcjgimlcefhhmaaGreatDoorW12
set_option linter.unusedVariables false
set_option linter.unusedSimpArgs false
set_option maxRecDepth 100000
set_option maxHeartbeats 12800000
namespace Go.Proofs.YtcjgimlcefhhmaaGreatDoor
open Go.RowKit
theorem ξbS (w : World) (va vb : Value) (n n' : Bool) (la lb : List Nat) (x y Q R : Int) (hx : zval n la = x) (hy : zval n' lb = y) (hQ : quoZ false x y = Q) (hR : x - Q * y = R)
  (ha : IntL w va n la) (hb : IntL w vb n' lb) (hla : la.length ≤ 274877906944) (hlb : lb.length ≤ 274877906944) (h0 : y ≠ 0) :
  Calls Tryz.prog 203 #[va, vb] w (Ret w fun r w' => ∃ q s, r = .tuple #[q, s, .int .i64 0] ∧ IntC w' q Q ∧ IntC w' s R) := by
 have HA0 := ξ ha
 have HB0 := ξ hb
 have H0 := ξ h0
 have Hx := ξ hx
 have Hy := ξ hy
 have HQ := ξ hQ
 have HR := ξ hR
 obtain ⟨pa, ka, ca, rfl, ha⟩ := ha
 obtain ⟨pb, kb, cb, rfl, hb⟩ := hb
 clear ha hb h0 hx hy hQ hR
 have B4 := boxed4 w (.bool n) (.slice pa ka ca) (.bool n') (.slice pb kb cb) (.bool false) (.slice none 0 0) (.bool false) (.slice none 0 0) 66 66 66 66
 go_enter Tryz.func203, Tryz.ntmps203
 go_wp2_with fail
 generalize (((w.alloc _).alloc _).alloc _).alloc _ = W at B4 ⊢
 obtain ⟨G0, ta, tb, tr, tq⟩ := B4
 have HW := ξ G0
 refine (ξ4N _ _ _ n n' la lb false 248 (.inl ⟨rfl, rfl⟩) x y Hx.out Hy.out (HA0.out.grow HW.out) (HB0.out.grow HW.out) hla hlb H0.out).mono ?_
 rintro _ w9 ⟨_, rfl, g9, q, s, rfl, hq, hs⟩
 rw [HQ.out] at hq hs
 rw [HR.out] at hs
 have G9 := ξ g9
 obtain ⟨p6, k6, c6, rfl, hq⟩ := hq
 obtain ⟨p9, k9, c9, rfl, hs⟩ := hs
 have Hq := ξ hq
 have Hs := ξ hs
 obtain ⟨sg, hsg⟩ : ∃ sg, decide (Q < 0) = sg := ⟨_, rfl⟩
 obtain ⟨s9, hs9⟩ : ∃ s9, decide (R < 0) = s9 := ⟨_, rfl⟩
 rw [hsg, hs9]
 have Hsg := ξ hsg
 have Hs9 := ξ hs9
 have tr := tr.grow g9
 have tq := tq.grow g9
 have TW := ξ22 (s := sg) (s' := s9) (p := p6) (k := k6) (c := c6) (p' := p9) (k' := k9) (c' := c9) tr tq
 have f0 := tr.f0 0
 have f1 := tr.f0 1
 have f2 := tq.f0 0
 have f3 := tq.f0 1
 have r0 := tr.load.1
 have r1 := tr.load.2
 have u0 := tq.load.1
 have u1 := tq.load.2
 clear G0 ta tb tr tq g9 hq hs hsg hs9
 go_wp2_with fail
 generalize (((w9.setCell _ _).setCell _ _).setCell _ _).setCell _ _ = W10 at TW ⊢
 obtain ⟨t1, t2, hkeep, hown⟩ := TW
 have x0 := t1.load.1
 have x1 := t1.load.2
 have y0 := t2.load.1
 have y1 := t2.load.2
 refine bodyPost_ret (v := .tuple #[.agg #[.bool sg, .slice p6 k6 c6], .agg #[.bool s9, .slice p9 k9 c9], .int .i64 0]) (by simp [results, Tryz.results203, go_sem, x0, x1, y0, y1]) rfl ?_
 refine ⟨_, rfl, Below.trans (HW.out.trans G9.out) (Below.mono hown (by omega)), _, _, rfl, ?_, ?_⟩
 ·rw [IntC, Hsg.out]
  exact ⟨_, _, _, rfl, hkeep _ _ Hq.out⟩
 ·rw [IntC, Hs9.out]
  exact ⟨_, _, _, rfl, hkeep _ _ Hs.out⟩
theorem ξ9H (w : World) (va vb : Value) (n n' : Bool) (la lb : List Nat) (x y Q R : Int) (hx : zval n la = x) (hy : zval n' lb = y) (hQ : quoZ true x y = Q) (hR : x - Q * y = R)
  (ha : IntL w va n la) (hb : IntL w vb n' lb) (hla : la.length ≤ 274877906944) (hlb : lb.length ≤ 274877906944) (h0 : y ≠ 0) :
  Calls Tryz.prog 286 #[va, vb] w (Ret w fun r w' => ∃ q s, r = .tuple #[q, s, .int .i64 0] ∧ IntC w' q Q ∧ IntC w' s R) := by
 have HA0 := ξ ha
 have HB0 := ξ hb
 have H0 := ξ h0
 have Hx := ξ hx
 have Hy := ξ hy
 have HQ := ξ hQ
 have HR := ξ hR
 obtain ⟨pa, ka, ca, rfl, ha⟩ := ha
 obtain ⟨pb, kb, cb, rfl, hb⟩ := hb
 clear ha hb h0 hx hy hQ hR
 have B4 := boxed4 w (.bool n) (.slice pa ka ca) (.bool n') (.slice pb kb cb) (.bool false) (.slice none 0 0) (.bool false) (.slice none 0 0) 66 66 66 66
 go_enter Tryz.func286, Tryz.ntmps286
 go_wp2_with fail
 generalize (((w.alloc _).alloc _).alloc _).alloc _ = W at B4 ⊢
 obtain ⟨G0, ta, tb, tr, tq⟩ := B4
 have HW := ξ G0
 refine (ξ4N _ _ _ n n' la lb true 293 (.inr ⟨rfl, rfl⟩) x y Hx.out Hy.out (HA0.out.grow HW.out) (HB0.out.grow HW.out) hla hlb H0.out).mono ?_
 rintro _ w9 ⟨_, rfl, g9, q, s, rfl, hq, hs⟩
 rw [HQ.out] at hq hs
 rw [HR.out] at hs
 have G9 := ξ g9
 obtain ⟨p6, k6, c6, rfl, hq⟩ := hq
 obtain ⟨p9, k9, c9, rfl, hs⟩ := hs
 have Hq := ξ hq
 have Hs := ξ hs
 obtain ⟨sg, hsg⟩ : ∃ sg, decide (Q < 0) = sg := ⟨_, rfl⟩
 obtain ⟨s9, hs9⟩ : ∃ s9, decide (R < 0) = s9 := ⟨_, rfl⟩
 rw [hsg, hs9]
 have Hsg := ξ hsg
 have Hs9 := ξ hs9
 have tr := tr.grow g9
 have tq := tq.grow g9
 have TW := ξ22 (s := sg) (s' := s9) (p := p6) (k := k6) (c := c6) (p' := p9) (k' := k9) (c' := c9) tr tq
 have f0 := tr.f0 0
 have f1 := tr.f0 1
 have f2 := tq.f0 0
 have f3 := tq.f0 1
 have r0 := tr.load.1
 have r1 := tr.load.2
 have u0 := tq.load.1
 have u1 := tq.load.2
 clear G0 ta tb tr tq g9 hq hs hsg hs9
 go_wp2_with fail
 generalize (((w9.setCell _ _).setCell _ _).setCell _ _).setCell _ _ = W10 at TW ⊢
 obtain ⟨t1, t2, hkeep, hown⟩ := TW
 have x0 := t1.load.1
 have x1 := t1.load.2
 have y0 := t2.load.1
 have y1 := t2.load.2
 refine bodyPost_ret (v := .tuple #[.agg #[.bool sg, .slice p6 k6 c6], .agg #[.bool s9, .slice p9 k9 c9], .int .i64 0]) (by simp [results, Tryz.results286, go_sem, x0, x1, y0, y1]) rfl ?_
 refine ⟨_, rfl, Below.trans (HW.out.trans G9.out) (Below.mono hown (by omega)), _, _, rfl, ?_, ?_⟩
 ·rw [IntC, Hsg.out]
  exact ⟨_, _, _, rfl, hkeep _ _ Hq.out⟩
 ·rw [IntC, Hs9.out]
  exact ⟨_, _, _, rfl, hkeep _ _ Hs.out⟩
theorem ξa0 {m : List Nat} (h : m.length ≤ 2) : gd m 1 * BB + gd m 0 = nval m := by
 match m, h with
 | [], _ => rfl
 | [a], _ => simp [gd, nval]
 | [a, b], _ => simp [gd, nval]; rw [Nat.mul_comm]; omega
theorem ξ4y (w : World) (v : Value) (l : List Nat) (t : Bool) (h : NatL w v l) (ht : decide ((digs (nval l)).length ≤ 2) = t) :
  Calls Tryz.prog 273 #[v] w fun e w' => e = .returned (.tuple #[.int .u64 (if t then nval l else 0), .bool t]) ∧ w = w' := by
 have HA := ξ h
 have HT := ξ ht
 clear h ht
 go_enter Tryz.func273, Tryz.ntmps273
 go_wp2_with fail
 refine (ξ09 _ v l HA.out).mono ?_
 rintro _ _ ⟨⟨p, k, rfl, hm⟩, rfl⟩
 have hk := hm.len
 obtain ⟨m, hmm⟩ : ∃ m, trimL l = m := ⟨_, rfl⟩
 rw [hmm] at hm hk
 have hm2 : digs (nval l) = m := by rw [← ξ0S]; exact hmm
 have hv : nval m = nval l := by rw [← hm2, ξ4]
 have HM := ξ hm
 have HV := ξ hv
 have HT2 := ξ (show decide (m.length ≤ 2) = t by rw [← hm2]; exact HT.out)
 have Hk := ξ hk
 clear hm hv hm2 hmm hk
 obtain ⟨j, rfl⟩ : ∃ j : Nat, k = j := ⟨k, rfl⟩
 by_cases hj : k ≤ 2
 ·have h2 : t = true := by rw [← HT2.out]; exact decide_eq_true (by rw [Hk.out]; exact hj)
  subst h2
  have g1 := HM.out.dig.gd 1
  have g0 := HM.out.dig.gd 0
  have hor := ξ1h g1 g0
  rw [ξa0 (by rw [Hk.out]; exact hj), HV.out] at hor
  rw [ξ5] at g0 g1
  go_wp2_with fail
  refine (ξ0c _ _ m 1 HM.out (by decide)).mono ?_
  rintro _ _ ⟨rfl, rfl⟩
  go_wp2_with fail
  refine (ξ0c _ _ m 0 HM.out (by decide)).mono ?_
  rintro _ _ ⟨rfl, rfl⟩
  go_wp2_with fail
  go_ret2
  exact ⟨by simp, rfl⟩
 ·have h2 : t = false := by rw [← HT2.out]; exact decide_eq_false (by rw [Hk.out]; exact hj)
  subst h2
  go_wp2_with fail
  go_ret2
  exact ⟨by simp, rfl⟩
theorem ξ1o {v : Nat} : (digs v).length ≤ 2 ↔ v < 18446744073709551616 := by
 have e : BB ^ 2 = 18446744073709551616 := by decide
 rw [← e]
 exact ⟨ξc, ξh⟩
def fits (z : Int) : Bool := decide (-9223372036854775808 ≤ z ∧ z < 9223372036854775808)
theorem ξad {u : Int} (h0 : 0 ≤ u) (h : u ≤ 9223372036854775808) : wrap64 (IntKind.u64.wrap (-u)) = -u := by
 rw [IntKind.wrap_u64]; unfold wrap64; omega
theorem ξa3 (w : World) (va : Value) (n : Bool) (la : List Nat) (z : Int) (t : Bool) (hz : zval n la = z) (ht : fits z = t) (ha : IntL w va n la) :
  Calls Tryz.prog 292 #[va] w (Ret w fun r _ => r = .tuple #[.int .i64 (if t then z else 0), .bool t]) := by
 obtain ⟨pa, ka, ca, rfl, ha⟩ := ha
 have HA := ξ ha
 have HZ := ξ hz
 have HT := ξ ht
 have B := boxed1 w (.bool n) (.slice pa ka ca) 66
 clear ha hz ht
 go_enter Tryz.func292, Tryz.ntmps292
 go_wp2_with fail
 generalize w.alloc _ = W at B ⊢
 obtain ⟨G0, ta⟩ := B
 generalize w.heap.size = b0 at ta ⊢
 have HW := ξ G0
 have T0 := ξ ta
 have c0 := ta.c0 W (Gr.refl _)
 have c1 := ta.c1 W (Gr.refl _)
 clear ta G0
 go_wp2_with fail
 obtain ⟨s, hs⟩ : ∃ s, decide ((digs (nval la)).length ≤ 2) = s := ⟨_, rfl⟩
 have HS := ξ hs
 refine (ξ4y _ _ la s (HA.out.grow HW.out) hs).mono ?_
 rintro _ _ ⟨rfl, rfl⟩
 clear hs
 have hz := HZ.out
 unfold zval at hz
 have hs := HS.out
 cases s
 ·have h2 : ¬ nval la < 18446744073709551616 := by
   rw [← ξ1o]; exact of_decide_eq_false hs
  have ht : t = false := by
   rw [← HT.out]
   unfold fits
   refine decide_eq_false ?_
   cases n <;> simp at hz <;> omega
  subst ht
  clear hz hs h2
  go_wp2_with fail
  go_ret2
  exact ⟨_, rfl, HW.out, by simp⟩
 ·have h2 : nval la < 18446744073709551616 := by
   rw [← ξ1o]; exact of_decide_eq_true hs
  clear hs
  obtain ⟨u, hu⟩ : ∃ u : Int, ((nval la : Nat) : Int) = u := ⟨_, rfl⟩
  have h0 : 0 ≤ u := by omega
  have h2 : u < 18446744073709551616 := by omega
  simp only [hu, if_true] at hz ⊢
  clear hu
  cases n
  ·simp only [Bool.false_eq_true, if_false] at hz
   by_cases h3 : u < 9223372036854775808
   ·have ht : t = true := by rw [← HT.out]; unfold fits; exact decide_eq_true (by omega)
    subst ht
    subst hz
    go_wp2_with fail
    go_ret2
    exact ⟨_, rfl, HW.out, by simp⟩
   ·have ht : t = false := by rw [← HT.out]; unfold fits; exact decide_eq_false (by omega)
    subst ht
    subst hz
    go_wp2_with fail
    go_ret2
    exact ⟨_, rfl, HW.out, by simp⟩
  ·simp only [if_true] at hz
   by_cases h3 : u ≤ 9223372036854775808
   ·have ht : t = true := by rw [← HT.out]; unfold fits; exact decide_eq_true (by omega)
    subst ht
    subst hz
    have E := ξad h0 h3
    go_wp2_with fail
    go_ret2
    exact ⟨_, rfl, HW.out, by simp [E]⟩
   ·have ht : t = false := by rw [← HT.out]; unfold fits; exact decide_eq_false (by omega)
    subst ht
    subst hz
    go_wp2_with fail
    go_ret2
    exact ⟨_, rfl, HW.out, by simp⟩
theorem IntC.same {x z : Int} : (decide (x < 0) == decide (z < 0) && decide (digs x.natAbs = digs z.natAbs)) = decide (x = z) := by
 by_cases h : x = z
 ·subst h; simp
 ·rw [decide_eq_false h]
  by_cases h2 : digs x.natAbs = digs z.natAbs
  ·have := ξb2 h2
   have h3 : decide (x < 0) ≠ decide (z < 0) := by
    intro e
    have : (x < 0) ↔ (z < 0) := by simpa using e
    omega
   simp [h3]
  ·simp [h2]
theorem ξaB (z : Int) : zval (decide (z < 0)) (digs z.natAbs) = z := by
 unfold zval
 rw [ξ4]
 split <;> rename_i h <;> simp at h <;> omega
def zcI : TypeId → Array Value := fun _ => #[.bool false, .slice none 0 0]
theorem ξo.two {T : TypeId} {b : Nat} {w : World} (h : ξo (zcI T) T b w) : Two w b (.bool false) (.slice none 0 0) := ⟨T, h⟩
theorem allocI : ξ3d Tryz.prog 66 (zcI 66) := fun w => by
 simp [go_sem]
 rfl
theorem Gr.two {a w : World} (g : Gr a w) {b : Nat} (hb : ¬ b < a.heap.size) (u v : Value) : Gr a ((w.setCell ⟨b, 0, none⟩ u).setCell ⟨b, 1, none⟩ v) :=
 Below.setCell (Below.setCell g (by show a.heap.size ≤ b; omega) u) (by show a.heap.size ≤ b; omega) v
theorem IntC.keepBox {w : World} {v : Value} {z : Int} {b : Nat} {s : Bool} {p : Option Addr} {k c : Nat} (h : IntC w v z) (t : Two w b (.bool s) (.slice p k c)) (x y : Value) : IntC ((w.setCell ⟨b, 0, none⟩ x).setCell ⟨b, 1, none⟩ y) v z := by
 obtain ⟨p', k', c', rfl, h⟩ := h
 exact ⟨p', k', c', rfl, h.keepBox t x y⟩
def IntV (w : World) (v : Value) (x : Int) (L : Nat) : Prop := ∃ n l, IntL w v n l ∧ zval n l = x ∧ l.length ≤ L
theorem IntV.grow {w w' : World} {v : Value} {x : Int} {L : Nat} (h : IntV w v x L) (g : Gr w w') : IntV w' v x L := by
 obtain ⟨n, l, h1, h2⟩ := h; exact ⟨n, l, h1.grow g, h2⟩
theorem IntV.len {w : World} {v : Value} {x : Int} {L : Nat} (h : IntV w v x L) : (digs x.natAbs).length ≤ L := by
 obtain ⟨n, l, h1, rfl, h3⟩ := h
 rw [ξ11]
 exact Nat.le_trans (ξm h1.dig) h3
theorem IntC.v {w : World} {v : Value} {x : Int} {L : Nat} (h : IntC w v x) (hL : (digs x.natAbs).length ≤ L) : IntV w v x L := ⟨_, _, h, ξ16 x, hL⟩
theorem ξbs {x y : Int} {L M : Nat} (hx : (digs x.natAbs).length ≤ L) (hy : (digs y.natAbs).length ≤ M) : (digs (x + y).natAbs).length ≤ L + M + 1 := by
 refine Nat.le_trans (ξl (b := x.natAbs + y.natAbs) (by omega)) ?_
 exact ξ0A (k := L + M) (by omega) (by omega)
theorem ξbm {x y : Int} {L M : Nat} (hx : (digs x.natAbs).length ≤ L) (hy : (digs y.natAbs).length ≤ M) : (digs (x * y).natAbs).length ≤ L + M + 1 := by
 rw [Int.natAbs_mul]
 exact Nat.le_succ_of_le (ξ1L hx hy)
def ResV (w : World) (v : Value) (x : Int) (L : Nat) : Prop := IntC w v x ∧ IntV w v x L
theorem ResV.grow {w w' : World} {v : Value} {x : Int} {L : Nat} (h : ResV w v x L) (g : Gr w w') : ResV w' v x L := ⟨h.1.grow g, h.2.grow g⟩
theorem v_of {P : Program} {f : FuncId} {args : Array Value} {w : World} {z : Int} {L : Nat} (hL : (digs z.natAbs).length ≤ L) (h : Calls P f args w (Ret w fun r w' => IntC w' r z)) :
  Calls P f args w (Ret w fun r w' => ResV w' r z L) :=
 h.mono fun e w' ⟨v, he, hg, hv⟩ => ⟨v, he, hg, hv, hv.v hL⟩
theorem ξ8p (w : World) (va vb : Value) (x y z : Int) (L M : Nat) (hx : IntV w va x L) (hy : IntV w vb y M) (hz : x + y = z) (hL : L ≤ 1000000) (hM : M ≤ 1000000) :
  Calls Tryz.prog 199 #[va, vb] w (Ret w fun r w' => ResV w' r z (L + M + 1)) := by
 have h := ξbs hx.len hy.len
 rw [hz] at h
 refine v_of h ?_
 obtain ⟨n, l, h1, rfl, h3⟩ := hx
 obtain ⟨n', l', k1, rfl, k3⟩ := hy
 exact ξ8f w va vb n n' l l' z hz h1 k1 (by omega) (by omega)
theorem ξ2U (w : World) (va vb : Value) (x y z : Int) (L M : Nat) (hx : IntV w va x L) (hy : IntV w vb y M) (hz : x * y = z) (hL : L ≤ 1000000) (hM : M ≤ 1000000) :
  Calls Tryz.prog 131 #[va, vb] w (Ret w fun r w' => ResV w' r z (L + M + 1)) := by
 have h := ξbm hx.len hy.len
 rw [hz] at h
 refine v_of h ?_
 obtain ⟨n, l, h1, rfl, h3⟩ := hx
 obtain ⟨n', l', k1, rfl, k3⟩ := hy
 exact ξ5A w va vb n n' l l' z hz h1 k1 (by omega) (by omega)
theorem ξ6m (w : World) (va : Value) (x z : Int) (L : Nat) (hx : IntV w va x L) (hz : - x = z) (hL : L ≤ 1000000) :
  Calls Tryz.prog 147 #[va] w (Ret w fun r w' => ResV w' r z L) := by
 have h := hx.len
 rw [show x.natAbs = z.natAbs by omega] at h
 refine v_of h ?_
 obtain ⟨n, l, h1, rfl, h3⟩ := hx
 exact ξ7Y w va n l z hz h1 (by omega)
theorem ξ6G (w : World) (va : Value) (x z : Int) (L : Nat) (hx : IntV w va x L) (hz : sgn x = z) (hL : L ≤ 1000000) :
  Calls Tryz.prog 193 #[va] w (Ret w fun r w' => r = .int .i64 z) := by
 obtain ⟨n, l, h1, rfl, h3⟩ := hx
 exact ξ2A w va n l z hz h1 (by omega)
theorem ξda (w : World) (va vb : Value) (x y z : Int) (L M : Nat) (hx : IntV w va x L) (hy : IntV w vb y M) (hz : cmpZ x y = z) (hL : L ≤ 1000000) (hM : M ≤ 1000000) :
  Calls Tryz.prog 130 #[va, vb] w (Ret w fun r w' => r = .int .i64 z) := by
 obtain ⟨n, l, h1, rfl, h3⟩ := hx
 obtain ⟨n', l', k1, rfl, k3⟩ := hy
 exact ξbH w va vb n n' l l' z hz h1 k1 (by omega) (by omega)
end Go.Proofs.YtcjgimlcefhhmaaGreatDoor
namespace Go.Proofs.YtcjgimlcefhhmaaGreatDoor
open Go.RowKit Go.Lib
def NatV (w : World) (v : Value) (x L : Nat) : Prop := ∃ l, NatL w v l ∧ nval l = x ∧ l.length ≤ L
theorem NatV.grow {w w' : World} {v : Value} {x L : Nat} (h : NatV w v x L) (g : Gr w w') : NatV w' v x L := by
 obtain ⟨l, h1, h2⟩ := h; exact ⟨l, h1.grow g, h2⟩
theorem NatV.len {w : World} {v : Value} {x L : Nat} (h : NatV w v x L) : (digs x).length ≤ L := by
 obtain ⟨l, h1, rfl, h3⟩ := h
 exact Nat.le_trans (ξ0U h1.dig) h3
def NatR (w : World) (v : Value) (x L : Nat) : Prop := NatL w v (digs x) ∧ NatV w v x L
theorem NatR.grow {w w' : World} {v : Value} {x L : Nat} (h : NatR w v x L) (g : Gr w w') : NatR w' v x L := ⟨h.1.grow g, h.2.grow g⟩
theorem NatR.of {w : World} {v : Value} {x L : Nat} (h : NatL w v (digs x)) (hL : (digs x).length ≤ L) : NatR w v x L := ⟨h, _, h, ξ4 x, hL⟩
theorem ξ4X (w : World) (va vb : Value) (x y L M : Nat) (z : Int) (hx : NatV w va x L) (hy : NatV w vb y M) (hz : cmpZ x y = z) (hL : L ≤ 1000000) (hM : M ≤ 1000000) :
  Calls Tryz.prog 174 #[va, vb] w (Ret w fun r w' => r = .int .i64 z) := by
 subst hz
 obtain ⟨l, h1, rfl, h3⟩ := hx
 obtain ⟨m, k1, rfl, k3⟩ := hy
 exact (ξ1R w va vb l m h1 k1 (by omega) (by omega)).mono fun e w' ⟨he, hw⟩ => ⟨_, he, hw ▸ Gr.refl _, rfl⟩
theorem NatL.slice {w : World} {v : Value} {l : List Nat} (h : NatL w v l) : ∃ p k c, v = .slice p k c ∧ k = l.length := by
 obtain ⟨p, c, rfl, -⟩ := h.parts; exact ⟨p, _, c, rfl, rfl⟩
theorem okT {bs : List UInt8} (h : okText bs = true) : bs.all isDig = true ∧ bs.length ≤ 4000 := by
 unfold okText at h
 simp only [Bool.and_eq_true, decide_eq_true_eq, Bool.or_eq_true] at h
 exact ⟨h.2, h.1.1.2⟩
def Cuts (bs : List UInt8) (neg : Bool) (cs : List UInt8) : Prop := (neg = true ∧ bs = 45 :: cs) ∨ (neg = false ∧ bs = cs ∧ bs.head? ≠ some 45)
def okI (neg : Bool) (cs : List UInt8) : Bool := okText cs && !(neg && decide (cs = [48]))
def valI (neg : Bool) (cs : List UInt8) : Int := if neg then -(decVal cs : Int) else decVal cs
def ξ02 (neg : Bool) (cs : List UInt8) (r : Value) (w' : World) : Prop :=
 if okI neg cs then ∃ x, r = .tuple #[x, .int .i64 0] ∧ IntC w' x (valI neg cs) else r = .tuple #[.agg #[.bool false, .slice none 0 0], .int .i64 3]
theorem ξ02.bad {neg : Bool} {cs : List UInt8} {w : World} (h : okI neg cs = false) : ξ02 neg cs (.tuple #[.agg #[.bool false, .slice none 0 0], .int .i64 3]) w := by
 unfold ξ02; rw [h]; rfl
theorem ξ02.good {neg : Bool} {cs : List UInt8} {w : World} {x : Value} (h : okI neg cs = true) (hx : IntC w x (valI neg cs)) : ξ02 neg cs (.tuple #[x, .int .i64 0]) w := by
 unfold ξ02; rw [if_pos h]; exact ⟨_, rfl, hx⟩
theorem ξcx (w : World) (bs : List UInt8) (neg : Bool) (cs : List UInt8) (hs : Cuts bs neg cs) (hl : bs.length ≤ 140737488355328) :
  Calls Tryz.prog 267 #[.string ⟨bs.toArray⟩, .string ⟨#[45]⟩] w (Ret w fun r w' => r = .tuple #[.string ⟨cs.toArray⟩, .bool neg]) := by
 have hp : Lib.hasPrefix bs [45] = neg := by
  rcases hs with ⟨rfl, rfl⟩ | ⟨rfl, rfl, h⟩
  ·simp [Lib.hasPrefix]
  ·cases bs with
   | nil => rfl
   | cons c l =>
    have : c ≠ 45 := by simpa using h
    show ((45 : UInt8) == c && List.isPrefixOf [] l) = false
    have h45 : ((45 : UInt8) == c) = false := by simpa using Ne.symm this
    rw [h45]; rfl
 have HP := ξ hp
 clear hp
 go_enter Tryz.func267, Tryz.ntmps267
 go_wp2_with fail
 refine (Tryz.stringslite_HasPrefix ⟨bs.toArray⟩ ⟨#[45]⟩ w).mono ?_
 rintro _ _ ⟨rfl, rfl⟩
 have h2 : Lib.hasPrefix ((⟨bs.toArray⟩ : ByteArray).data.toList) ((⟨#[45]⟩ : ByteArray).data.toList) = neg := HP.out
 rw [h2]
 clear h2
 rcases hs with ⟨rfl, rfl⟩ | ⟨rfl, rfl, h⟩
 ·go_wp2_with fail
  go_ret2
  refine ⟨_, rfl, Gr.refl _, ?_⟩
  have e : (⟨(45 :: cs).toArray⟩ : ByteArray).extract 1 (cs.length + 1) = ⟨cs.toArray⟩ := by rw [ByteArray.extract_mk]; simp
  exact congrArg (fun x => Value.tuple #[.string x, .bool true]) e
 ·go_wp2_with fail
  go_ret2
  exact ⟨_, rfl, Gr.refl _, rfl⟩
theorem ξbI (w : World) (bs : List UInt8) (neg : Bool) (cs : List UInt8) (hs : Cuts bs neg cs) (hl : bs.length ≤ 140737488355328) :
  Calls Tryz.prog 224 #[.string ⟨bs.toArray⟩, .string ⟨#[45]⟩] w (Ret w fun r w' => r = .tuple #[.string ⟨cs.toArray⟩, .bool neg]) := by
 have H := ξ (ξcx w bs neg cs hs hl)
 clear hs
 go_enter Tryz.func224, Tryz.ntmps224
 go_wp2_with fail
 refine H.out.mono ?_
 rintro _ w1 ⟨_, rfl, g, rfl⟩
 go_wp2_with fail
 go_ret2
 exact ⟨_, rfl, g, rfl⟩
theorem boxEnd {a w : World} {b : Nat} {s : Bool} {p : Option Addr} {k c : Nat} (g : Gr a w) (hb : ¬ b < a.heap.size) (t : Two w b (.bool s) (.slice p k c)) (u : Bool) (q : Option Addr) (m d : Nat) :
  Gr a ((w.setCell ⟨b, 0, none⟩ (.bool u)).setCell ⟨b, 1, none⟩ (.slice q m d)) ∧ Two ((w.setCell ⟨b, 0, none⟩ (.bool u)).setCell ⟨b, 1, none⟩ (.slice q m d)) b (.bool u) (.slice q m d) ∧
  ∀ v z, IntC w v z → IntC ((w.setCell ⟨b, 0, none⟩ (.bool u)).setCell ⟨b, 1, none⟩ (.slice q m d)) v z :=
 ⟨g.two hb _ _, t.set _ _, fun v z h => h.keepBox t _ _⟩
theorem ξ9U (w : World) (bs : List UInt8) (neg : Bool) (cs : List UInt8) (hs : Cuts bs neg cs) (hl : bs.length ≤ 140737488355328) :
  Calls Tryz.prog 172 #[.string ⟨bs.toArray⟩] w (Ret w fun r w' => ξ02 neg cs r w') := by
 have H := ξ (fun W => ξbI W bs neg cs hs hl)
 have hcl : cs.length ≤ 140737488355328 := by
  rcases hs with ⟨_, rfl⟩ | ⟨_, rfl, _⟩
  ·simp at hl; omega
  ·exact hl
 have B := boxed1 w (.bool false) (.slice none 0 0) 66
 clear hs
 have hb : ¬ w.heap.size < w.heap.size := Nat.lt_irrefl _
 go_enter Tryz.func172, Tryz.ntmps172
 go_wp2_with fail
 generalize w.alloc _ = W at B ⊢
 obtain ⟨G0, T0⟩ := B
 have Hb := ξ hb
 generalize hbe : w.heap.size = b0 at T0 ⊢
 have Hbe := ξ hbe
 have G := ξ G0
 have T := ξ T0
 clear G0 T0 hb hbe
 refine (H.out W).mono ?_
 rintro _ w1 ⟨_, rfl, g1, rfl⟩
 have G := ξ (G.out.trans g1)
 have T := ξ (T.out.grow g1)
 clear g1
 go_wp2_with fail
 refine (ξ5J w1 cs hcl).mono ?_
 rintro _ w2 ⟨r2, rfl, g2, h2⟩
 have G := ξ (G.out.trans g2)
 have T := ξ (T.out.grow g2)
 clear g2
 by_cases hok : okText cs = true
 ·unfold ξH at h2
  rw [if_pos hok] at h2
  obtain ⟨x, rfl, hx⟩ := h2
  have HX := ξ hx
  have Hok := ξ hok
  clear hx hok
  by_cases hbad : neg = true ∧ cs = [48]
  ·obtain ⟨rfl, rfl⟩ := hbad
   have c0 := T.out.load.1
   have c1 := T.out.load.2
   have f0 := T.out.f0 0
   have f1 := T.out.f0 1
   have E := boxEnd G.out (by rw [Hbe.out]; exact Nat.lt_irrefl _) T.out false none 0 0
   go_wp2_with fail
   generalize (w2.setCell _ _).setCell _ _ = W9 at E ⊢
   obtain ⟨gE, tE, _⟩ := E
   have x0 := tE.load.1
   have x1 := tE.load.2
   refine bodyPost_ret (v := .tuple #[.agg #[.bool false, .slice none 0 0], .int .i64 3]) (by simp [results, Tryz.results172, go_sem, x0, x1]) rfl ?_
   exact ⟨_, rfl, gE, ξ02.bad (by unfold okI; simp)⟩
  ·have hgood : okI neg cs = true := by
    unfold okI
    rw [Hok.out]
    cases neg
    ·rfl
    ·have : ¬ cs = [48] := fun e => hbad ⟨rfl, e⟩
     simp [this]
   have Hgood := ξ hgood
   clear hgood
   have hsg := fun W (h : NatL W x (digs (decVal cs))) => ξ04 W neg x (decVal cs) (valI neg cs) h (Nat.le_trans (ξ2C (okT Hok.out).1 (okT Hok.out).2) (by decide)) rfl
   have Hsg := ξ hsg
   clear hsg
   have hne : neg = true → ¬ cs = [48] := fun e1 e2 => hbad ⟨e1, e2⟩
   clear hbad
   cases neg
   ·clear hne
    go_wp2_with fail
    refine (Hsg.out _ HX.out).mono ?_
    rintro _ w3 ⟨r3, rfl, g3, h3⟩
    have h3' := ξ h3
    obtain ⟨p3, k3, c3, rfl, _⟩ := h3
    have G := ξ (G.out.trans g3)
    have T := ξ (T.out.grow g3)
    have c0 := T.out.load.1
    have c1 := T.out.load.2
    have f0 := T.out.f0 0
    have f1 := T.out.f0 1
    obtain ⟨sg, hsg⟩ : ∃ sg, decide (valI false cs < 0) = sg := ⟨_, rfl⟩
    rw [hsg] at h3' ⊢
    have E := boxEnd G.out (by rw [Hbe.out]; exact Nat.lt_irrefl _) T.out sg p3 k3 c3
    clear hsg
    go_wp2_with fail
    generalize (w3.setCell _ _).setCell _ _ = W9 at E ⊢
    obtain ⟨gE, tE, kE⟩ := E
    have x0 := tE.load.1
    have x1 := tE.load.2
    refine bodyPost_ret (v := .tuple #[.agg #[.bool sg, .slice p3 k3 c3], .int .i64 0]) (by simp [results, Tryz.results172, go_sem, x0, x1]) rfl ?_
    exact ⟨_, rfl, gE, ξ02.good Hgood.out (kE _ _ h3'.out)⟩
   ·have hne2 : (cs == [48]) = false := by simpa using hne rfl
    clear hne
    go_wp2_with fail
    refine (Hsg.out _ HX.out).mono ?_
    rintro _ w3 ⟨r3, rfl, g3, h3⟩
    have h3' := ξ h3
    obtain ⟨p3, k3, c3, rfl, _⟩ := h3
    have G := ξ (G.out.trans g3)
    have T := ξ (T.out.grow g3)
    have c0 := T.out.load.1
    have c1 := T.out.load.2
    have f0 := T.out.f0 0
    have f1 := T.out.f0 1
    obtain ⟨sg, hsg⟩ : ∃ sg, decide (valI true cs < 0) = sg := ⟨_, rfl⟩
    rw [hsg] at h3' ⊢
    have E := boxEnd G.out (by rw [Hbe.out]; exact Nat.lt_irrefl _) T.out sg p3 k3 c3
    clear hsg
    go_wp2_with fail
    generalize (w3.setCell _ _).setCell _ _ = W9 at E ⊢
    obtain ⟨gE, tE, kE⟩ := E
    have x0 := tE.load.1
    have x1 := tE.load.2
    refine bodyPost_ret (v := .tuple #[.agg #[.bool sg, .slice p3 k3 c3], .int .i64 0]) (by simp [results, Tryz.results172, go_sem, x0, x1]) rfl ?_
    exact ⟨_, rfl, gE, ξ02.good Hgood.out (kE _ _ h3'.out)⟩
 ·unfold ξH at h2
  rw [if_neg hok] at h2
  subst h2
  have c0 := T.out.load.1
  have c1 := T.out.load.2
  have f0 := T.out.f0 0
  have f1 := T.out.f0 1
  have E := boxEnd G.out (by rw [Hbe.out]; exact Nat.lt_irrefl _) T.out false none 0 0
  go_wp2_with fail
  generalize (w2.setCell _ _).setCell _ _ = W9 at E ⊢
  obtain ⟨gE, tE, _⟩ := E
  have x0 := tE.load.1
  have x1 := tE.load.2
  refine bodyPost_ret (v := .tuple #[.agg #[.bool false, .slice none 0 0], .int .i64 3]) (by simp [results, Tryz.results172, go_sem, x0, x1]) rfl ?_
  exact ⟨_, rfl, gE, ξ02.bad (by unfold okI; simp [hok])⟩
theorem ξ6J (w : World) (va : Value) (z : Int) (L : Nat) (s : List UInt8) (ha : IntC w va z) (hlen : (digs z.natAbs).length ≤ L) (hL : L ≤ 4000) (htab : Tab w) (hs : (if z < 0 then 45 :: decDigits z.natAbs else decDigits z.natAbs) = s) :
  Calls Tryz.prog 181 #[va] w (Ret w fun r w' => r = .string ⟨s.toArray⟩) := by
 have HS := ξ hs
 clear hs
 have HA0 := ξ ha
 have HT := ξ htab
 obtain ⟨p, k, c, rfl, hm⟩ := ha
 have HM := ξ hm
 have B := boxed1 w (.bool (decide (z < 0))) (.slice p k c) 66
 have HL := ξ hlen
 clear hm htab hlen
 obtain ⟨sg, hsg⟩ : ∃ sg, decide (z < 0) = sg := ⟨_, rfl⟩
 have Hsg := ξ hsg
 rw [hsg] at HA0 B ⊢
 clear hsg
 go_enter Tryz.func181, Tryz.ntmps181
 go_wp2_with fail
 generalize w.alloc _ = W at B ⊢
 obtain ⟨G0, T0⟩ := B
 generalize w.heap.size = b0 at T0 ⊢
 have G := ξ G0
 have T := ξ T0
 have c0 := T0.c0 W (Gr.refl _)
 have c1 := T0.c1 W (Gr.refl _)
 clear G0 T0
 go_wp2_with fail
 have hsig : sgn (zval sg (digs z.natAbs)) = sgn z := by rw [← Hsg.out, ξaB]
 obtain ⟨sz, hsz⟩ : ∃ sz, sgn z = sz := ⟨_, rfl⟩
 rw [hsz] at hsig
 refine (ξ2A _ _ sg _ sz hsig ((show IntL w (.agg #[.bool sg, .slice p k c]) sg (digs z.natAbs) from by have h := HA0.out; unfold IntC at h; rw [Hsg.out] at h; exact h).grow G.out) (Nat.le_trans HL.out (Nat.le_trans hL (by decide)))).mono ?_
 rintro _ w1 ⟨_, rfl, g1, rfl⟩
 have c0 := T.out.c0 w1 g1
 have c1 := T.out.c1 w1 g1
 have G1 := ξ (G.out.trans g1)
 clear g1 hsig
 by_cases hz : z < 0
 ·have : sz = -1 := by rw [← hsz]; unfold sgn; rw [if_pos hz]
  subst this
  have Hz := ξ hz
  clear hsz
  go_wp2_with fail
  refine (ξ4H _ _ _ (HM.out.grow G1.out) (Nat.le_trans HL.out (Nat.le_trans hL (by decide))) (HT.out.grow G1.out)).mono ?_
  rintro _ w2 ⟨_, rfl, g2, rfl⟩
  rw [ξ4]
  obtain ⟨tx, htx⟩ : ∃ tx, decDigits z.natAbs = tx := ⟨_, rfl⟩
  have hb : tx.length ≤ 40001 := by
   rw [← htx]
   exact Nat.le_trans (ξ49 (L := L) (ξc HL.out)) (by omega)
  have Htx := ξ htx
  have hcat := ξ (ByteArray.mk_append_mk [45] tx)
  rw [htx]
  clear htx
  go_wp2_with fail
  go_ret
  refine ⟨_, rfl, G1.out.trans g2, ?_⟩
  have hz := Hz.out
  rw [← HS.out, if_pos (by omega), Htx.out]
  exact congrArg Value.string hcat.out
 ·have h0 : ¬ sz < 0 := by rw [← hsz]; unfold sgn; rw [if_neg hz]; split <;> omega
  have Hz := ξ hz
  clear hsz hz
  go_wp2_with fail
  refine (ξ4H _ _ _ (HM.out.grow G1.out) (Nat.le_trans HL.out (Nat.le_trans hL (by decide))) (HT.out.grow G1.out)).mono ?_
  rintro _ w2 ⟨_, rfl, g2, rfl⟩
  rw [ξ4]
  go_wp2_with fail
  go_ret
  refine ⟨_, rfl, G1.out.trans g2, ?_⟩
  have hz := Hz.out
  rw [← HS.out, if_neg (by omega)]
  rfl
end Go.Proofs.YtcjgimlcefhhmaaGreatDoor

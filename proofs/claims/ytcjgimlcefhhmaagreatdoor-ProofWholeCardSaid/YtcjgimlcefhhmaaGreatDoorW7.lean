/- Texts: Int IntB. -/
import Derived.Test.YtcjgimlcefhhmaaGreatDoorW6
set_option linter.unusedVariables false
set_option linter.unusedSimpArgs false
set_option maxRecDepth 100000
set_option maxHeartbeats 12800000
namespace Go.Proofs.YtcjgimlcefhhmaaGreatDoor
open Go.RowKit
def IntL (w : World) (v : Value) (n : Bool) (l : List Nat) : Prop := ∃ p k c, v = .agg #[.bool n, .slice p k c] ∧ NatL w (.slice p k c) l
theorem IntL.grow {w w' : World} {v : Value} {n : Bool} {l : List Nat} (h : IntL w v n l) (g : Gr w w') : IntL w' v n l := by
 obtain ⟨p, k, c, rfl, h⟩ := h; exact ⟨p, k, c, rfl, h.grow g⟩
def zval (n : Bool) (l : List Nat) : Int := if n then -(nval l : Int) else nval l
def IntC (w : World) (v : Value) (z : Int) : Prop := IntL w v (decide (z < 0)) (digs z.natAbs)
theorem IntC.grow {w w' : World} {v : Value} {z : Int} (h : IntC w v z) (g : Gr w w') : IntC w' v z := IntL.grow h g
def Two (w : World) (b : Nat) (x y : Value) : Prop := ∃ t, w.heap[b]? = some (.cells #[x, y] t (0, 0))
theorem Two.lt {w : World} {b : Nat} {x y : Value} (h : Two w b x y) : b < w.heap.size := by
 obtain ⟨t, h⟩ := h
 rcases Nat.lt_or_ge b w.heap.size with h' | h'
 ·exact h'
 ·rw [Array.getElem?_eq_none h'] at h; cases h
theorem Two.grow {w w' : World} {b : Nat} {x y : Value} (h : Two w b x y) (g : Gr w w') : Two w' b x y := by
 have hl := h.lt
 obtain ⟨t, h⟩ := h; exact ⟨t, by rw [Below.block g b hl]; exact h⟩
theorem Two.c0 {w : World} {b : Nat} {x y : Value} (h : Two w b x y) : ∀ w', Gr w w' → w'.cell? ⟨b, 0, none⟩ = some x := fun w' g => by
 obtain ⟨t, h⟩ := h.grow g; simp [World.cell?, h]
theorem Two.c1 {w : World} {b : Nat} {x y : Value} (h : Two w b x y) : ∀ w', Gr w w' → w'.cell? ⟨b, 1, none⟩ = some y := fun w' g => by
 obtain ⟨t, h⟩ := h.grow g; simp [World.cell?, h]
theorem Two.f0 {w : World} {b : Nat} {x y : Value} (h : Two w b x y) (i : Nat) : w.frozen? ⟨b, i, none⟩ = false := by
 obtain ⟨t, h⟩ := h; simp [World.frozen?, h]
theorem Two.set {w : World} {b : Nat} {x y : Value} (h : Two w b x y) (u v : Value) : Two ((w.setCell ⟨b, 0, none⟩ u).setCell ⟨b, 1, none⟩ v) b u v := by
 obtain ⟨t, h⟩ := h
 refine ⟨t, ?_⟩
 simp [World.setCell, Array.getElem?_modify, h]
theorem Two.other {w : World} {b b' : Nat} {x y : Value} (h : Two w b x y) (hne : b ≠ b') (u v : Value) : Two ((w.setCell ⟨b', 0, none⟩ u).setCell ⟨b', 1, none⟩ v) b x y := by
 obtain ⟨t, h⟩ := h
 refine ⟨t, ?_⟩
 rw [Below.heap_setCell _ _ _ _ hne, Below.heap_setCell _ _ _ _ hne]; exact h
theorem Two.new (w : World) (x y : Value) (t : TypeId) : Two (w.alloc (.cells #[x, y] t)) w.heap.size x y := ⟨t, heap_alloc_new w _⟩
theorem boxed1 (w : World) (x y : Value) (t : TypeId) : Gr w (w.alloc (.cells #[x, y] t)) ∧ Two (w.alloc (.cells #[x, y] t)) w.heap.size x y :=
 ⟨(Gr.refl w).alloc _, Two.new w x y t⟩
theorem boxed2 (w : World) (x y x' y' : Value) (t t' : TypeId) : Gr w ((w.alloc (.cells #[x, y] t)).alloc (.cells #[x', y'] t')) ∧
  Two ((w.alloc (.cells #[x, y] t)).alloc (.cells #[x', y'] t')) w.heap.size x y ∧ Two ((w.alloc (.cells #[x, y] t)).alloc (.cells #[x', y'] t')) (w.heap.size + 1) x' y' := by
 obtain ⟨g, h⟩ := boxed1 w x y t
 obtain ⟨g', h'⟩ := boxed1 (w.alloc (.cells #[x, y] t)) x' y' t'
 rw [World.size_alloc] at h'
 exact ⟨g.trans g', h.grow g', h'⟩
theorem boxed3 (w : World) (x y x' y' x'' y'' : Value) (t t' t'' : TypeId) : Gr w (((w.alloc (.cells #[x, y] t)).alloc (.cells #[x', y'] t')).alloc (.cells #[x'', y''] t'')) ∧
  Two (((w.alloc (.cells #[x, y] t)).alloc (.cells #[x', y'] t')).alloc (.cells #[x'', y''] t'')) w.heap.size x y ∧
  Two (((w.alloc (.cells #[x, y] t)).alloc (.cells #[x', y'] t')).alloc (.cells #[x'', y''] t'')) (w.heap.size + 1) x' y' ∧
  Two (((w.alloc (.cells #[x, y] t)).alloc (.cells #[x', y'] t')).alloc (.cells #[x'', y''] t'')) (w.heap.size + 1 + 1) x'' y'' := by
 obtain ⟨g, h1, h2⟩ := boxed2 w x y x' y' t t'
 obtain ⟨g', h3⟩ := boxed1 ((w.alloc (.cells #[x, y] t)).alloc (.cells #[x', y'] t')) x'' y'' t''
 rw [World.size_alloc, World.size_alloc] at h3
 exact ⟨g.trans g', h1.grow g', h2.grow g', h3⟩
theorem IntL.mk {w : World} {n : Bool} {m : Value} {l : List Nat} (h : NatL w m l) : IntL w (.agg #[.bool n, m]) n l := by
 obtain ⟨p, c, rfl, -⟩ := h.parts
 exact ⟨p, _, c, rfl, h⟩
theorem Two.load {w : World} {b : Nat} {x y : Value} (h : Two w b x y) : w.cell? ⟨b, 0, none⟩ = some x ∧ w.cell? ⟨b, 1, none⟩ = some y := ⟨h.c0 w (Gr.refl w), h.c1 w (Gr.refl w)⟩
theorem IntC.of {w : World} {m : Value} {n : Bool} {a : Nat} (h : NatL w m (digs a)) : IntC w (.agg #[.bool (n && decide (0 < a)), m]) (if n then -(a : Int) else a) := by
 have e1 : (n && decide (0 < a)) = decide ((if n then -(a : Int) else a) < 0) := by
  rcases n with _ | _ <;> simp <;> omega
 have e2 : (if n then -(a : Int) else a).natAbs = a := by
  rcases n with _ | _ <;> simp
 unfold IntC
 rw [e1, e2]
 exact IntL.mk h
theorem ξ8v (w : World) (n : Bool) (m : Value) (l : List Nat) (h : NatL w m l) (hlen : l.length ≤ 17592186044416) :
  Calls Tryz.prog 191 #[.bool n, m] w (Ret w fun r w' => r = .agg #[.bool (n && decide (0 < nval l)), m]) := by
 have HA := ξ h
 obtain ⟨p, c, rfl, -⟩ := h.parts
 have B1 := ξ (boxed1 w (.bool false) (.slice none 0 0) 66)
 have Hb := ξ (show (0 < bitsN (nval l)) ↔ 0 < nval l from ⟨fun h => by
  rcases Nat.eq_zero_or_pos (nval l) with h0 | h0
  ·rw [h0, ξ54] at h; omega
  ·exact h0, fun h => ξ3N (by omega)⟩)
 clear h
 obtain ⟨k, hk⟩ : ∃ k, l.length = k := ⟨_, rfl⟩
 rw [hk] at HA ⊢
 have Hk := ξ hk
 clear hk
 rcases n with _ | _
 ·go_enter Tryz.func191, Tryz.ntmps191
  go_wp2_with fail
  refine bodyPost_ret (v := .agg #[.bool false, .slice p k c]) (by simp [results, Tryz.results191, go_sem]) rfl ?_
  exact ⟨_, rfl, (Gr.refl w).alloc _, rfl⟩
 ·go_enter Tryz.func191, Tryz.ntmps191
  go_wp2_with fail
  refine (ξ2E _ _ l (HA.out.grow B1.out.1) hlen).mono ?_
  rintro _ _ ⟨rfl, rfl⟩
  by_cases hb : 0 < bitsN (nval l)
  ·have t1 : (0 : Int) < (bitsN (nval l) : Int) := by omega
   have h1 := ξ (Hb.out.1 hb)
   go_wp2_with fail
   refine bodyPost_ret (v := .agg #[.bool true, .slice p k c]) (by simp [results, Tryz.results191, go_sem]) rfl ?_
   exact ⟨_, rfl, (Gr.refl w).alloc _, by simp [h1.out]⟩
  ·have t1 : ¬ (0 : Int) < (bitsN (nval l) : Int) := by omega
   have h1 := ξ (show ¬ 0 < nval l from fun h => hb (Hb.out.2 h))
   go_wp2_with fail
   refine bodyPost_ret (v := .agg #[.bool false, .slice p k c]) (by simp [results, Tryz.results191, go_sem]) rfl ?_
   exact ⟨_, rfl, (Gr.refl w).alloc _, by simp [h1.out]⟩
theorem ξ04 (w : World) (n : Bool) (m : Value) (a : Nat) (z : Int) (h : NatL w m (digs a)) (hlen : (digs a).length ≤ 17592186044416) (hz : (if n then -(a : Int) else a) = z) :
  Calls Tryz.prog 191 #[.bool n, m] w (Ret w fun r w' => IntC w' r z) :=
 (ξ8v w n m (digs a) h hlen).mono fun e w' ⟨v, he, hg, hv⟩ => ⟨v, he, hg, by subst hv; rw [ξ4, ← hz]; exact IntC.of (h.grow hg)⟩
theorem NatL.keepBox {w : World} {v : Value} {l : List Nat} (h : NatL w v l) {b : Nat} {s : Bool} {p : Option Addr} {k c : Nat} (t : Two w b (.bool s) (.slice p k c)) (u v' : Value) :
  NatL ((w.setCell ⟨b, 0, none⟩ u).setCell ⟨b, 1, none⟩ v') v l := by
 obtain ⟨h0, q, d, rfl, h1, h2, h3⟩ := h
 refine ⟨h0, q, d, rfl, h1, h2, ?_⟩
 rcases h3 with h3 | ⟨b', o, rfl, hc⟩
 ·exact .inl h3
 ·refine .inr ⟨b', o, rfl, fun i hi => ?_⟩
  have hi' := hc i hi
  have hne : b' ≠ b := by
   intro e
   subst e
   obtain ⟨ty, t⟩ := t
   simp only [World.cell?, t] at hi'
   match ho : o + i with
   | 0 => simp [ho] at hi'
   | 1 => simp [ho] at hi'
   | n + 2 => simp [ho] at hi'
  rw [World.cell?_of_block (w := w) (by rw [Below.heap_setCell _ _ _ _ hne, Below.heap_setCell _ _ _ _ hne])]
  exact hi'
theorem ξ1x (base : Nat) (w : World) {b : Nat} (hb : base ≤ b) (u v : Value) : Own base w ((w.setCell ⟨b, 0, none⟩ u).setCell ⟨b, 1, none⟩ v) :=
 (Own.setCell w hb 0 u).trans (Own.setCell _ hb 1 v)
theorem ξ1s {w w3 : World} {z : Int} {b : Nat} {s sg : Bool} {p p3 : Option Addr} {k c k3 c3 : Nat} (hb : w.heap.size ≤ b) (g : Gr w w3) (t : Two w3 b (.bool s) (.slice p k c)) (h : NatL w3 (.slice p3 k3 c3) (digs z.natAbs)) (hs : sg = decide (z < 0)) :
  Ret w (fun r w' => IntC w' r z) (.returned (.agg #[.bool sg, .slice p3 k3 c3])) ((w3.setCell ⟨b, 0, none⟩ (.bool sg)).setCell ⟨b, 1, none⟩ (.slice p3 k3 c3)) := by
 refine ⟨_, rfl, Below.trans g (ξ1x _ _ hb _ _), ?_⟩
 subst hs
 exact ⟨p3, k3, c3, rfl, h.keepBox t _ _⟩
theorem ξ0A {a b : Nat} {k : Nat} (ha : (digs a).length ≤ k) (hb : (digs b).length ≤ k) : (digs (a + b)).length ≤ k + 1 := by
 have h1 := ξc ha
 have h2 := ξc hb
 refine ξh (Nat.lt_of_lt_of_le ?_ (ξ56 k))
 generalize BB ^ k = X at *
 omega
theorem ξ1L {a b : Nat} {k m : Nat} (ha : (digs a).length ≤ k) (hb : (digs b).length ≤ m) : (digs (a * b)).length ≤ k + m := by
 have h1 := ξc ha
 have h2 := ξc hb
 refine ξh ?_
 rw [Nat.pow_add]
 exact Nat.mul_lt_mul'' h1 h2
theorem ξl {a b : Nat} (h : a ≤ b) : (digs a).length ≤ (digs b).length := by
 refine ξh ?_
 have := ξc (n := b) (Nat.le_refl _)
 omega
theorem ξm {l : List Nat} (h : Dig l) : (digs (nval l)).length ≤ l.length := ξN l h
theorem ξ2Q {la lb : List Nat} {k : Nat} (ha : Dig la) (hb : Dig lb) (h1 : la.length ≤ k) (h2 : lb.length ≤ k) : (digs (nval la + nval lb)).length ≤ k + 1 :=
 ξ0A (Nat.le_trans (ξm ha) h1) (Nat.le_trans (ξm hb) h2)
theorem ξ6c (n : Bool) (la lb : List Nat) : (if n then -((nval la + nval lb : Nat) : Int) else ((nval la + nval lb : Nat) : Int)) = zval n la + zval n lb := by
 unfold zval; rcases n with _ | _ <;> simp <;> omega
theorem ξ4h (n n' : Bool) (hn : n ≠ n') (la lb : List Nat) (h : nval lb ≤ nval la) : (if n then -((nval la - nval lb : Nat) : Int) else ((nval la - nval lb : Nat) : Int)) = zval n la + zval n' lb := by
 unfold zval; rcases n with _ | _ <;> rcases n' with _ | _ <;> simp at hn ⊢ <;> omega
theorem ξ6W (w : World) (va vb : Value) (n : Bool) (la lb : List Nat) (z : Int) (hz : zval n la + zval n lb = z) (ha : IntL w va n la) (hb : IntL w vb n lb) (hla : la.length ≤ 1099511627776) (hlb : lb.length ≤ 1099511627776) :
  Calls Tryz.prog 199 #[va, vb] w (Ret w fun r w' => IntC w' r z) := by
 have Hz := ξ (show _ = z from (ξ6c n la lb).trans hz)
 clear hz
 obtain ⟨pa, ka, ca, rfl, ha⟩ := ha
 obtain ⟨pb, kb, cb, rfl, hb⟩ := hb
 have HA := ξ ha
 have HB := ξ hb
 have HL := ξ (ξ2Q ha.dig hb.dig hla hlb)
 clear ha hb
 have B3 := boxed3 w (.bool n) (.slice pa ka ca) (.bool n) (.slice pb kb cb) (.bool false) (.slice none 0 0) 66 66 66
 go_enter Tryz.func199, Tryz.ntmps199
 go_wp2_with fail
 generalize ((w.alloc _).alloc _).alloc _ = W at B3 ⊢
 obtain ⟨G0, ta, tb, tr⟩ := B3
 have HW := ξ G0
 have HR := ξ tr
 have a0 := ta.c0
 have a1 := ta.c1
 have b0 := tb.c0
 have b1 := tb.c1
 have hsz := tr.lt
 clear G0 ta tb tr
 have g0 : Gr W W.drew := (Gr.refl W).drew
 refine ξL [(0, true), (1, true), (2, true), (3, true), (4, true), (5, true), (6, false), (7, false), (8, false)] (by kernel_rfl) (by kernel_rfl) rfl (by kernel_rfl) (fun _ _ d _ _ h => by cases d <;> exact h) ?_
 repeat (refine ξ2 (v := ?_) g0 rfl rfl (fun w' hg => ?_) (fun K hK => ?_); rotate_left; (go_simp; rfl); go_simp; refine hK _ _ ?_; clear hK K)
 refine ξi rfl rfl (fun K hK => ?_)
 go_simp
 refine (ξ3n _ _ _ la lb ((HA.out.grow HW.out).grow g0) ((HB.out.grow HW.out).grow g0) (by omega) (by omega)).mono ?_
 rintro _ w2 ⟨r, rfl, g2, hr⟩
 refine ⟨fun _ => g2, hK _ _ ?_⟩
 clear hK K
 have G2 := ξ (g0.trans g2)
 have Hr := ξ hr
 clear g2 hr
 refine ξi rfl rfl (fun K hK => ?_)
 go_simp
 refine (ξ04 _ n r _ _ Hr.out (Nat.le_trans HL.out (by omega)) Hz.out).mono ?_
 rintro _ w3 ⟨r3, rfl, g3, hr3⟩
 refine ⟨fun _ => g3, hK _ _ ?_⟩
 clear hK K
 obtain ⟨p3, k3, c3, rfl, hr3⟩ := hr3
 obtain ⟨sg, hsg⟩ : ∃ sg, sg = decide (z < 0) := ⟨_, rfl⟩
 rw [← hsg]
 have Hsg := ξ hsg
 have G3 := ξ (G2.out.trans g3)
 have Hr3 := ξ hr3
 have HR3 := ξ (HR.out.grow G3.out)
 have r0 := HR3.out.load.1
 have r1 := HR3.out.load.2
 have f0 := HR3.out.f0 0
 have f1 := HR3.out.f0 1
 clear g3 hr3 a0 a1 b0 b1 g0 hsg
 refine ξi rfl rfl (fun K hK => ?_)
 go_simp
 refine ⟨fun h => Bool.noConfusion h, hK _ _ ?_⟩
 clear hK K
 refine ξ9 ?_
 go_wp2_with fail
 refine bodyPost_ret (v := .agg #[.bool sg, .slice p3 k3 c3]) (by simp [results, Tryz.results199, go_sem, r0, r1]) rfl ?_
 exact ξ1s (by omega) (HW.out.trans G3.out) HR3.out Hr3.out Hsg.out
theorem ξ6z (w : World) (va vb : Value) (n n' : Bool) (hn : n ≠ n') (la lb : List Nat) (z : Int) (hz : zval n la + zval n' lb = z) (ha : IntL w va n la) (hb : IntL w vb n' lb) (hla : la.length ≤ 1099511627776) (hlb : lb.length ≤ 1099511627776) (hle : nval lb ≤ nval la) :
  Calls Tryz.prog 199 #[va, vb] w (Ret w fun r w' => IntC w' r z) := by
 have Hz := ξ (show _ = z from (ξ4h n n' hn la lb hle).trans hz)
 have Hle := ξ hle
 obtain ⟨cz, hcz⟩ : ∃ cz, cmpZ (nval la) (nval lb) = cz := ⟨_, rfl⟩
 have hc0 : ¬ cz < 0 := by rw [← hcz, ξ1K]; omega
 have Hcz := ξ hcz
 have hnn : (n == n') = false := by simpa using hn
 clear hz hle hcz
 obtain ⟨pa, ka, ca, rfl, ha⟩ := ha
 obtain ⟨pb, kb, cb, rfl, hb⟩ := hb
 have HA := ξ ha
 have HB := ξ hb
 have HL := ξ (Nat.le_trans (ξl (Nat.sub_le (nval la) (nval lb))) (Nat.le_trans (ξm ha.dig) hla))
 clear ha hb hn
 have B3 := boxed3 w (.bool n) (.slice pa ka ca) (.bool n') (.slice pb kb cb) (.bool false) (.slice none 0 0) 66 66 66
 go_enter Tryz.func199, Tryz.ntmps199
 go_wp2_with fail
 refine (ξ1R _ _ _ la lb (HA.out.grow B3.1) (HB.out.grow B3.1) (by omega) (by omega)).mono ?_
 rintro _ _ ⟨rfl, rfl⟩
 rw [Hcz.out]
 generalize ((w.alloc _).alloc _).alloc _ = W at B3 ⊢
 obtain ⟨G0, ta, tb, tr⟩ := B3
 have HW := ξ G0
 have HR := ξ tr
 have HTA := ξ ta
 have a0 := ta.load.1
 have a1 := ta.load.2
 have b0 := tb.load.1
 have b1 := tb.load.2
 have hsz := tr.lt
 clear G0 ta tb tr
 go_wp2_with fail
 refine (ξ7X _ _ _ la lb (HA.out.grow HW.out) (HB.out.grow HW.out) (by omega) (by omega) Hle.out).mono ?_
 rintro _ w2 ⟨_, rfl, g2, r, rfl, hr⟩
 have G2 := ξ g2
 have Hr := ξ hr
 clear hr a0 a1 b0 b1
 have a0 := HTA.out.c0 w2 g2
 clear g2
 go_wp2_with fail
 refine (ξ04 _ n r _ _ Hr.out (Nat.le_trans HL.out (by omega)) Hz.out).mono ?_
 rintro _ w3 ⟨r3, rfl, g3, hr3⟩
 obtain ⟨p3, k3, c3, rfl, hr3⟩ := hr3
 obtain ⟨sg, hsg⟩ : ∃ sg, sg = decide (z < 0) := ⟨_, rfl⟩
 rw [← hsg]
 have Hsg := ξ hsg
 have G3 := ξ (G2.out.trans g3)
 have Hr3 := ξ hr3
 have HR3 := ξ (HR.out.grow G3.out)
 have r0 := HR3.out.load.1
 have r1 := HR3.out.load.2
 have f0 := HR3.out.f0 0
 have f1 := HR3.out.f0 1
 clear g3 hr3 a0 hsg
 go_wp2_with fail
 refine bodyPost_ret (v := .agg #[.bool sg, .slice p3 k3 c3]) (by simp [results, Tryz.results199, go_sem, r0, r1]) rfl ?_
 exact ξ1s (by omega) (HW.out.trans G3.out) HR3.out Hr3.out Hsg.out
theorem ξ7j (w : World) (va vb : Value) (n n' : Bool) (hn : n ≠ n') (la lb : List Nat) (z : Int) (hz : zval n la + zval n' lb = z) (ha : IntL w va n la) (hb : IntL w vb n' lb) (hla : la.length ≤ 1099511627776) (hlb : lb.length ≤ 1099511627776) (hlt : nval la < nval lb) :
  Calls Tryz.prog 199 #[va, vb] w (Ret w fun r w' => IntC w' r z) := by
 have Hz := ξ (show _ = z from (ξ4h n' n (Ne.symm hn) lb la (Nat.le_of_lt hlt)).trans (by rw [Int.add_comm]; exact hz))
 have Hle := ξ (Nat.le_of_lt hlt)
 have Hcz := ξ (ξ5x hlt)
 have hnn : (n == n') = false := by simpa using hn
 clear hz hlt
 obtain ⟨pa, ka, ca, rfl, ha⟩ := ha
 obtain ⟨pb, kb, cb, rfl, hb⟩ := hb
 have HA := ξ ha
 have HB := ξ hb
 have HL := ξ (Nat.le_trans (ξl (Nat.sub_le (nval lb) (nval la))) (Nat.le_trans (ξm hb.dig) hlb))
 clear ha hb hn
 have B3 := boxed3 w (.bool n) (.slice pa ka ca) (.bool n') (.slice pb kb cb) (.bool false) (.slice none 0 0) 66 66 66
 go_enter Tryz.func199, Tryz.ntmps199
 go_wp2_with fail
 refine (ξ1R _ _ _ la lb (HA.out.grow B3.1) (HB.out.grow B3.1) (by omega) (by omega)).mono ?_
 rintro _ _ ⟨rfl, rfl⟩
 rw [Hcz.out]
 generalize ((w.alloc _).alloc _).alloc _ = W at B3 ⊢
 obtain ⟨G0, ta, tb, tr⟩ := B3
 have HW := ξ G0
 have HR := ξ tr
 have HTA := ξ ta
 have HTB := ξ tb
 have a0 := ta.load.1
 have a1 := ta.load.2
 have b0 := tb.load.1
 have b1 := tb.load.2
 have fa0 := ta.f0 0
 have fa1 := ta.f0 1
 have fb0 := tb.f0 0
 have fb1 := tb.f0 1
 have hsz := tr.lt
 clear G0 ta tb tr
 go_wp2_with fail
 clear a0 a1 b0 b1 fa0 fa1 fb0 fb1
 have hA' := ((HA.out.grow HW.out).keepBox HTA.out (.bool n') (.slice pb kb cb))
 have hB' := ((HB.out.grow HW.out).keepBox HTA.out (.bool n') (.slice pb kb cb))
 have tA' := HTA.out.set (.bool n') (.slice pb kb cb)
 have tB' := HTB.out.other (b' := w.heap.size) (by omega) (.bool n') (.slice pb kb cb)
 have tR' := HR.out.other (b' := w.heap.size) (by omega) (.bool n') (.slice pb kb cb)
 have o1 := ξ1x w.heap.size W (b := w.heap.size) (Nat.le_refl _) (.bool n') (.slice pb kb cb)
 generalize (W.setCell _ _).setCell _ _ = W1 at *
 have hA2 := ξ (hA'.keepBox tB' (.bool n) (.slice pa ka ca))
 have hB2 := ξ (hB'.keepBox tB' (.bool n) (.slice pa ka ca))
 have tA2 := tA'.other (b' := w.heap.size + 1) (by omega) (.bool n) (.slice pa ka ca)
 have tR2 := ξ (tR'.other (b' := w.heap.size + 1) (by omega) (.bool n) (.slice pa ka ca))
 have o2 := ξ1x w.heap.size W1 (b := w.heap.size + 1) (by omega) (.bool n) (.slice pa ka ca)
 generalize (W1.setCell _ _).setCell _ _ = W2 at *
 have O2 := ξ (Below.trans HW.out (Below.trans o1 o2))
 have HTA2 := ξ tA2
 have hsz2 := tR2.out.lt
 clear hA' hB' tA' tB' tR' o1 o2 tA2 HTA HTB HR hsz HW
 refine (ξ7X _ _ _ lb la hB2.out hA2.out (by omega) (by omega) Hle.out).mono ?_
 rintro _ w2 ⟨_, rfl, g2, r, rfl, hr⟩
 have G2 := ξ g2
 have Hr := ξ hr
 clear hr
 have a0 := HTA2.out.c0 w2 g2
 clear g2
 go_wp2_with fail
 refine (ξ04 _ n' r _ _ Hr.out (Nat.le_trans HL.out (by omega)) Hz.out).mono ?_
 rintro _ w3 ⟨r3, rfl, g3, hr3⟩
 obtain ⟨p3, k3, c3, rfl, hr3⟩ := hr3
 obtain ⟨sg, hsg⟩ : ∃ sg, sg = decide (z < 0) := ⟨_, rfl⟩
 rw [← hsg]
 have Hsg := ξ hsg
 have G3 := ξ (G2.out.trans g3)
 have Hr3 := ξ hr3
 have HR3 := ξ (tR2.out.grow G3.out)
 have r0 := HR3.out.load.1
 have r1 := HR3.out.load.2
 have f0 := HR3.out.f0 0
 have f1 := HR3.out.f0 1
 clear g3 hr3 a0 hsg
 go_wp2_with fail
 refine bodyPost_ret (v := .agg #[.bool sg, .slice p3 k3 c3]) (by simp [results, Tryz.results199, go_sem, r0, r1]) rfl ?_
 exact ξ1s (by omega) (Gr.trans O2.out G3.out) HR3.out Hr3.out Hsg.out
theorem ξ8f (w : World) (va vb : Value) (n n' : Bool) (la lb : List Nat) (z : Int) (hz : zval n la + zval n' lb = z) (ha : IntL w va n la) (hb : IntL w vb n' lb) (hla : la.length ≤ 1099511627776) (hlb : lb.length ≤ 1099511627776) :
  Calls Tryz.prog 199 #[va, vb] w (Ret w fun r w' => IntC w' r z) := by
 by_cases hn : n = n'
 ·subst hn; exact ξ6W w va vb n la lb z hz ha hb hla hlb
 ·rcases Nat.lt_or_ge (nval la) (nval lb) with h | h
  ·exact ξ7j w va vb n n' hn la lb z hz ha hb hla hlb h
  ·exact ξ6z w va vb n n' hn la lb z hz ha hb hla hlb h
theorem ξat (n n' : Bool) (la lb : List Nat) : (if (n != n') then -((nval la * nval lb : Nat) : Int) else ((nval la * nval lb : Nat) : Int)) = zval n la * zval n' lb := by
 unfold zval
 rcases n with _ | _ <;> rcases n' with _ | _ <;> simp [Int.natCast_mul, Int.neg_mul, Int.mul_neg]
theorem ξa8 (n : Bool) (la : List Nat) : (if (!n) then -((nval la : Nat) : Int) else ((nval la : Nat) : Int)) = - zval n la := by
 unfold zval
 rcases n with _ | _ <;> simp
theorem ξ5A (w : World) (va vb : Value) (n n' : Bool) (la lb : List Nat) (z : Int) (hz : zval n la * zval n' lb = z) (ha : IntL w va n la) (hb : IntL w vb n' lb) (hla : la.length ≤ 1099511627776) (hlb : lb.length ≤ 1099511627776) :
  Calls Tryz.prog 131 #[va, vb] w (Ret w fun r w' => IntC w' r z) := by
 have Hz := ξ (show _ = z from (ξat n n' la lb).trans hz)
 clear hz
 obtain ⟨pa, ka, ca, rfl, ha⟩ := ha
 obtain ⟨pb, kb, cb, rfl, hb⟩ := hb
 have HA := ξ ha
 have HB := ξ hb
 have HL := ξ (ξ1L (Nat.le_trans (ξm ha.dig) hla) (Nat.le_trans (ξm hb.dig) hlb))
 clear ha hb
 have B3 := boxed3 w (.bool n) (.slice pa ka ca) (.bool n') (.slice pb kb cb) (.bool false) (.slice none 0 0) 66 66 66
 go_enter Tryz.func131, Tryz.ntmps131
 go_wp2_with fail
 generalize ((w.alloc _).alloc _).alloc _ = W at B3 ⊢
 obtain ⟨G0, ta, tb, tr⟩ := B3
 have HW := ξ G0
 have HR := ξ tr
 have a0 := ta.c0
 have a1 := ta.c1
 have b0 := tb.c0
 have b1 := tb.c1
 have hsz := tr.lt
 clear G0 ta tb tr
 have g0 : Gr W W.drew := (Gr.refl W).drew
 refine ξL [(0, true), (1, true), (2, true), (3, true), (4, true), (5, true), (6, true), (7, true), (8, true), (9, false), (10, false), (11, false)] (by kernel_rfl) (by kernel_rfl) rfl (by kernel_rfl) (fun _ _ d _ _ h => by cases d <;> exact h) ?_
 repeat (refine ξ2 (v := ?_) g0 rfl rfl (fun w' hg => ?_) (fun K hK => ?_); rotate_left; (go_simp; rfl); go_simp; refine hK _ _ ?_; clear hK K)
 refine ξi rfl rfl (fun K hK => ?_)
 go_simp
 refine (ξ5j _ _ _ la lb ((HA.out.grow HW.out).grow g0) ((HB.out.grow HW.out).grow g0) (by omega) (by omega)).mono ?_
 rintro _ w2 ⟨r, rfl, g2, hr⟩
 refine ⟨fun _ => g2, hK _ _ ?_⟩
 clear hK K
 have G2 := ξ (g0.trans g2)
 have Hr := ξ hr
 clear g2 hr
 refine ξi rfl rfl (fun K hK => ?_)
 go_simp
 refine (ξ04 _ (n != n') r _ _ Hr.out (Nat.le_trans HL.out (by omega)) Hz.out).mono ?_
 rintro _ w3 ⟨r3, rfl, g3, hr3⟩
 refine ⟨fun _ => g3, hK _ _ ?_⟩
 clear hK K
 obtain ⟨p3, k3, c3, rfl, hr3⟩ := hr3
 obtain ⟨sg, hsg⟩ : ∃ sg, sg = decide (z < 0) := ⟨_, rfl⟩
 rw [← hsg]
 have Hsg := ξ hsg
 have G3 := ξ (G2.out.trans g3)
 have Hr3 := ξ hr3
 have HR3 := ξ (HR.out.grow G3.out)
 have r0 := HR3.out.load.1
 have r1 := HR3.out.load.2
 have f0 := HR3.out.f0 0
 have f1 := HR3.out.f0 1
 clear g3 hr3 a0 a1 b0 b1 g0 hsg
 refine ξi rfl rfl (fun K hK => ?_)
 go_simp
 refine ⟨fun h => Bool.noConfusion h, hK _ _ ?_⟩
 clear hK K
 refine ξ9 ?_
 go_wp2_with fail
 refine bodyPost_ret (v := .agg #[.bool sg, .slice p3 k3 c3]) (by simp [results, Tryz.results131, go_sem, r0, r1]) rfl ?_
 exact ξ1s (by omega) (HW.out.trans G3.out) HR3.out Hr3.out Hsg.out
theorem ξ7Y (w : World) (va : Value) (n : Bool) (la : List Nat) (z : Int) (hz : - zval n la = z) (ha : IntL w va n la) (hla : la.length ≤ 1099511627776) :
  Calls Tryz.prog 147 #[va] w (Ret w fun r w' => IntC w' r z) := by
 have Hz := ξ (show _ = z from (ξa8 n la).trans hz)
 clear hz
 obtain ⟨pa, ka, ca, rfl, ha⟩ := ha
 have HA := ξ ha
 have HL := ξ (Nat.le_trans (ξm ha.dig) hla)
 clear ha
 have B3 := boxed2 w (.bool n) (.slice pa ka ca) (.bool false) (.slice none 0 0) 66 66
 go_enter Tryz.func147, Tryz.ntmps147
 go_wp2_with fail
 generalize (w.alloc _).alloc _ = W at B3 ⊢
 obtain ⟨G0, ta, tr⟩ := B3
 have HW := ξ G0
 have HR := ξ tr
 have a0 := ta.c0
 have a1 := ta.c1
 have hsz := tr.lt
 clear G0 ta tr
 have g0 : Gr W W.drew := (Gr.refl W).drew
 refine ξL [(0, true), (1, true), (2, true), (3, true), (4, true), (5, false), (6, false), (7, false)] (by kernel_rfl) (by kernel_rfl) rfl (by kernel_rfl) (fun _ _ d _ _ h => by cases d <;> exact h) ?_
 repeat (refine ξ2 (v := ?_) g0 rfl rfl (fun w' hg => ?_) (fun K hK => ?_); rotate_left; (go_simp; rfl); go_simp; refine hK _ _ ?_; clear hK K)
 refine ξi rfl rfl (fun K hK => ?_)
 go_simp
 refine (ξ3n _ _ _ la [] ((HA.out.grow HW.out).grow g0) (NatL.nil _) (by omega) (by simp)).mono ?_
 rintro _ w2 ⟨r, rfl, g2, hr⟩
 refine ⟨fun _ => g2, hK _ _ ?_⟩
 clear hK K
 rw [show nval la + nval [] = nval la from rfl] at hr
 have G2 := ξ (g0.trans g2)
 have Hr := ξ hr
 clear g2 hr
 refine ξi rfl rfl (fun K hK => ?_)
 go_simp
 refine (ξ04 _ (!n) r _ _ Hr.out (Nat.le_trans HL.out (by omega)) Hz.out).mono ?_
 rintro _ w3 ⟨r3, rfl, g3, hr3⟩
 refine ⟨fun _ => g3, hK _ _ ?_⟩
 clear hK K
 obtain ⟨p3, k3, c3, rfl, hr3⟩ := hr3
 obtain ⟨sg, hsg⟩ : ∃ sg, sg = decide (z < 0) := ⟨_, rfl⟩
 rw [← hsg]
 have Hsg := ξ hsg
 have G3 := ξ (G2.out.trans g3)
 have Hr3 := ξ hr3
 have HR3 := ξ (HR.out.grow G3.out)
 have r0 := HR3.out.load.1
 have r1 := HR3.out.load.2
 have f0 := HR3.out.f0 0
 have f1 := HR3.out.f0 1
 clear g3 hr3 a0 a1 g0 hsg
 refine ξi rfl rfl (fun K hK => ?_)
 go_simp
 refine ⟨fun h => Bool.noConfusion h, hK _ _ ?_⟩
 clear hK K
 refine ξ9 ?_
 go_wp2_with fail
 refine bodyPost_ret (v := .agg #[.bool sg, .slice p3 k3 c3]) (by simp [results, Tryz.results147, go_sem, r0, r1]) rfl ?_
 exact ξ1s (by omega) (HW.out.trans G3.out) HR3.out Hr3.out Hsg.out
theorem ξ16 (z : Int) : zval (decide (z < 0)) (digs z.natAbs) = z := by
 unfold zval
 rw [ξ4]
 by_cases h : z < 0
 ·simp [h]; omega
 ·simp [h]; omega
theorem ξ5n (w : World) (va vb : Value) (n n' : Bool) (la lb : List Nat) (z : Int) (hz : zval n la - zval n' lb = z) (ha : IntL w va n la) (hb : IntL w vb n' lb) (hla : la.length ≤ 1099511627776) (hlb : lb.length ≤ 1099511627776) :
  Calls Tryz.prog 194 #[va, vb] w (Ret w fun r w' => IntC w' r z) := by
 have Hz := ξ (show zval n la + zval (decide (-zval n' lb < 0)) (digs (-zval n' lb).natAbs) = z by rw [ξ16, ← hz]; omega)
 have HLB := ξ (show (digs (-zval n' lb).natAbs).length ≤ 1099511627776 by
  obtain ⟨pb, kb, cb, rfl, hb⟩ := hb
  have e : (-zval n' lb).natAbs = nval lb := by unfold zval; rcases n' with _ | _ <;> simp
  rw [e]; exact Nat.le_trans (ξm hb.dig) hlb)
 clear hz
 have HB0 := ξ hb
 have HA0 := ξ ha
 obtain ⟨pa, ka, ca, rfl, ha⟩ := ha
 obtain ⟨pb, kb, cb, rfl, hb⟩ := hb
 clear ha hb
 have B3 := boxed3 w (.bool n) (.slice pa ka ca) (.bool n') (.slice pb kb cb) (.bool false) (.slice none 0 0) 66 66 66
 go_enter Tryz.func194, Tryz.ntmps194
 go_wp2_with fail
 generalize ((w.alloc _).alloc _).alloc _ = W at B3 ⊢
 obtain ⟨G0, ta, tb, tr⟩ := B3
 have HW := ξ G0
 have HR := ξ tr
 have a0 := ta.c0
 have a1 := ta.c1
 have b0 := tb.c0
 have b1 := tb.c1
 have hsz := tr.lt
 clear G0 ta tb tr
 have g0 : Gr W W.drew := (Gr.refl W).drew
 refine ξL [(0, true), (1, true), (2, false), (3, false), (4, false)] (by kernel_rfl) (by kernel_rfl) rfl (by kernel_rfl) (fun _ _ d _ _ h => by cases d <;> exact h) ?_
 repeat (refine ξ2 (v := ?_) g0 rfl rfl (fun w' hg => ?_) (fun K hK => ?_); rotate_left; (go_simp; rfl); go_simp; refine hK _ _ ?_; clear hK K)
 refine ξi rfl rfl (fun K hK => ?_)
 go_simp
 refine (ξ7Y _ _ n' lb _ rfl (HB0.out.grow (HW.out.trans g0)) hlb).mono ?_
 rintro _ w2 ⟨r, rfl, g2, hr⟩
 refine ⟨fun _ => g2, hK _ _ ?_⟩
 clear hK K
 have G2 := ξ (g0.trans g2)
 have Hr := ξ hr
 clear g2 hr
 refine ξi rfl rfl (fun K hK => ?_)
 go_simp
 refine (ξ8f _ _ _ n _ la _ z Hz.out (HA0.out.grow (HW.out.trans G2.out)) Hr.out hla HLB.out).mono ?_
 rintro _ w3 ⟨r3, rfl, g3, hr3⟩
 refine ⟨fun _ => g3, hK _ _ ?_⟩
 clear hK K
 obtain ⟨p3, k3, c3, rfl, hr3⟩ := hr3
 obtain ⟨sg, hsg⟩ : ∃ sg, sg = decide (z < 0) := ⟨_, rfl⟩
 rw [← hsg]
 have Hsg := ξ hsg
 have G3 := ξ (G2.out.trans g3)
 have Hr3 := ξ hr3
 have HR3 := ξ (HR.out.grow G3.out)
 have r0 := HR3.out.load.1
 have r1 := HR3.out.load.2
 have f0 := HR3.out.f0 0
 have f1 := HR3.out.f0 1
 clear g3 hr3 a0 a1 b0 b1 g0 hsg
 refine ξi rfl rfl (fun K hK => ?_)
 go_simp
 refine ⟨fun h => Bool.noConfusion h, hK _ _ ?_⟩
 clear hK K
 refine ξ9 ?_
 go_wp2_with fail
 refine bodyPost_ret (v := .agg #[.bool sg, .slice p3 k3 c3]) (by simp [results, Tryz.results194, go_sem, r0, r1]) rfl ?_
 exact ξ1s (by omega) (HW.out.trans G3.out) HR3.out Hr3.out Hsg.out
end Go.Proofs.YtcjgimlcefhhmaaGreatDoor

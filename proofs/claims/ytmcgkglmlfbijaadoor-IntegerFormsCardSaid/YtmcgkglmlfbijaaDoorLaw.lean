/-
  What the statements about integers share: few, awake.
-/
import Derived.Test.YtmcgkglmlfbijaaDoorIntH
import Derived.Test.YtmcgkglmlfbijaaDoorEarly
import Derived.Deep.RegionWith
import Derived.Laws.EntriesVeiled
namespace Go.Proofs.YtmcgkglmlfbijaaDoor
open Go.RowKit
set_option linter.unusedVariables false
set_option linter.unusedSimpArgs false

theorem IntC.same {x z : Int} : (decide (x < 0) == decide (z < 0) && decide (digs x.natAbs = digs z.natAbs)) = decide (x = z) := by
  by_cases h : x = z
  · subst h; simp
  · rw [decide_eq_false h]
    by_cases h2 : digs x.natAbs = digs z.natAbs
    · have := digs_inj h2
      have h3 : decide (x < 0) ≠ decide (z < 0) := by
        intro e
        have : (x < 0) ↔ (z < 0) := by simpa using e
        omega
      simp [h3]
    · simp [h2]

set_option maxHeartbeats 800000 in
theorem law_awake1 (w : World) (va : Value) (x z : Int) (b : Nat) (ha : IntC w va x) (h1 : -9223372036854775808 ≤ z) (h2 : z ≤ 9223372036854775807) (hc : w.cell? ⟨b, 0, none⟩ = some (.func (.func 13) #[] #[])) :
    Calls Tryd.prog 24 #[va, .int .i64 z, .pointer (some ⟨b, 0, none⟩)] w (Ret w fun r w' => r = .bool (decide (x = z))) := by
  have HA0 := Lib.hid ha
  obtain ⟨pa, ka, ca, rfl, ha⟩ := ha
  clear ha
  obtain ⟨s, hs⟩ : ∃ s, decide (x < 0) = s := ⟨_, rfl⟩
  rw [hs] at HA0 ⊢
  have Hs := Lib.hid hs
  have B1 := boxed1 w (.bool s) (.slice pa ka ca) 25
  have hc1 := B1.1.cell hc
  clear hs
  go_enter Tryd.func24, Tryd.ntmps24
  go_wp2_with fail
  generalize w.alloc _ = W at B1 hc1 ⊢
  obtain ⟨G0, ta⟩ := B1
  have HW := Lib.hid G0
  have a0 := ta.c0
  have a1 := ta.c1
  have hc2 : ∀ w', Gr W w' → w'.cell? ⟨b, 0, none⟩ = some (.func (.func 13) #[] #[]) := fun w' g => g.cell hc1
  have g0 : Gr W W.drew := (Gr.refl W).drew
  clear G0 ta hc hc1
  refine wp_region_eager [(0, true), (1, true), (2, true), (3, false), (4, false), (5, true)] (by kernel_rfl) (by kernel_rfl) rfl (by kernel_rfl) (fun _ _ d _ _ h => by cases d <;> exact h) ?_
  repeat (refine wpE_readB (v := ?_) g0 rfl rfl (fun w' hg => ?_) (fun K hK => ?_); rotate_left; (go_simp; rfl); go_simp; refine hK _ _ ?_; clear hK K)
  refine wpE_do rfl rfl (fun K hK => ?_)
  go_simp
  refine (ref2_From _ z h1 h2).mono ?_
  rintro _ w2 ⟨r2, rfl, g2, hr2⟩
  refine ⟨fun _ => g2, hK _ _ ?_⟩
  clear hK K
  have G2 := Lib.hid (g0.trans g2)
  have Hr2 := Lib.hid hr2
  clear g2 hr2
  refine wpE_do rfl rfl (fun K hK => ?_)
  go_simp
  refine (ref2_Same _ _ _ _ _ _ _ _ (by rw [IntC.same]) (HA0.out.grow (HW.out.trans G2.out)) Hr2.out).mono ?_
  rintro _ w3 ⟨_, rfl, g3, rfl⟩
  refine ⟨fun _ => g3, hK _ _ ?_⟩
  clear hK K
  obtain ⟨t, ht⟩ : ∃ t, decide (x = z) = t := ⟨_, rfl⟩
  rw [ht]
  have Ht := Lib.hid ht
  have g5 : Gr W w3 := G2.out.trans g3
  clear ht g3 g0
  repeat (refine wpE_readB (v := ?_) g5 rfl rfl (fun w' hg => ?_) (fun K hK => ?_); rotate_left; (go_simp; rfl); go_simp; refine hK _ _ ?_; clear hK K)
  refine wpE_nil ?_
  go_wp2_with fail
  go_ret
  exact ⟨_, rfl, HW.out.trans g5, by rw [Ht.out]; rfl⟩

theorem zval_can (z : Int) : zval (decide (z < 0)) (digs z.natAbs) = z := by
  unfold zval
  rw [nval_digs]
  split <;> rename_i h <;> simp at h <;> omega
theorem digs_one (z : Int) (k : Nat) (h1 : -4294967296 < z) (h2 : z < 4294967296) (hk : 1 ≤ k) : (digs z.natAbs).length ≤ k := by
  refine Nat.le_trans (digs_length_le (k := 1) ?_) hk
  rw [Nat.pow_one]
  unfold BB
  omega
theorem quo_can (w : World) (va vb : Value) (x y Q R : Int) (ha : IntC w va x) (hb : IntC w vb y) (x1 : -4294967296 < x) (x2 : x < 4294967296) (y1 : -4294967296 < y) (y2 : y < 4294967296) (h0 : y ≠ 0) (hQ : quoZ false x y = Q) (hR : x - Q * y = R) :
    Calls Tryd.prog 22 #[va, vb] w (Ret w fun r w' => ∃ q s, r = .tuple #[q, s, .int .i64 0] ∧ IntC w' q Q ∧ IntC w' s R) :=
  int_Quo _ _ _ _ _ _ _ x y Q R (zval_can x) (zval_can y) hQ hR ha hb (digs_one x _ x1 x2 (by decide)) (digs_one y _ y1 y2 (by decide)) h0
theorem floor_can (w : World) (va vb : Value) (x y Q R : Int) (ha : IntC w va x) (hb : IntC w vb y) (x1 : -4294967296 < x) (x2 : x < 4294967296) (y1 : -4294967296 < y) (y2 : y < 4294967296) (h0 : y ≠ 0) (hQ : quoZ true x y = Q) (hR : x - Q * y = R) :
    Calls Tryd.prog 23 #[va, vb] w (Ret w fun r w' => ∃ q s, r = .tuple #[q, s, .int .i64 0] ∧ IntC w' q Q ∧ IntC w' s R) :=
  int_Floor _ _ _ _ _ _ _ x y Q R (zval_can x) (zval_can y) hQ hR ha hb (digs_one x _ x1 x2 (by decide)) (digs_one y _ y1 y2 (by decide)) h0

theorem law_awake1T (w : World) (va : Value) (z : Int) (b : Nat) (ha : IntC w va z) (h1 : -9223372036854775808 ≤ z) (h2 : z ≤ 9223372036854775807) (hc : w.cell? ⟨b, 0, none⟩ = some (.func (.func 13) #[] #[])) :
    Calls Tryd.prog 24 #[va, .int .i64 z, .pointer (some ⟨b, 0, none⟩)] w (Ret w fun r w' => r = .bool true) :=
  (law_awake1 w va z z b ha h1 h2 hc).mono fun e w' ⟨v, he, hg, hv⟩ => ⟨v, he, hg, by rw [hv]; simp⟩

def zcI : TypeId → Array Value := fun _ => #[.bool false, .slice none 0 0]
theorem Fresh.two {T : TypeId} {b : Nat} {w : World} (h : Fresh (zcI T) T b w) : Two w b (.bool false) (.slice none 0 0) := ⟨T, h⟩
theorem allocI : AllocIs Tryd.prog 25 (zcI 25) := fun w => by
  simp [go_sem]
  rfl
theorem Gr.two {a w : World} (g : Gr a w) {b : Nat} (hb : ¬ b < a.heap.size) (u v : Value) : Gr a ((w.setCell ⟨b, 0, none⟩ u).setCell ⟨b, 1, none⟩ v) :=
  Below.setCell (Below.setCell g (by show a.heap.size ≤ b; omega) u) (by show a.heap.size ≤ b; omega) v

theorem IntC.keepBox {w : World} {v : Value} {z : Int} {b : Nat} {s : Bool} {p : Option Addr} {k c : Nat} (h : IntC w v z) (t : Two w b (.bool s) (.slice p k c)) (x y : Value) : IntC ((w.setCell ⟨b, 0, none⟩ x).setCell ⟨b, 1, none⟩ y) v z := by
  obtain ⟨p', k', c', rfl, h⟩ := h
  exact ⟨p', k', c', rfl, h.keepBox t x y⟩

set_option maxRecDepth 100000 in
set_option maxHeartbeats 6400000 in
theorem law_awake (w : World) : Calls Tryd.prog 5 #[] w (Ret w fun r w' => r = .bool true) := by
  go_enter Tryd.func5, Tryd.ntmps5
  go_wp2_with fail
  generalize hW : w.alloc _ = W1
  have G0 : Gr w W1 := by rw [← hW]; exact (Gr.refl w).alloc _
  have hc0 : W1.cell? ⟨w.heap.size, 0, none⟩ = some (.func (.func 13) #[] #[]) := by rw [← hW]; simp [go_sem]
  clear hW
  generalize w.heap.size = b0 at hc0 ⊢
  have HW1 := Lib.hid G0
  have hc : ∀ w', Gr W1 w' → w'.cell? ⟨b0, 0, none⟩ = some (.func (.func 13) #[] #[]) := fun w' g => g.cell hc0
  clear G0 hc0
  have g0 : Gr W1 W1.drew := (Gr.refl _).drew
  refine wp_region_late zcI 60 [(0, 1), (2, 1), (1, 0), (3, 0), (4, 0), (5, 1), (6, 1), (7, 1), (8, 1), (9, 2), (10, 2), (11, 0), (12, 0), (13, 1)] (by kernel_rfl) (by kernel_rfl) rfl (by kernel_rfl) (fun _ _ d _ _ h => by cases d <;> exact h) (fun _ _ d _ _ h => by cases d <;> exact h) (by intro i hi; simp at hi; rcases hi with rfl | rfl <;> exact ⟨_, _, rfl, rfl, rfl, allocI⟩) ?_
  repeat (refine wpF_readB (v := ?_) g0 rfl rfl (fun w' hg => ?_) (fun K hK => ?_); rotate_left; (go_simp; rfl); go_simp; refine hK _ _ ?_; clear hK K)
  refine wpF_do rfl rfl (fun K hK w1 g1 => ?_)
  go_simp
  refine (ref2_From _ (-7) (by decide) (by decide)).mono ?_
  rintro _ w2 ⟨r2, rfl, g2, hr2⟩
  refine ⟨fun _ => g2, hK _ _ ?_⟩
  clear hK K
  have H2 := Lib.hid hr2
  have G2 := Lib.hid ((g0.trans g1).trans g2)
  clear g1 g2 hr2
  have g2 := G2.out
  refine wpF_do rfl rfl (fun K hK w3 g3 => ?_)
  go_simp
  refine (ref2_From _ (2) (by decide) (by decide)).mono ?_
  rintro _ w4 ⟨r4, rfl, g4, hr4⟩
  refine ⟨fun _ => g4, hK _ _ ?_⟩
  clear hK K
  have H4 := Lib.hid hr4
  have G4 := Lib.hid (g3.trans g4)
  clear g3 g4 hr4 g2
  have g4 := G2.out.trans G4.out
  refine wpF_do rfl rfl (fun K hK w5 g5 => ?_)
  go_simp
  refine (quo_can _ _ _ (-7) (2) (-3) (-1) (H2.out.grow (G4.out.trans g5)) (H4.out.grow g5) (by decide) (by decide) (by decide) (by decide) (by decide) (by decide) (by decide)).mono ?_
  rintro _ w6 ⟨_, rfl, g6, qa, qb, rfl, hq, hs⟩
  refine ⟨fun _ => g6, hK _ _ ?_⟩
  clear hK K
  have g7 := g4.trans (g5.trans g6)
  have HQ1 := Lib.hid hq
  have HS1 := Lib.hid hs
  obtain ⟨pa1, ka1, ca1, rfl, _⟩ := hq
  obtain ⟨pb1, kb1, cb1, rfl, _⟩ := hs
  clear G2 G4 H2 H4 g4 g5 g6
  repeat (refine wpF_readB (v := ?_) g7 rfl rfl (fun w' hg => ?_) (fun K hK => ?_); rotate_left; (go_simp; rfl); go_simp; refine hK _ _ ?_; clear hK K)
  refine wpF_new rfl rfl (fun K w8 b12 g8 f2 n2 hK => hK _ _ ?_)
  clear hK K
  refine wpF_new rfl rfl (fun K w9 b13 g9 f3 n3 hK => hK _ _ ?_)
  clear hK K
  have T2 := f2.two
  have T3 := f3.two
  clear f2 f3
  refine wpF_do rfl rfl (fun K hK w10 g10 => ?_)
  have e2 := T2.grow (g9.trans g10)
  have d0 := e2.c0 w10 (Gr.refl _)
  have d1 := e2.c1 w10 (Gr.refl _)
  have d2 := e2.f0 0
  have d3 := e2.f0 1
  go_simp
  refine ⟨fun h => Bool.noConfusion h, hK _ _ ?_⟩
  clear hK K
  have h11 := (g7.trans (g8.trans (g9.trans g10))).two n2 (.bool true) (.slice pa1 ka1 ca1)
  have U2 := e2.set (.bool true) (.slice pa1 ka1 ca1)
  have e3 := (T3.grow g10).other (fun e => n3 (.inr e)) (.bool true) (.slice pa1 ka1 ca1)
  have HQ1 := Lib.hid ((HQ1.out.grow (g8.trans (g9.trans g10))).keepBox e2 (.bool true) (.slice pa1 ka1 ca1))
  have HS1 := Lib.hid ((HS1.out.grow (g8.trans (g9.trans g10))).keepBox e2 (.bool true) (.slice pa1 ka1 ca1))
  clear d0 d1 d2 d3 e2 T2 T3
  generalize (w10.setCell _ _).setCell _ _ = w11 at h11 U2 e3 HQ1 HS1 ⊢
  refine wpF_do rfl rfl (fun K hK w12 g12 => ?_)
  have e3 := e3.grow g12
  have d0 := e3.c0 w12 (Gr.refl _)
  have d1 := e3.c1 w12 (Gr.refl _)
  have d2 := e3.f0 0
  have d3 := e3.f0 1
  go_simp
  refine ⟨fun h => Bool.noConfusion h, hK _ _ ?_⟩
  clear hK K
  have h13 := (h11.trans g12).two (fun h => n3 (.inl h)) (.bool true) (.slice pb1 kb1 cb1)
  have U3 := e3.set (.bool true) (.slice pb1 kb1 cb1)
  have U2 := (U2.grow g12).other (fun e => n3 (.inr e.symm)) (.bool true) (.slice pb1 kb1 cb1)
  have HQ1 := Lib.hid ((HQ1.out.grow g12).keepBox e3 (.bool true) (.slice pb1 kb1 cb1))
  have HS1 := Lib.hid ((HS1.out.grow g12).keepBox e3 (.bool true) (.slice pb1 kb1 cb1))
  clear d0 d1 d2 d3 e3
  generalize (w12.setCell _ _).setCell _ _ = W2 at h13 U2 U3 HQ1 HS1 ⊢
  repeat (refine wpF_readB (v := ?_) h13 rfl rfl (fun w' hg => ?_) (fun K hK => ?_); rotate_left; (go_simp; rfl); go_simp; refine hK _ _ ?_; clear hK K)
  refine wpF_nil ?_
  have HW2 := Lib.hid h13
  have UA1 := Lib.hid U2
  have UB1 := Lib.hid U3
  have hc' : ∀ w', Gr W2 w' → w'.cell? ⟨b0, 0, none⟩ = some (.func (.func 13) #[] #[]) := fun w' g => hc w' (h13.trans g)
  clear hc h11 h13 U2 U3 n2 n3 g7 g8 g9 g10 g12 g0
  have hc := hc'
  clear hc'
  go_wp2_with fail
  have g0 : Gr W2 W2.drew := (Gr.refl _).drew
  refine wp_region_late zcI 60 [(0, 1), (2, 1), (1, 0), (3, 0), (4, 0), (5, 1), (6, 1), (7, 1), (8, 1), (9, 2), (10, 2), (11, 0), (12, 0), (13, 1)] (by kernel_rfl) (by kernel_rfl) rfl (by kernel_rfl) (fun _ _ d _ _ h => by cases d <;> exact h) (fun _ _ d _ _ h => by cases d <;> exact h) (by intro i hi; simp at hi; rcases hi with rfl | rfl <;> exact ⟨_, _, rfl, rfl, rfl, allocI⟩) ?_
  repeat (refine wpF_readB (v := ?_) g0 rfl rfl (fun w' hg => ?_) (fun K hK => ?_); rotate_left; (go_simp; rfl); go_simp; refine hK _ _ ?_; clear hK K)
  refine wpF_do rfl rfl (fun K hK w1 g1 => ?_)
  go_simp
  refine (ref2_From _ (-7) (by decide) (by decide)).mono ?_
  rintro _ w2 ⟨r2, rfl, g2, hr2⟩
  refine ⟨fun _ => g2, hK _ _ ?_⟩
  clear hK K
  have H2 := Lib.hid hr2
  have G2 := Lib.hid ((g0.trans g1).trans g2)
  clear g1 g2 hr2
  have g2 := G2.out
  refine wpF_do rfl rfl (fun K hK w3 g3 => ?_)
  go_simp
  refine (ref2_From _ (2) (by decide) (by decide)).mono ?_
  rintro _ w4 ⟨r4, rfl, g4, hr4⟩
  refine ⟨fun _ => g4, hK _ _ ?_⟩
  clear hK K
  have H4 := Lib.hid hr4
  have G4 := Lib.hid (g3.trans g4)
  clear g3 g4 hr4 g2
  have g4 := G2.out.trans G4.out
  refine wpF_do rfl rfl (fun K hK w5 g5 => ?_)
  go_simp
  refine (floor_can _ _ _ (-7) (2) (-4) (1) (H2.out.grow (G4.out.trans g5)) (H4.out.grow g5) (by decide) (by decide) (by decide) (by decide) (by decide) (by decide) (by decide)).mono ?_
  rintro _ w6 ⟨_, rfl, g6, qa, qb, rfl, hq, hs⟩
  refine ⟨fun _ => g6, hK _ _ ?_⟩
  clear hK K
  have g7 := g4.trans (g5.trans g6)
  have HQ2 := Lib.hid hq
  have HS2 := Lib.hid hs
  obtain ⟨pa2, ka2, ca2, rfl, _⟩ := hq
  obtain ⟨pb2, kb2, cb2, rfl, _⟩ := hs
  clear G2 G4 H2 H4 g4 g5 g6
  repeat (refine wpF_readB (v := ?_) g7 rfl rfl (fun w' hg => ?_) (fun K hK => ?_); rotate_left; (go_simp; rfl); go_simp; refine hK _ _ ?_; clear hK K)
  refine wpF_new rfl rfl (fun K w8 b22 g8 f2 n2 hK => hK _ _ ?_)
  clear hK K
  refine wpF_new rfl rfl (fun K w9 b23 g9 f3 n3 hK => hK _ _ ?_)
  clear hK K
  have T2 := f2.two
  have T3 := f3.two
  clear f2 f3
  refine wpF_do rfl rfl (fun K hK w10 g10 => ?_)
  have e2 := T2.grow (g9.trans g10)
  have d0 := e2.c0 w10 (Gr.refl _)
  have d1 := e2.c1 w10 (Gr.refl _)
  have d2 := e2.f0 0
  have d3 := e2.f0 1
  go_simp
  refine ⟨fun h => Bool.noConfusion h, hK _ _ ?_⟩
  clear hK K
  have h11 := (g7.trans (g8.trans (g9.trans g10))).two n2 (.bool true) (.slice pa2 ka2 ca2)
  have U2 := e2.set (.bool true) (.slice pa2 ka2 ca2)
  have e3 := (T3.grow g10).other (fun e => n3 (.inr e)) (.bool true) (.slice pa2 ka2 ca2)
  have HQ2 := Lib.hid ((HQ2.out.grow (g8.trans (g9.trans g10))).keepBox e2 (.bool true) (.slice pa2 ka2 ca2))
  have HS2 := Lib.hid ((HS2.out.grow (g8.trans (g9.trans g10))).keepBox e2 (.bool true) (.slice pa2 ka2 ca2))
  clear d0 d1 d2 d3 e2 T2 T3
  generalize (w10.setCell _ _).setCell _ _ = w11 at h11 U2 e3 HQ2 HS2 ⊢
  refine wpF_do rfl rfl (fun K hK w12 g12 => ?_)
  have e3 := e3.grow g12
  have d0 := e3.c0 w12 (Gr.refl _)
  have d1 := e3.c1 w12 (Gr.refl _)
  have d2 := e3.f0 0
  have d3 := e3.f0 1
  go_simp
  refine ⟨fun h => Bool.noConfusion h, hK _ _ ?_⟩
  clear hK K
  have h13 := (h11.trans g12).two (fun h => n3 (.inl h)) (.bool false) (.slice pb2 kb2 cb2)
  have U3 := e3.set (.bool false) (.slice pb2 kb2 cb2)
  have U2 := (U2.grow g12).other (fun e => n3 (.inr e.symm)) (.bool false) (.slice pb2 kb2 cb2)
  have HQ2 := Lib.hid ((HQ2.out.grow g12).keepBox e3 (.bool false) (.slice pb2 kb2 cb2))
  have HS2 := Lib.hid ((HS2.out.grow g12).keepBox e3 (.bool false) (.slice pb2 kb2 cb2))
  clear d0 d1 d2 d3 e3
  generalize (w12.setCell _ _).setCell _ _ = W3 at h13 U2 U3 HQ2 HS2 ⊢
  repeat (refine wpF_readB (v := ?_) h13 rfl rfl (fun w' hg => ?_) (fun K hK => ?_); rotate_left; (go_simp; rfl); go_simp; refine hK _ _ ?_; clear hK K)
  refine wpF_nil ?_
  have HW3 := Lib.hid h13
  have UA2 := Lib.hid U2
  have UB2 := Lib.hid U3
  have hc' : ∀ w', Gr W3 w' → w'.cell? ⟨b0, 0, none⟩ = some (.func (.func 13) #[] #[]) := fun w' g => hc w' (h13.trans g)
  clear hc h11 h13 U2 U3 n2 n3 g7 g8 g9 g10 g12 g0
  have hc := hc'
  clear hc'
  go_wp2_with fail
  have g0 : Gr W3 W3.drew := (Gr.refl _).drew
  refine wp_region_late zcI 60 [(0, 1), (2, 1), (1, 0), (3, 0), (4, 0), (5, 1), (6, 1), (7, 1), (8, 1), (9, 2), (10, 2), (11, 0), (12, 0), (13, 1)] (by kernel_rfl) (by kernel_rfl) rfl (by kernel_rfl) (fun _ _ d _ _ h => by cases d <;> exact h) (fun _ _ d _ _ h => by cases d <;> exact h) (by intro i hi; simp at hi; rcases hi with rfl | rfl <;> exact ⟨_, _, rfl, rfl, rfl, allocI⟩) ?_
  repeat (refine wpF_readB (v := ?_) g0 rfl rfl (fun w' hg => ?_) (fun K hK => ?_); rotate_left; (go_simp; rfl); go_simp; refine hK _ _ ?_; clear hK K)
  refine wpF_do rfl rfl (fun K hK w1 g1 => ?_)
  go_simp
  refine (ref2_From _ (7) (by decide) (by decide)).mono ?_
  rintro _ w2 ⟨r2, rfl, g2, hr2⟩
  refine ⟨fun _ => g2, hK _ _ ?_⟩
  clear hK K
  have H2 := Lib.hid hr2
  have G2 := Lib.hid ((g0.trans g1).trans g2)
  clear g1 g2 hr2
  have g2 := G2.out
  refine wpF_do rfl rfl (fun K hK w3 g3 => ?_)
  go_simp
  refine (ref2_From _ (-2) (by decide) (by decide)).mono ?_
  rintro _ w4 ⟨r4, rfl, g4, hr4⟩
  refine ⟨fun _ => g4, hK _ _ ?_⟩
  clear hK K
  have H4 := Lib.hid hr4
  have G4 := Lib.hid (g3.trans g4)
  clear g3 g4 hr4 g2
  have g4 := G2.out.trans G4.out
  refine wpF_do rfl rfl (fun K hK w5 g5 => ?_)
  go_simp
  refine (floor_can _ _ _ (7) (-2) (-4) (-1) (H2.out.grow (G4.out.trans g5)) (H4.out.grow g5) (by decide) (by decide) (by decide) (by decide) (by decide) (by decide) (by decide)).mono ?_
  rintro _ w6 ⟨_, rfl, g6, qa, qb, rfl, hq, hs⟩
  refine ⟨fun _ => g6, hK _ _ ?_⟩
  clear hK K
  have g7 := g4.trans (g5.trans g6)
  have HQ3 := Lib.hid hq
  have HS3 := Lib.hid hs
  obtain ⟨pa3, ka3, ca3, rfl, _⟩ := hq
  obtain ⟨pb3, kb3, cb3, rfl, _⟩ := hs
  clear G2 G4 H2 H4 g4 g5 g6
  repeat (refine wpF_readB (v := ?_) g7 rfl rfl (fun w' hg => ?_) (fun K hK => ?_); rotate_left; (go_simp; rfl); go_simp; refine hK _ _ ?_; clear hK K)
  refine wpF_new rfl rfl (fun K w8 b32 g8 f2 n2 hK => hK _ _ ?_)
  clear hK K
  refine wpF_new rfl rfl (fun K w9 b33 g9 f3 n3 hK => hK _ _ ?_)
  clear hK K
  have T2 := f2.two
  have T3 := f3.two
  clear f2 f3
  refine wpF_do rfl rfl (fun K hK w10 g10 => ?_)
  have e2 := T2.grow (g9.trans g10)
  have d0 := e2.c0 w10 (Gr.refl _)
  have d1 := e2.c1 w10 (Gr.refl _)
  have d2 := e2.f0 0
  have d3 := e2.f0 1
  go_simp
  refine ⟨fun h => Bool.noConfusion h, hK _ _ ?_⟩
  clear hK K
  have h11 := (g7.trans (g8.trans (g9.trans g10))).two n2 (.bool true) (.slice pa3 ka3 ca3)
  have U2 := e2.set (.bool true) (.slice pa3 ka3 ca3)
  have e3 := (T3.grow g10).other (fun e => n3 (.inr e)) (.bool true) (.slice pa3 ka3 ca3)
  have HQ3 := Lib.hid ((HQ3.out.grow (g8.trans (g9.trans g10))).keepBox e2 (.bool true) (.slice pa3 ka3 ca3))
  have HS3 := Lib.hid ((HS3.out.grow (g8.trans (g9.trans g10))).keepBox e2 (.bool true) (.slice pa3 ka3 ca3))
  clear d0 d1 d2 d3 e2 T2 T3
  generalize (w10.setCell _ _).setCell _ _ = w11 at h11 U2 e3 HQ3 HS3 ⊢
  refine wpF_do rfl rfl (fun K hK w12 g12 => ?_)
  have e3 := e3.grow g12
  have d0 := e3.c0 w12 (Gr.refl _)
  have d1 := e3.c1 w12 (Gr.refl _)
  have d2 := e3.f0 0
  have d3 := e3.f0 1
  go_simp
  refine ⟨fun h => Bool.noConfusion h, hK _ _ ?_⟩
  clear hK K
  have h13 := (h11.trans g12).two (fun h => n3 (.inl h)) (.bool true) (.slice pb3 kb3 cb3)
  have U3 := e3.set (.bool true) (.slice pb3 kb3 cb3)
  have U2 := (U2.grow g12).other (fun e => n3 (.inr e.symm)) (.bool true) (.slice pb3 kb3 cb3)
  have HQ3 := Lib.hid ((HQ3.out.grow g12).keepBox e3 (.bool true) (.slice pb3 kb3 cb3))
  have HS3 := Lib.hid ((HS3.out.grow g12).keepBox e3 (.bool true) (.slice pb3 kb3 cb3))
  clear d0 d1 d2 d3 e3
  generalize (w12.setCell _ _).setCell _ _ = W4 at h13 U2 U3 HQ3 HS3 ⊢
  repeat (refine wpF_readB (v := ?_) h13 rfl rfl (fun w' hg => ?_) (fun K hK => ?_); rotate_left; (go_simp; rfl); go_simp; refine hK _ _ ?_; clear hK K)
  refine wpF_nil ?_
  have HW4 := Lib.hid h13
  have UA3 := Lib.hid U2
  have UB3 := Lib.hid U3
  have hc' : ∀ w', Gr W4 w' → w'.cell? ⟨b0, 0, none⟩ = some (.func (.func 13) #[] #[]) := fun w' g => hc w' (h13.trans g)
  clear hc h11 h13 U2 U3 n2 n3 g7 g8 g9 g10 g12 g0
  have hc := hc'
  clear hc'
  have X2 := Lib.hid (HW3.out.trans HW4.out)
  have UA1 := Lib.hid (UA1.out.grow X2.out)
  have HQ1 := Lib.hid (HQ1.out.grow X2.out)
  have UB1 := Lib.hid (UB1.out.grow X2.out)
  have HS1 := Lib.hid (HS1.out.grow X2.out)
  have UA2 := Lib.hid (UA2.out.grow HW4.out)
  have HQ2 := Lib.hid (HQ2.out.grow HW4.out)
  have UB2 := Lib.hid (UB2.out.grow HW4.out)
  have HS2 := Lib.hid (HS2.out.grow HW4.out)
  have HC := Lib.hid hc
  clear hc
  have Y0 := Lib.hid (Gr.refl W4)
  have hcw := HC.out W4 Y0.out
  have cx := UA1.out.c0 W4 Y0.out
  have dx := UA1.out.c1 W4 Y0.out
  go_wp2_with fail
  refine (law_awake1T _ _ (-3) _ (HQ1.out.grow Y0.out) (by decide) (by decide) (by assumption)).mono ?_
  clear hcw cx dx
  rintro _ V0 ⟨_, rfl, gv, rfl⟩
  have Y1 := Lib.hid (Y0.out.trans gv)
  clear gv
  have hcw := HC.out V0 Y1.out
  have cx := UB1.out.c0 V0 Y1.out
  have dx := UB1.out.c1 V0 Y1.out
  go_wp2_with fail
  refine (law_awake1T _ _ (-1) _ (HS1.out.grow Y1.out) (by decide) (by decide) (by assumption)).mono ?_
  clear hcw cx dx
  rintro _ V1 ⟨_, rfl, gv, rfl⟩
  have Y2 := Lib.hid (Y1.out.trans gv)
  clear gv
  have hcw := HC.out V1 Y2.out
  have cx := UA2.out.c0 V1 Y2.out
  have dx := UA2.out.c1 V1 Y2.out
  go_wp2_with fail
  refine (law_awake1T _ _ (-4) _ (HQ2.out.grow Y2.out) (by decide) (by decide) (by assumption)).mono ?_
  clear hcw cx dx
  rintro _ V2 ⟨_, rfl, gv, rfl⟩
  have Y3 := Lib.hid (Y2.out.trans gv)
  clear gv
  have hcw := HC.out V2 Y3.out
  have cx := UB2.out.c0 V2 Y3.out
  have dx := UB2.out.c1 V2 Y3.out
  go_wp2_with fail
  refine (law_awake1T _ _ (1) _ (HS2.out.grow Y3.out) (by decide) (by decide) (by assumption)).mono ?_
  clear hcw cx dx
  rintro _ V3 ⟨_, rfl, gv, rfl⟩
  have Y4 := Lib.hid (Y3.out.trans gv)
  clear gv
  have hcw := HC.out V3 Y4.out
  have cx := UA3.out.c0 V3 Y4.out
  have dx := UA3.out.c1 V3 Y4.out
  go_wp2_with fail
  refine (law_awake1T _ _ (-4) _ (HQ3.out.grow Y4.out) (by decide) (by decide) (by assumption)).mono ?_
  clear hcw cx dx
  rintro _ V4 ⟨_, rfl, gv, rfl⟩
  have Y5 := Lib.hid (Y4.out.trans gv)
  clear gv
  have hcw := HC.out V4 Y5.out
  have cx := UB3.out.c0 V4 Y5.out
  have dx := UB3.out.c1 V4 Y5.out
  go_wp2_with fail
  refine (law_awake1T _ _ (-1) _ (HS3.out.grow Y5.out) (by decide) (by decide) (by assumption)).mono ?_
  clear hcw cx dx
  rintro _ V5 ⟨_, rfl, gv, rfl⟩
  have Y6 := Lib.hid (Y5.out.trans gv)
  clear gv
  go_wp2_with fail
  go_ret
  exact ⟨_, rfl, HW1.out.trans (HW2.out.trans (X2.out.trans Y6.out)), rfl⟩
end Go.Proofs.YtmcgkglmlfbijaaDoor

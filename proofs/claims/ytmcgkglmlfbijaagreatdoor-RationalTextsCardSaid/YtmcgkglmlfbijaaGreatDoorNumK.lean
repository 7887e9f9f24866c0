/-
  natural.small, natural.Gcd.
-/
import Derived.Test.YtmcgkglmlfbijaaGreatDoorNumL
namespace Go.Proofs.YtmcgkglmlfbijaaGreatDoor
open Go.RowKit Go.Lib
set_option linter.unusedVariables false
set_option linter.unusedSimpArgs false

theorem gcd_round (a b : Nat) : Nat.gcd b (a % b) = Nat.gcd a b := by
  rw [Nat.gcd_comm b, ← Nat.gcd_rec, Nat.gcd_comm]

set_option maxRecDepth 100000 in
set_option maxHeartbeats 1600000 in
theorem nat_small (w : World) (va vb : Value) (x y : Nat) (ha : NatL w va (digs x)) (hb : NatL w vb (digs y)) (hx : x < 18446744073709551616) (hy : y < 18446744073709551616) :
    Calls Tryz.prog 103 #[va, vb] w (Ret w fun r w' => NatL w' r (digs (Nat.gcd x y))) := by
  have HA := Lib.hid ha
  have HB := Lib.hid hb
  clear ha hb
  go_enter Tryz.func103, Tryz.ntmps103
  go_wp2_with fail
  refine (nat_Uint w va _ true HA.out (decide_eq_true (by rw [nval_digs]; exact digs_two.2 hx))).mono ?_
  rintro _ _ ⟨rfl, rfl⟩
  rw [nval_digs]
  go_wp2_with fail
  refine (nat_Uint w vb _ true HB.out (decide_eq_true (by rw [nval_digs]; exact digs_two.2 hy))).mono ?_
  rintro _ _ ⟨rfl, rfl⟩
  rw [nval_digs]
  go_wp2_with fail
  go_loopw [5, 7] (fun u v w1 => ∃ a b : Nat, u = .int .u64 a ∧ v = .int .u64 b ∧ a < 18446744073709551616 ∧ b < 18446744073709551616 ∧ Nat.gcd a b = Nat.gcd x y ∧ Gr w w1) (fun _ v _ => (RowKit.intOf v).toNat)
  case atStart => exact ⟨x, y, by simp, by simp, hx, hy, rfl, Gr.refl _⟩
  case round =>
    obtain ⟨a, b, rfl, rfl, ha, hb, hg, hgr⟩ := hrel
    have Hg := Lib.hid hg
    have Hgr := Lib.hid hgr
    clear hg hgr
    by_cases h0 : b = 0
    · subst h0
      go_wp2_with fail
      refine (nat_From _ a ha).mono ?_
      rintro _ w2 ⟨r2, rfl, g2, h2⟩
      have H2 := Lib.hid h2
      have G2 := Lib.hid g2
      clear h2 g2
      go_wp2_with fail
      go_ret
      refine ⟨_, rfl, Hgr.out.trans G2.out, ?_⟩
      rw [← Hg.out, Nat.gcd_zero_right]
      exact H2.out
    · have hmod := Nat.mod_lt a (show 0 < b by omega)
      obtain ⟨r, hr⟩ : ∃ r, a % b = r := ⟨_, rfl⟩
      have E1 : (a : Int) % (b : Int) = (r : Int) := by rw [← hr]; simp
      have E2 : (a : Int).tmod (b : Int) = (r : Int) := by rw [Int.tmod_eq_emod_of_nonneg (by omega)]; exact E1
      rw [hr] at hmod
      have hbI : (b : Int) ≠ 0 := by omega
      have Hr := Lib.hid hr
      clear hr
      go_wp2_with fail
      refine wp_region_fast [(0, true), (1, true), (2, true), (3, true), (4, true), (5, true)] (by kernel_rfl) (by kernel_rfl) rfl (by kernel_rfl) (fun _ _ d _ _ h => by cases d <;> exact h) ?_
      have g0 : Gr wr wr.drew := (Gr.refl _).drew
      repeat (refine wpE_readB (v := ?_) g0 rfl rfl (fun w' hg => ?_) (fun K hK => ?_); rotate_left; (go_simp; rfl); go_simp; refine hK _ _ ?_; clear hK K)
      refine wpE_nil ?_
      go_wp2_with fail
      refine ⟨⟨b, r, rfl, by first | rfl | simp [E1, E2], hb, by omega, ?_, Hgr.out.trans g0⟩, by simp [RowKit.intOf]; omega⟩
      rw [← Hg.out, ← Hr.out, gcd_round]

/-- the number that a slice reads as -/
def readN (w : World) : Value → Nat
  | .slice (some ⟨b, o, _⟩) n _ => nval ((List.range n).map fun i => match w.cell? ⟨b, o + i, none⟩ with
    | some (.int _ z) => z.toNat
    | _ => 0)
  | _ => 0
theorem readN_eq {w : World} {v : Value} {l : List Nat} (h : NatL w v l) : readN w v = nval l := by
  obtain ⟨h0, p, c, rfl, h1, h2, h3⟩ := h
  rcases h3 with ⟨rfl, h3⟩ | ⟨b, o, rfl, hc⟩
  · have : l = [] := List.eq_nil_of_length_eq_zero (by omega)
    subst this; rfl
  · have key : ((List.range l.length).map fun i => match w.cell? ⟨b, o + i, none⟩ with | some (.int _ z) => z.toNat | _ => 0) = l := by
      apply List.ext_getElem
      · simp
      · intro i hi1 hi2
        simp only [List.getElem_map, List.getElem_range]
        rw [hc i hi2]
        simp [gd_get hi2]
    exact congrArg nval key

set_option maxRecDepth 100000 in
set_option maxHeartbeats 3200000 in
theorem nat_Gcd (w : World) (va vb : Value) (la lb : List Nat) (x y : Nat) (ha : NatL w va la) (hb : NatL w vb lb) (hx : nval la = x) (hy : nval lb = y) (hla : la.length ≤ 1000000) (hlb : lb.length ≤ 1000000) :
    Calls Tryz.prog 66 #[va, vb] w (Ret w fun r w' => NatL w' r (digs (Nat.gcd x y))) := by
  have HA := Lib.hid ha
  have HB := Lib.hid hb
  have HX := Lib.hid hx
  have HY := Lib.hid hy
  have HLx := Lib.hid (show (digs x).length ≤ 1000000 by rw [← hx]; exact Nat.le_trans (digs_nval_len ha.dig) hla)
  have HLy := Lib.hid (show (digs y).length ≤ 1000000 by rw [← hy]; exact Nat.le_trans (digs_nval_len hb.dig) hlb)
  clear ha hb hx hy
  go_enter Tryz.func66, Tryz.ntmps66
  go_wp2_with fail
  refine (nat_fresh w va la HA.out (by omega)).mono ?_
  rintro _ w1 ⟨v1, rfl, g1, h1⟩
  rw [HX.out] at h1
  have H1 := Lib.hid h1
  have G1 := Lib.hid g1
  clear h1 g1
  go_wp2_with fail
  refine (nat_fresh w1 vb lb (HB.out.grow G1.out) (by omega)).mono ?_
  rintro _ w2 ⟨v2, rfl, g2, h2⟩
  rw [HY.out] at h2
  have H2 := Lib.hid h2
  have H1 := Lib.hid (H1.out.grow g2)
  have G2 := Lib.hid (G1.out.trans g2)
  clear h2 g2
  go_wp2_with fail
  go_loopw [0, 1] (fun u v w3 => ∃ a b : Nat, NatL w3 u (digs a) ∧ NatL w3 v (digs b) ∧ (digs a).length ≤ 1000000 ∧ (digs b).length ≤ 1000000 ∧ Nat.gcd a b = Nat.gcd x y ∧ Gr w2 w3) (fun _ v w3 => readN w3 v)
  case atStart => exact ⟨x, y, H1.out, H2.out, HLx.out, HLy.out, rfl, Gr.refl _⟩
  case round =>
    obtain ⟨a, b, ha, hb, hal, hbl, hg, hgr⟩ := hrel
    have hrd := Lib.hid (readN_eq hb)
    have HA := Lib.hid ha
    have HB := Lib.hid hb
    have Hg := Lib.hid hg
    have Hgr := Lib.hid hgr
    obtain ⟨pa, ka, ca, rfl, hka⟩ := ha.slice
    obtain ⟨pb, kb, cb, rfl, hkb⟩ := hb.slice
    have Hka := Lib.hid hka
    have Hkb := Lib.hid hkb
    have ka1 : ka ≤ 1000000 := by rw [hka]; exact hal
    have kb1 : kb ≤ 1000000 := by rw [hkb]; exact hbl
    have HAl := Lib.hid hal
    have HBl := Lib.hid hbl
    clear ha hb hg hgr hka hkb hal hbl
    by_cases h0 : b = 0
    · obtain rfl : kb = 0 := by rw [Hkb.out, h0]; simp [digs_eq_nil.2]
      subst h0
      go_wp2_with fail
      go_ret
      refine ⟨_, rfl, G2.out.trans Hgr.out, ?_⟩
      rw [← Hg.out, Nat.gcd_zero_right]
      exact HA.out
    · have hk0 : 0 < kb := by rw [Hkb.out]; exact List.length_pos_iff.2 (fun e => h0 (digs_eq_nil.1 e))
      by_cases hs : ka ≤ 2 ∧ kb ≤ 2
      · obtain ⟨s1, s2⟩ := hs
        have hxs := digs_two.1 (show (digs a).length ≤ 2 by rw [← Hka.out]; exact s1)
        have hys := digs_two.1 (show (digs b).length ≤ 2 by rw [← Hkb.out]; exact s2)
        have Hsm := Lib.hid (nat_small _ _ _ a b HA.out HB.out hxs hys)
        clear hxs hys
        go_wp2_with fail
        refine Hsm.out.mono ?_
        rintro _ w4 ⟨r4, rfl, g4, h4⟩
        have H4 := Lib.hid h4
        have G4 := Lib.hid g4
        clear h4 g4
        go_wp2_with fail
        go_ret
        refine ⟨_, rfl, G2.out.trans (Hgr.out.trans G4.out), ?_⟩
        rw [← Hg.out]
        exact H4.out
      · have Hdm := Lib.hid (nat_DivMod _ _ _ (digs a) (digs b) HA.out HB.out (Nat.le_trans HAl.out (by decide)) (Nat.le_trans HBl.out (by decide)) (by rw [nval_digs]; exact h0))
        have hmod := Nat.mod_lt a (show 0 < b by omega)
        have Hmod := Lib.hid hmod
        clear hmod
        have hs' : ka ≤ 2 → ¬ kb ≤ 2 := fun e1 e2 => hs ⟨e1, e2⟩
        clear hs
        have fin : ∀ (w4 : World) (q r : Value), NatL w4 r (digs (a % b)) → Gr wr w4 → (∃ a' b' : Nat, NatL w4 (.slice pb kb cb) (digs a') ∧ NatL w4 r (digs b') ∧ (digs a').length ≤ 1000000 ∧ (digs b').length ≤ 1000000 ∧ Nat.gcd a' b' = Nat.gcd x y ∧ Gr w2 w4) ∧ readN w4 r < readN wr (.slice pb kb cb) := fun w4 q r hr hg4 => by
          refine ⟨⟨b, a % b, HB.out.grow hg4, hr, HBl.out, Nat.le_trans (digs_mono_len (Nat.le_of_lt Hmod.out)) HBl.out, by rw [gcd_round]; exact Hg.out, Hgr.out.trans hg4⟩, ?_⟩
          rw [readN_eq hr, hrd.out, nval_digs, nval_digs]
          exact Hmod.out
        have Hfin := Lib.hid fin
        clear fin
        by_cases s1 : ka ≤ 2
        · have s2 := hs' s1
          clear hs'
          go_wp2_with fail
          refine Hdm.out.mono ?_
          rintro _ w4 ⟨_, rfl, g4, q, r, rfl, hq, hr⟩
          rw [nval_digs, nval_digs] at hr
          have F := Lib.hid (Hfin.out w4 q r hr g4)
          clear hq hr g4
          go_wp2_with fail
          exact F.out
        · clear hs'
          go_wp2_with fail
          refine Hdm.out.mono ?_
          rintro _ w4 ⟨_, rfl, g4, q, r, rfl, hq, hr⟩
          rw [nval_digs, nval_digs] at hr
          have F := Lib.hid (Hfin.out w4 q r hr g4)
          clear hq hr g4
          go_wp2_with fail
          exact F.out
end Go.Proofs.YtmcgkglmlfbijaaGreatDoor

/- Texts: RatH RatI RatJ. -/
import Derived.Test.YtcjgimlcefhhmaaGreatDoorW18
set_option linter.unusedVariables false
set_option linter.unusedSimpArgs false
set_option maxRecDepth 100000
set_option maxHeartbeats 12800000
namespace Go.Proofs.YtcjgimlcefhhmaaGreatDoor
open Go.RowKit Go.Lib
def validQ (n : Bool) (l d : List Nat) : Bool := (decide (trimL l = l) && !(n && l.isEmpty)) && (decide (trimL d = d) && (d.isEmpty || (decide (1 < nval d) && decide (Nat.gcd (nval l) (nval d) = 1))))
theorem ξ6L (k : Nat) : 0 < cmpZ (k : Int) ((1 : Nat) : Int) ↔ 1 < k := by
 unfold cmpZ
 split <;> (try split) <;> omega
theorem ξ5O (w : World) (va : Value) (n : Bool) (l d : List Nat) (t : Bool) (L : Nat) (ha : RatL w va n l d) (hl : l.length ≤ L) (hd : d.length ≤ L) (hL : L ≤ 1000) (ht : validQ n l d = t) :
  Calls Tryz.prog 118 #[va] w (Ret w fun r w' => r = .bool t) := by
 have HT := ξ ht
 obtain ⟨p, k, c, q, m, e, rfl, h1, h2⟩ := ha
 have HN := ξ h1
 have HD := ξ h2
 have hm := h2.len
 have Hm := ξ hm
 clear h1 h2 ht
 obtain ⟨v1, hv1⟩ : ∃ v, (decide (trimL l = l) && !(n && l.isEmpty)) = v := ⟨_, rfl⟩
 obtain ⟨v2, hv2⟩ : ∃ v, decide (trimL d = d) = v := ⟨_, rfl⟩
 have HV1 := ξ hv1
 have HV2 := ξ hv2
 clear hv1 hv2
 have B := box3 w (.bool n) (.slice p k c) (.slice q m e) 68
 go_enter Tryz.func118, Tryz.ntmps118
 go_wp2_with fail
 generalize w.alloc _ = W at B ⊢
 obtain ⟨G0, t0⟩ := B
 generalize hb0 : w.heap.size = b0 at t0  ⊢
 have Hb0 := ξ (show ¬ b0 < w.heap.size by omega)
 have G := ξ G0
 have T0 := ξ t0
 clear hb0 G0 t0
 have HN := ξ (HN.out.grow G.out)
 have HD := ξ (HD.out.grow G.out)
 refine (ξ9L W _ n l v1 ⟨p, k, c, rfl, HN.out⟩ (by omega) HV1.out).mono ?_
 rintro _ w1 ⟨_, rfl, g1, rfl⟩
 have G := ξ (G.out.trans g1)
 have T0 := ξ (T0.out.grow g1)
 have HN := ξ (HN.out.grow g1)
 have HD := ξ (HD.out.grow g1)
 clear g1
 have ht := HT.out
 unfold validQ at ht
 rw [HV1.out, HV2.out] at ht
 cases v1
 ·have ht2 : t = false := by rw [← ht]; rfl
  subst ht2
  clear ht
  go_wp2_with fail
  go_ret
  exact ⟨_, rfl, G.out, rfl⟩
 ·simp only [Bool.true_and] at ht
  have Ht := ξ ht
  clear ht
  have T0_0 := T0.out.load.1
  have T0_1 := T0.out.load.2.1
  have T0_2 := T0.out.load.2.2
  go_wp2_with fail
  refine (ξ62 w1 _ d HD.out (by omega)).mono ?_
  rintro _ _ ⟨rfl, rfl⟩
  rw [HV2.out]
  have ht := Ht.out
  cases v2
  ·have ht2 : t = false := by rw [← ht]; rfl
   subst ht2
   clear ht
   go_wp2_with fail
   go_ret
   exact ⟨_, rfl, G.out, rfl⟩
  ·simp only [Bool.true_and] at ht
   have Ht := ξ ht
   clear ht
   go_wp2_with fail
   refine (ξ0q w1 1 (by decide)).mono ?_
   rintro _ w2 ⟨r2, rfl, g2, h2⟩
   clear T0_0 T0_1 T0_2
   have G := ξ (G.out.trans g2)
   have T0 := ξ (T0.out.grow g2)
   have HN := ξ (HN.out.grow g2)
   have HD := ξ (HD.out.grow g2)
   clear g2
   have H2 := ξ h2
   clear h2
   by_cases h0 : m = 0
   ·have ht2 : t = true := by
     rw [← Ht.out, List.eq_nil_of_length_eq_zero (show d.length = 0 by rw [Hm.out]; exact h0)]; rfl
    subst ht2
    subst h0
    have T0_0 := T0.out.load.1
    have T0_1 := T0.out.load.2.1
    have T0_2 := T0.out.load.2.2
    go_wp2_with fail
    go_ret
    exact ⟨_, rfl, G.out, rfl⟩
   ·have hde : d.isEmpty = false := by cases d with
     | nil => exact absurd Hm.out.symm h0
     | cons _ _ => rfl
    have ht := Ht.out
    rw [hde, Bool.false_or] at ht
    have Ht := ξ ht
    have hm0 : ¬ (m : Int) = 0 := by omega
    have Hh0 := ξ h0
    clear ht hde h0
    have T0_0 := T0.out.load.1
    have T0_1 := T0.out.load.2.1
    have T0_2 := T0.out.load.2.2
    go_wp2_with fail
    obtain ⟨c1, hc1⟩ : ∃ c, cmpZ (nval d : Int) ((1 : Nat) : Int) = c := ⟨_, rfl⟩
    refine (ξ4X w2 _ _ (nval d) 1 L 1 c1 ⟨_, HD.out, rfl, hd⟩ ⟨_, H2.out, ξ4 _, by decide +kernel⟩ hc1 (by omega) (by decide)).mono ?_
    rintro _ w3 ⟨_, rfl, g3, rfl⟩
    clear T0_0 T0_1 T0_2
    have G := ξ (G.out.trans g3)
    have T0 := ξ (T0.out.grow g3)
    have HN := ξ (HN.out.grow g3)
    have HD := ξ (HD.out.grow g3)
    have H2 := ξ (H2.out.grow g3)
    clear g3
    by_cases hp : 1 < nval d
    ·have hcp : c1 > 0 := by rw [← hc1]; exact (ξ6L _).2 hp
     have ht := Ht.out
     rw [decide_eq_true hp, Bool.true_and] at ht
     have Ht := ξ ht
     clear ht hp hc1
     have T0_0 := T0.out.load.1
     have T0_1 := T0.out.load.2.1
     have T0_2 := T0.out.load.2.2
     go_wp2_with fail
     refine (ξ5i w3 _ _ l d _ _ HN.out HD.out rfl rfl (by omega) (by omega)).mono ?_
     rintro _ w4 ⟨r4, rfl, g4, h4⟩
     clear T0_0 T0_1 T0_2
     have G := ξ (G.out.trans g4)
     have T0 := ξ (T0.out.grow g4)
     have HN := ξ (HN.out.grow g4)
     have HD := ξ (HD.out.grow g4)
     have H2 := ξ (H2.out.grow g4)
     clear g4
     have H4 := ξ h4
     clear h4
     go_wp2_with fail
     obtain ⟨c2, hc2⟩ : ∃ c, cmpZ (Nat.gcd (nval l) (nval d) : Nat) ((1 : Nat) : Int) = c := ⟨_, rfl⟩
     have hgl : (digs (Nat.gcd (nval l) (nval d))).length ≤ L + 1 := by
      refine Nat.le_trans (ξl (b := nval l + nval d) ?_) (ξ0A (Nat.le_trans (ξm HN.out.dig) hl) (Nat.le_trans (ξm HD.out.dig) hd))
      rcases Nat.eq_zero_or_pos (nval l) with h | h
      ·rw [h, Nat.gcd_zero_left]; omega
      ·exact Nat.le_trans (Nat.gcd_le_left _ h) (by omega)
     refine (ξ4X w4 _ _ _ 1 (L + 1) 1 c2 ⟨_, H4.out, ξ4 _, hgl⟩ ⟨_, H2.out, ξ4 _, by decide +kernel⟩ hc2 (by omega) (by decide)).mono ?_
     rintro _ w5 ⟨_, rfl, g5, rfl⟩
     have G := ξ (G.out.trans g5)
     have T0 := ξ (T0.out.grow g5)
     have HN := ξ (HN.out.grow g5)
     have HD := ξ (HD.out.grow g5)
     have H2 := ξ (H2.out.grow g5)
     have H4 := ξ (H4.out.grow g5)
     clear g5
     by_cases hg : Nat.gcd (nval l) (nval d) = 1
     ·have hc0 : c2 = 0 := by rw [← hc2]; exact (ξ1S _).2 hg
      have ht2 : t = true := by rw [← Ht.out]; exact decide_eq_true hg
      subst ht2
      subst hc0
      clear hc2 hg
      go_wp2_with fail
      go_ret
      exact ⟨_, rfl, G.out, rfl⟩
     ·have hc0 : ¬ c2 = 0 := by rw [← hc2]; exact fun h => hg ((ξ1S _).1 h)
      have ht2 : t = false := by rw [← Ht.out]; exact decide_eq_false hg
      subst ht2
      clear hc2 hg
      go_wp2_with fail
      go_ret
      exact ⟨_, rfl, G.out, by simp [hc0, Hh0.out]⟩
    ·have hcp : ¬ c1 > 0 := by rw [← hc1]; exact fun h => hp ((ξ6L _).1 h)
     have ht2 : t = false := by rw [← Ht.out, decide_eq_false hp]; rfl
     subst ht2
     clear hp hc1
     go_wp2_with fail
     go_ret
     exact ⟨_, rfl, G.out, by simp [Hh0.out]⟩
def intText (z : Int) : List UInt8 := if z < 0 then 45 :: decDigits z.natAbs else decDigits z.natAbs
def ratText (x : Rat) : List UInt8 := if x.den = 1 then intText x.num else intText x.num ++ 47 :: decDigits x.den
theorem ξ7z {z : Int} {L : Nat} (h : (digs z.natAbs).length ≤ L) : (intText z).length ≤ 10 * L + 2 := by
 have := ξ49 (ξc h)
 unfold intText
 split <;> simp <;> omega
theorem ξcm (w : World) (va : Value) (x : Rat) (L : Nat) (s : List UInt8) (ha : RatV w va x L) (hs : ratText x = s) (hL : L ≤ 1000) (h1 : 1 ≤ L) (htab : Tab w) :
  Calls Tryz.prog 119 #[va] w (Ret w fun r w' => r = .string ⟨s.toArray⟩) := by
 have HS := ξ hs
 have HZ := ξ (ha.sz h1)
 obtain ⟨z, q, ha2, rfl⟩ := ha.p
 have HA := ξ ha2
 have HTab := ξ htab
 obtain ⟨s0, p0, k0, c0, e0, m0, n0, rfl⟩ := ha2.agg
 have HN := ξ ha2.num
 have Hq := ξ ha2.ne
 clear ha ha2 hs htab
 have B := box3 w (.bool s0) (.slice p0 k0 c0) (.slice e0 m0 n0) 68
 go_enter Tryz.func119, Tryz.ntmps119
 go_wp2_with fail
 generalize w.alloc _ = W at B ⊢
 obtain ⟨G0, t0⟩ := B
 generalize hb0 : w.heap.size = b0 at t0  ⊢
 have Hb0 := ξ (show ¬ b0 < w.heap.size by omega)
 have G := ξ G0
 have T0 := ξ t0
 clear hb0 G0 t0
 have HA := ξ (HA.out.grow G.out)
 have HN := ξ (HN.out.grow G.out)
 refine ξ3 [(0, true), (1, true), (2, true), (3, false), (4, false), (5, false)] (by kernel_rfl) (by kernel_rfl) rfl (by kernel_rfl) (fun _ _ d _ _ h => by cases d <;> exact h) ?_
 have T0_0 := T0.out.c0
 have T0_1 := T0.out.c1
 have T0_2 := T0.out.c2
 have g0 : Gr W W.drew := (Gr.refl _).drew
 have G := ξ (G.out.trans g0)
 have T0 := ξ (T0.out.grow g0)
 have HA := ξ (HA.out.grow g0)
 have HN := ξ (HN.out.grow g0)
 repeat (refine ξ2 (v := ?_) g0 rfl rfl (fun w' hg => ?_) (fun K hK => ?_); rotate_left; (go_simp; rfl); go_simp; refine hK _ _ ?_; clear hK K)
 refine ξ7 (args := ?_) rfl rfl rfl rfl rfl rfl (by kernel_rfl) (by kernel_rfl) ?_ (fun K hK => ?_)
 rotate_left
 ·go_simp; rfl
 refine (ξ1Y _ _ z q L HA.out (by omega)).mono ?_
 rintro _ w1 ⟨r1, rfl, g1, h1⟩
 refine ⟨_, rfl, g1, ?_⟩
 go_simp
 refine hK _ _ ?_
 clear hK K
 have G := ξ (G.out.trans g1)
 have T0 := ξ (T0.out.grow g1)
 have HA := ξ (HA.out.grow g1)
 have HN := ξ (HN.out.grow g1)
 replace g0 := g0.trans g1
 clear g1
 have H1 := ξ h1
 clear h1
 refine ξ7 (args := ?_) rfl rfl rfl rfl rfl rfl (by kernel_rfl) (by kernel_rfl) ?_ (fun K hK => ?_)
 rotate_left
 ·go_simp; rfl
 refine (ξ1Z _ _ _ z q L (L + 1) HN.out H1.out (by have := Hq.out; omega) (by omega) (by omega)).mono ?_
 rintro _ w2 ⟨r2, rfl, g2, h2⟩
 refine ⟨_, rfl, g2, ?_⟩
 go_simp
 refine hK _ _ ?_
 clear hK K
 have G := ξ (G.out.trans g2)
 have T0 := ξ (T0.out.grow g2)
 have HA := ξ (HA.out.grow g2)
 have HN := ξ (HN.out.grow g2)
 have H1 := ξ (H1.out.grow g2)
 replace g0 := g0.trans g2
 clear g2
 have H2 := ξ h2
 clear h2
 have HV := ξ (show RatC _ _ (mkRat z q) by have h := H2.out; rw [Rat.divInt_ofNat] at h; exact h)
 generalize mkRat z q = x at HV HZ HS
 obtain ⟨p8, k8, c8, e8, m8, n8, rfl, hn8, hd8⟩ := HV.out
 have HN8 := ξ hn8
 have HD8 := ξ hd8
 have hm8 := hd8.len
 clear hn8 hd8
 obtain ⟨s8, hs8⟩ : ∃ s, decide (x.num < 0) = s := ⟨_, rfl⟩
 rw [hs8] at HV H2 ⊢
 have Hs8 := ξ hs8
 clear hs8
 clear T0_0 T0_1 T0_2
 have T0_0 := T0.out.load.1
 have T0_f0 := T0.out.f0 0
 have T0_1 := T0.out.load.2.1
 have T0_f1 := T0.out.f0 1
 have T0_2 := T0.out.load.2.2
 have T0_f2 := T0.out.f0 2
 refine ξi rfl rfl (fun K hK => ?_)
 go_simp
 refine ⟨fun h => Bool.noConfusion h, hK _ _ ?_⟩
 clear hK K
 clear T0_0 T0_1 T0_2 T0_f0 T0_f1 T0_f2
 have hu := upd3 w2 b0 (.bool s8) (.slice p8 k8 c8) (.slice e8 m8 n8)
 have HV := ξ (HV.out.upd T0.out.noInt hu)
 have HN8 := ξ (HN8.out.upd T0.out.noInt hu)
 have HD8 := ξ (HD8.out.upd T0.out.noInt hu)
 have T0 := ξ (T0.out.set (.bool s8) (.slice p8 k8 c8) (.slice e8 m8 n8))
 have G := ξ (G.out.three Hb0.out (.bool s8) (.slice p8 k8 c8) (.slice e8 m8 n8))
 clear hu
 generalize ((w2.setCell _ _).setCell _ _).setCell _ _ = W1 at G T0 HV HN8 HD8 ⊢
 refine ξ9 ?_
 clear g0
 by_cases hd1 : x.den = 1
 ·have h0 : m8 = 0 := by rw [← hm8, hd1]; rfl
  subst h0
  have HS := ξ (show intText x.num = s by rw [← HS.out]; unfold ratText; rw [if_pos hd1])
  clear hm8 hd1
  have T0_0 := T0.out.load.1
  have T0_1 := T0.out.load.2.1
  have T0_2 := T0.out.load.2.2
  go_wp2_with fail
  refine (ξ6J W1 _ x.num L s ⟨_, _, _, by rw [Hs8.out], HN8.out⟩ HZ.out.1 (by omega) (HTab.out.grow G.out) HS.out).mono ?_
  rintro _ w3 ⟨_, rfl, g3, rfl⟩
  clear T0_0 T0_1 T0_2
  have G := ξ (G.out.trans g3)
  have T0 := ξ (T0.out.grow g3)
  have HV := ξ (HV.out.grow g3)
  have HN8 := ξ (HN8.out.grow g3)
  have HD8 := ξ (HD8.out.grow g3)
  clear g3
  go_wp2_with fail
  go_ret
  exact ⟨_, rfl, G.out, rfl⟩
 ·have h0 : ¬ (m8 : Int) = 0 := by
   have : m8 ≠ 0 := by
    rw [← hm8]; unfold dd; rw [if_neg hd1]
    intro h
    have := List.eq_nil_of_length_eq_zero h
    rw [ξs] at this
    exact x.den_nz this
   omega
  have HD9 := ξ (show NatL W1 (.slice e8 m8 n8) (digs x.den) by have h := HD8.out; unfold dd at h; rw [if_neg hd1] at h; exact h)
  obtain ⟨ta, hta⟩ : ∃ ta, intText x.num = ta := ⟨_, rfl⟩
  obtain ⟨tb, htb⟩ : ∃ tb, decDigits x.den = tb := ⟨_, rfl⟩
  have hla : ta.length ≤ 10002 := by rw [← hta]; exact Nat.le_trans (ξ7z HZ.out.1) (by omega)
  have hlb : tb.length ≤ 10001 := by rw [← htb]; exact Nat.le_trans (ξ49 (ξc HZ.out.2)) (by omega)
  have HS := ξ (show ta ++ 47 :: tb = s by rw [← HS.out]; unfold ratText; rw [if_neg hd1, hta, htb])
  have Hta := ξ hta
  have Htb := ξ htb
  have hlim : ¬ 9223372036854775807 < ta.length + 1 := by omega
  have hlim2 : ¬ 9223372036854775807 < ta.length + 1 + tb.length := by omega
  have hcat := ξ (ByteArray.mk_append_mk ta [47])
  have hcat2 := ξ (ByteArray.mk_append_mk (ta ++ [47]) tb)
  clear hm8 hd1 hta htb
  have T0_0 := T0.out.load.1
  have T0_1 := T0.out.load.2.1
  have T0_2 := T0.out.load.2.2
  go_wp2_with fail
  refine ξ3 [(0, true), (1, true), (4, true), (5, true), (2, false), (3, true), (6, false), (7, true), (8, true)] (by kernel_rfl) (by kernel_rfl) rfl (by kernel_rfl) (fun _ _ d _ _ h => by cases d <;> exact h) ?_
  clear T0_0 T0_1 T0_2
  have T0_0 := T0.out.c0
  have T0_1 := T0.out.c1
  have T0_2 := T0.out.c2
  have g0 : Gr W1 W1.drew := (Gr.refl _).drew
  have G := ξ (G.out.trans g0)
  have T0 := ξ (T0.out.grow g0)
  have HV := ξ (HV.out.grow g0)
  have HN8 := ξ (HN8.out.grow g0)
  have HD8 := ξ (HD8.out.grow g0)
  have HD9 := ξ (HD9.out.grow g0)
  repeat (refine ξ2 (v := ?_) g0 rfl rfl (fun w' hg => ?_) (fun K hK => ?_); rotate_left; (go_simp; rfl); go_simp; refine hK _ _ ?_; clear hK K)
  refine ξ7 (args := ?_) rfl rfl rfl rfl rfl rfl (by kernel_rfl) (by kernel_rfl) ?_ (fun K hK => ?_)
  rotate_left
  ·go_simp; rfl
  refine (ξ6J _ _ x.num L ta ⟨_, _, _, by rw [Hs8.out], HN8.out⟩ HZ.out.1 (by omega) (HTab.out.grow G.out) Hta.out).mono ?_
  rintro _ w3 ⟨_, rfl, g3, rfl⟩
  refine ⟨_, rfl, g3, ?_⟩
  go_simp
  refine hK _ _ ?_
  clear hK K
  have G := ξ (G.out.trans g3)
  have T0 := ξ (T0.out.grow g3)
  have HV := ξ (HV.out.grow g3)
  have HN8 := ξ (HN8.out.grow g3)
  have HD8 := ξ (HD8.out.grow g3)
  have HD9 := ξ (HD9.out.grow g3)
  replace g0 := g0.trans g3
  clear g3
  repeat (refine ξ2 (v := ?_) g0 rfl rfl (fun w' hg => ?_) (fun K hK => ?_); rotate_left; (go_simp; rfl); go_simp; refine hK _ _ ?_; clear hK K)
  refine ξ7 (args := ?_) rfl rfl rfl rfl rfl rfl (by kernel_rfl) (by kernel_rfl) ?_ (fun K hK => ?_)
  rotate_left
  ·go_simp; rfl
  refine (ξ4H _ _ _ HD9.out (Nat.le_trans HZ.out.2 (by omega)) (HTab.out.grow G.out)).mono ?_
  rintro _ w4 ⟨_, rfl, g4, rfl⟩
  refine ⟨_, rfl, g4, ?_⟩
  go_simp
  refine hK _ _ ?_
  clear hK K
  have G := ξ (G.out.trans g4)
  have T0 := ξ (T0.out.grow g4)
  have HV := ξ (HV.out.grow g4)
  have HN8 := ξ (HN8.out.grow g4)
  have HD8 := ξ (HD8.out.grow g4)
  have HD9 := ξ (HD9.out.grow g4)
  replace g0 := g0.trans g4
  clear g4
  rw [ξ4, Htb.out]
  repeat (refine ξ2 (v := ?_) g0 rfl rfl (fun w' hg => ?_) (fun K hK => ?_); rotate_left; (go_simp; rfl); go_simp; refine hK _ _ ?_; clear hK K)
  refine ξ9 ?_
  clear g0
  clear T0_0 T0_1 T0_2
  go_wp2_with fail
  go_ret
  refine ⟨_, rfl, G.out, ?_⟩
  show Value.string (((⟨ta.toArray⟩ : ByteArray) ++ ⟨[47].toArray⟩) ++ ⟨tb.toArray⟩) = _
  rw [hcat.out, hcat2.out, ← HS.out, List.append_assoc]
  rfl
theorem NatV.upd {w w' : World} {v : Value} {x L b : Nat} (h : NatV w v x L) (hb : ξ0f w b) (hu : Upd b w w') : NatV w' v x L := by
 obtain ⟨l, h1, h2⟩ := h; exact ⟨l, h1.upd hb hu, h2⟩
theorem NatL.v {w : World} {v : Value} {x L : Nat} (h : NatL w v (digs x)) (hL : (digs x).length ≤ L) : NatV w v x L := ⟨_, h, ξ4 x, hL⟩
theorem ResV.keepBox {w : World} {v : Value} {z : Int} {L b : Nat} {s : Bool} {p : Option Addr} {k c : Nat} (h : ResV w v z L) (t : Two w b (.bool s) (.slice p k c)) (x y : Value) : ResV ((w.setCell ⟨b, 0, none⟩ x).setCell ⟨b, 1, none⟩ y) v z L :=
 ⟨h.1.upd t.noInt (upd2 _ _ _ _), h.2.upd t.noInt (upd2 _ _ _ _)⟩
theorem ResV.upd {w w' : World} {v : Value} {z : Int} {L b : Nat} (h : ResV w v z L) (hb : ξ0f w b) (hu : Upd b w w') : ResV w' v z L := ⟨h.1.upd hb hu, h.2.upd hb hu⟩
theorem RatC.same {x y : Rat} : ((decide (x.num < 0) == decide (y.num < 0) && decide (digs x.num.natAbs = digs y.num.natAbs)) && decide (dd x.den = dd y.den)) = decide (x = y) := by
 rw [IntC.same]
 by_cases h : x = y
 ·subst h; simp
 ·rw [decide_eq_false h]
  by_cases h1 : x.num = y.num
  ·by_cases h2 : dd x.den = dd y.den
   ·exact absurd (Rat.ext h1 (ξct x.den_nz y.den_nz h2)) h
   ·simp [h2]
  ·simp [h1]
theorem ξ3w (k : Nat) : trimL (digs k) = digs k := by rw [ξ0S, ξ4]
theorem ξ7w (n : Bool) (l d : List Nat) (hl : Dig l) (hd : Dig d) :
  ((n == decide ((ratv n l d).num < 0) && decide (l = digs (ratv n l d).num.natAbs)) && decide (d = dd (ratv n l d).den)) = validQ n l d := by
 rw [Bool.eq_iff_iff]
 have hq : denV d ≠ 0 := ξ5k d
 constructor
 ·intro h
  simp only [Bool.and_eq_true, beq_iff_eq, decide_eq_true_eq] at h
  obtain ⟨⟨h1, h2⟩, h3⟩ := h
  generalize ratv n l d = x at h1 h2 h3
  unfold validQ
  simp only [Bool.and_eq_true, decide_eq_true_eq, Bool.not_eq_true', Bool.or_eq_true]
  refine ⟨⟨by rw [h2, ξ3w], ?_⟩, ?_, ?_⟩
  ·cases n
   ·rfl
   ·have h4 : x.num < 0 := of_decide_eq_true h1.symm
    have h5 : l ≠ [] := fun e => by
     rw [h2, ξs] at e
     omega
    cases l with
    | nil => exact absurd rfl h5
    | cons _ _ => rfl
  ·rw [h3]; unfold dd
   split
   ·rw [ξ0S]; exact ξF
   ·exact ξ3w _
  ·by_cases h1 : x.den = 1
   ·left; rw [h3, h1]; rfl
   ·right
    have h4 : nval d = x.den := by rw [h3]; unfold dd; rw [if_neg h1, ξ4]
    rw [h4, h2, ξ4]
    have := x.den_nz
    exact ⟨by omega, x.reduced⟩
 ·intro h
  unfold validQ at h
  simp only [Bool.and_eq_true, decide_eq_true_eq, Bool.not_eq_true', Bool.or_eq_true] at h
  obtain ⟨⟨h1, h2⟩, h3, h4⟩ := h
  have el : l = digs (nval l) := by rw [← ξ0S, h1]
  have ed : d = digs (nval d) := by rw [← ξ0S, h3]
  have hz : (zval n l).natAbs = nval l := ξ11 n l
  have hg : Nat.gcd (zval n l).natAbs (denV d) = 1 := by
   rw [hz]
   rcases h4 with h4 | ⟨h4, h5⟩
   ·rw [show d = [] from List.isEmpty_iff.1 h4, ξah, Nat.gcd_one_right]
   ·unfold denV; rw [if_neg (by omega)]; exact h5
  have e1 : (ratv n l d).num = zval n l := by
   unfold ratv; rw [ξ3p _ _ hq, hg]; simp
  have e2 : (ratv n l d).den = denV d := by
   unfold ratv; rw [ξ2w _ _ hq, hg]; simp
  rw [e1, e2]
  simp only [Bool.and_eq_true, beq_iff_eq, decide_eq_true_eq]
  refine ⟨⟨?_, by rw [hz]; exact el⟩, ?_⟩
  ·have h5 : n = true → nval l ≠ 0 := fun e h6 => by
    rw [h6, ξF] at el
    rw [e, el] at h2
    cases h2
   unfold zval
   cases n
   ·simp
   ·have := h5 rfl
    simp; omega
  ·rcases h4 with h4 | ⟨h4, h5⟩
   ·rw [show d = [] from List.isEmpty_iff.1 h4]; rfl
   ·unfold dd denV
    rw [if_neg (show nval d ≠ 0 by omega), if_neg (by omega)]
    exact ed
end Go.Proofs.YtcjgimlcefhhmaaGreatDoor

/-
  Fractions: Valid, Text.
-/
import Derived.Test.YtmcgkglmlfbijaaGreatDoorRatG
namespace Go.Proofs.YtmcgkglmlfbijaaGreatDoor
open Go.RowKit Go.Lib
set_option linter.unusedVariables false
set_option linter.unusedSimpArgs false

/-- what Valid answers -/
def validQ (n : Bool) (l d : List Nat) : Bool := (decide (trimL l = l) && !(n && l.isEmpty)) && (decide (trimL d = d) && (d.isEmpty || (decide (1 < nval d) && decide (Nat.gcd (nval l) (nval d) = 1))))

theorem cmpZ_pos (k : Nat) : 0 < cmpZ (k : Int) ((1 : Nat) : Int) ↔ 1 < k := by
  unfold cmpZ
  split <;> (try split) <;> omega

set_option maxRecDepth 100000 in
set_option maxHeartbeats 3200000 in
theorem rat_Valid (w : World) (va : Value) (n : Bool) (l d : List Nat) (t : Bool) (L : Nat) (ha : RatL w va n l d) (hl : l.length ≤ L) (hd : d.length ≤ L) (hL : L ≤ 1000) (ht : validQ n l d = t) :
    Calls Tryz.prog 22 #[va] w (Ret w fun r w' => r = .bool t) := by
  have HT := Lib.hid ht
  obtain ⟨p, k, c, q, m, e, rfl, h1, h2⟩ := ha
  have HN := Lib.hid h1
  have HD := Lib.hid h2
  have hm := h2.len
  have Hm := Lib.hid hm
  clear h1 h2 ht
  obtain ⟨v1, hv1⟩ : ∃ v, (decide (trimL l = l) && !(n && l.isEmpty)) = v := ⟨_, rfl⟩
  obtain ⟨v2, hv2⟩ : ∃ v, decide (trimL d = d) = v := ⟨_, rfl⟩
  have HV1 := Lib.hid hv1
  have HV2 := Lib.hid hv2
  clear hv1 hv2
  have B := box3 w (.bool n) (.slice p k c) (.slice q m e) 27
  go_enter Tryz.func22, Tryz.ntmps22
  go_wp2_with fail
  generalize w.alloc _ = W at B ⊢
  obtain ⟨G0, t0⟩ := B
  generalize hb0 : w.heap.size = b0 at t0  ⊢
  have Hb0 := Lib.hid (show ¬ b0 < w.heap.size by omega)
  have G := Lib.hid G0
  have T0 := Lib.hid t0
  clear hb0 G0 t0
  have HN := Lib.hid (HN.out.grow G.out)
  have HD := Lib.hid (HD.out.grow G.out)
  refine (int_Valid W _ n l v1 ⟨p, k, c, rfl, HN.out⟩ (by omega) HV1.out).mono ?_
  rintro _ w1 ⟨_, rfl, g1, rfl⟩
  have G := Lib.hid (G.out.trans g1)
  have T0 := Lib.hid (T0.out.grow g1)
  have HN := Lib.hid (HN.out.grow g1)
  have HD := Lib.hid (HD.out.grow g1)
  clear g1
  have ht := HT.out
  unfold validQ at ht
  rw [HV1.out, HV2.out] at ht
  cases v1
  · have ht2 : t = false := by rw [← ht]; rfl
    subst ht2
    clear ht
    go_wp2_with fail
    go_ret
    exact ⟨_, rfl, G.out, rfl⟩
  · simp only [Bool.true_and] at ht
    have Ht := Lib.hid ht
    clear ht
    have T0_0 := T0.out.load.1
    have T0_1 := T0.out.load.2.1
    have T0_2 := T0.out.load.2.2
    go_wp2_with fail
    refine (nat_Valid w1 _ d HD.out (by omega)).mono ?_
    rintro _ _ ⟨rfl, rfl⟩
    rw [HV2.out]
    have ht := Ht.out
    cases v2
    · have ht2 : t = false := by rw [← ht]; rfl
      subst ht2
      clear ht
      go_wp2_with fail
      go_ret
      exact ⟨_, rfl, G.out, rfl⟩
    · simp only [Bool.true_and] at ht
      have Ht := Lib.hid ht
      clear ht
      go_wp2_with fail
      refine (nat_From w1 1 (by decide)).mono ?_
      rintro _ w2 ⟨r2, rfl, g2, h2⟩
      clear T0_0 T0_1 T0_2
      have G := Lib.hid (G.out.trans g2)
      have T0 := Lib.hid (T0.out.grow g2)
      have HN := Lib.hid (HN.out.grow g2)
      have HD := Lib.hid (HD.out.grow g2)
      clear g2
      have H2 := Lib.hid h2
      clear h2
      by_cases h0 : m = 0
      · have ht2 : t = true := by
          rw [← Ht.out, List.eq_nil_of_length_eq_zero (show d.length = 0 by rw [Hm.out]; exact h0)]; rfl
        subst ht2
        subst h0
        have T0_0 := T0.out.load.1
        have T0_1 := T0.out.load.2.1
        have T0_2 := T0.out.load.2.2
        go_wp2_with fail
        go_ret
        exact ⟨_, rfl, G.out, rfl⟩
      · have hde : d.isEmpty = false := by cases d with
          | nil => exact absurd Hm.out.symm h0
          | cons _ _ => rfl
        have ht := Ht.out
        rw [hde, Bool.false_or] at ht
        have Ht := Lib.hid ht
        have hm0 : ¬ (m : Int) = 0 := by omega
        have Hh0 := Lib.hid h0
        clear ht hde h0
        have T0_0 := T0.out.load.1
        have T0_1 := T0.out.load.2.1
        have T0_2 := T0.out.load.2.2
        go_wp2_with fail
        obtain ⟨c1, hc1⟩ : ∃ c, cmpZ (nval d : Int) ((1 : Nat) : Int) = c := ⟨_, rfl⟩
        refine (n_Cmp w2 _ _ (nval d) 1 L 1 c1 ⟨_, HD.out, rfl, hd⟩ ⟨_, H2.out, nval_digs _, by decide +kernel⟩ hc1 (by omega) (by decide)).mono ?_
        rintro _ w3 ⟨_, rfl, g3, rfl⟩
        clear T0_0 T0_1 T0_2
        have G := Lib.hid (G.out.trans g3)
        have T0 := Lib.hid (T0.out.grow g3)
        have HN := Lib.hid (HN.out.grow g3)
        have HD := Lib.hid (HD.out.grow g3)
        have H2 := Lib.hid (H2.out.grow g3)
        clear g3
        by_cases hp : 1 < nval d
        · have hcp : c1 > 0 := by rw [← hc1]; exact (cmpZ_pos _).2 hp
          have ht := Ht.out
          rw [decide_eq_true hp, Bool.true_and] at ht
          have Ht := Lib.hid ht
          clear ht hp hc1
          have T0_0 := T0.out.load.1
          have T0_1 := T0.out.load.2.1
          have T0_2 := T0.out.load.2.2
          go_wp2_with fail
          refine (nat_Gcd w3 _ _ l d _ _ HN.out HD.out rfl rfl (by omega) (by omega)).mono ?_
          rintro _ w4 ⟨r4, rfl, g4, h4⟩
          clear T0_0 T0_1 T0_2
          have G := Lib.hid (G.out.trans g4)
          have T0 := Lib.hid (T0.out.grow g4)
          have HN := Lib.hid (HN.out.grow g4)
          have HD := Lib.hid (HD.out.grow g4)
          have H2 := Lib.hid (H2.out.grow g4)
          clear g4
          have H4 := Lib.hid h4
          clear h4
          go_wp2_with fail
          obtain ⟨c2, hc2⟩ : ∃ c, cmpZ (Nat.gcd (nval l) (nval d) : Nat) ((1 : Nat) : Int) = c := ⟨_, rfl⟩
          have hgl : (digs (Nat.gcd (nval l) (nval d))).length ≤ L + 1 := by
            refine Nat.le_trans (digs_mono_length (b := nval l + nval d) ?_) (digs_add_length (Nat.le_trans (digs_nval_length HN.out.dig) hl) (Nat.le_trans (digs_nval_length HD.out.dig) hd))
            rcases Nat.eq_zero_or_pos (nval l) with h | h
            · rw [h, Nat.gcd_zero_left]; omega
            · exact Nat.le_trans (Nat.gcd_le_left _ h) (by omega)
          refine (n_Cmp w4 _ _ _ 1 (L + 1) 1 c2 ⟨_, H4.out, nval_digs _, hgl⟩ ⟨_, H2.out, nval_digs _, by decide +kernel⟩ hc2 (by omega) (by decide)).mono ?_
          rintro _ w5 ⟨_, rfl, g5, rfl⟩
          have G := Lib.hid (G.out.trans g5)
          have T0 := Lib.hid (T0.out.grow g5)
          have HN := Lib.hid (HN.out.grow g5)
          have HD := Lib.hid (HD.out.grow g5)
          have H2 := Lib.hid (H2.out.grow g5)
          have H4 := Lib.hid (H4.out.grow g5)
          clear g5
          by_cases hg : Nat.gcd (nval l) (nval d) = 1
          · have hc0 : c2 = 0 := by rw [← hc2]; exact (cmpZ_one _).2 hg
            have ht2 : t = true := by rw [← Ht.out]; exact decide_eq_true hg
            subst ht2
            subst hc0
            clear hc2 hg
            go_wp2_with fail
            go_ret
            exact ⟨_, rfl, G.out, rfl⟩
          · have hc0 : ¬ c2 = 0 := by rw [← hc2]; exact fun h => hg ((cmpZ_one _).1 h)
            have ht2 : t = false := by rw [← Ht.out]; exact decide_eq_false hg
            subst ht2
            clear hc2 hg
            go_wp2_with fail
            go_ret
            exact ⟨_, rfl, G.out, by simp [hc0, Hh0.out]⟩
        · have hcp : ¬ c1 > 0 := by rw [← hc1]; exact fun h => hp ((cmpZ_pos _).1 h)
          have ht2 : t = false := by rw [← Ht.out, decide_eq_false hp]; rfl
          subst ht2
          clear hp hc1
          go_wp2_with fail
          go_ret
          exact ⟨_, rfl, G.out, by simp [Hh0.out]⟩

/-- the text of a fraction -/
def intText (z : Int) : List UInt8 := if z < 0 then 45 :: decDigits z.natAbs else decDigits z.natAbs
def ratText (x : Rat) : List UInt8 := if x.den = 1 then intText x.num else intText x.num ++ 47 :: decDigits x.den
theorem intText_len {z : Int} {L : Nat} (h : (digs z.natAbs).length ≤ L) : (intText z).length ≤ 10 * L + 2 := by
  have := dec_len (lt_of_digs_length h)
  unfold intText
  split <;> simp <;> omega

set_option maxRecDepth 100000 in
set_option maxHeartbeats 3200000 in
theorem q_Text (w : World) (va : Value) (x : Rat) (L : Nat) (s : List UInt8) (ha : RatV w va x L) (hs : ratText x = s) (hL : L ≤ 1000) (h1 : 1 ≤ L) (htab : Tab w) :
    Calls Tryz.prog 44 #[va] w (Ret w fun r w' => r = .string ⟨s.toArray⟩) := by
  have HS := Lib.hid hs
  have HZ := Lib.hid (ha.sz h1)
  obtain ⟨z, q, ha2, rfl⟩ := ha.p
  have HA := Lib.hid ha2
  have HTab := Lib.hid htab
  obtain ⟨s0, p0, k0, c0, e0, m0, n0, rfl⟩ := ha2.agg
  have HN := Lib.hid ha2.num
  have Hq := Lib.hid ha2.ne
  clear ha ha2 hs htab
  have B := box3 w (.bool s0) (.slice p0 k0 c0) (.slice e0 m0 n0) 27
  go_enter Tryz.func44, Tryz.ntmps44
  go_wp2_with fail
  generalize w.alloc _ = W at B ⊢
  obtain ⟨G0, t0⟩ := B
  generalize hb0 : w.heap.size = b0 at t0  ⊢
  have Hb0 := Lib.hid (show ¬ b0 < w.heap.size by omega)
  have G := Lib.hid G0
  have T0 := Lib.hid t0
  clear hb0 G0 t0
  have HA := Lib.hid (HA.out.grow G.out)
  have HN := Lib.hid (HN.out.grow G.out)
  refine wp_region_fast [(0, true), (1, true), (2, true), (3, false), (4, false), (5, false)] (by kernel_rfl) (by kernel_rfl) rfl (by kernel_rfl) (fun _ _ d _ _ h => by cases d <;> exact h) ?_
  have T0_0 := T0.out.c0
  have T0_1 := T0.out.c1
  have T0_2 := T0.out.c2
  have g0 : Gr W W.drew := (Gr.refl _).drew
  have G := Lib.hid (G.out.trans g0)
  have T0 := Lib.hid (T0.out.grow g0)
  have HA := Lib.hid (HA.out.grow g0)
  have HN := Lib.hid (HN.out.grow g0)
  repeat (refine wpE_readB (v := ?_) g0 rfl rfl (fun w' hg => ?_) (fun K hK => ?_); rotate_left; (go_simp; rfl); go_simp; refine hK _ _ ?_; clear hK K)
  refine wpE_fn (args := ?_) rfl rfl rfl rfl rfl rfl (by kernel_rfl) (by kernel_rfl) ?_ (fun K hK => ?_)
  rotate_left
  · go_simp; rfl
  refine (p_den _ _ z q L HA.out (by omega)).mono ?_
  rintro _ w1 ⟨r1, rfl, g1, h1⟩
  refine ⟨_, rfl, g1, ?_⟩
  go_simp
  refine hK _ _ ?_
  clear hK K
  have G := Lib.hid (G.out.trans g1)
  have T0 := Lib.hid (T0.out.grow g1)
  have HA := Lib.hid (HA.out.grow g1)
  have HN := Lib.hid (HN.out.grow g1)
  replace g0 := g0.trans g1
  clear g1
  have H1 := Lib.hid h1
  clear h1
  refine wpE_fn (args := ?_) rfl rfl rfl rfl rfl rfl (by kernel_rfl) (by kernel_rfl) ?_ (fun K hK => ?_)
  rotate_left
  · go_simp; rfl
  refine (rat_reduced _ _ _ z q L (L + 1) HN.out H1.out (by have := Hq.out; omega) (by omega) (by omega)).mono ?_
  rintro _ w2 ⟨r2, rfl, g2, h2⟩
  refine ⟨_, rfl, g2, ?_⟩
  go_simp
  refine hK _ _ ?_
  clear hK K
  have G := Lib.hid (G.out.trans g2)
  have T0 := Lib.hid (T0.out.grow g2)
  have HA := Lib.hid (HA.out.grow g2)
  have HN := Lib.hid (HN.out.grow g2)
  have H1 := Lib.hid (H1.out.grow g2)
  replace g0 := g0.trans g2
  clear g2
  have H2 := Lib.hid h2
  clear h2
  have HV := Lib.hid (show RatC _ _ (mkRat z q) by have h := H2.out; rw [Rat.divInt_ofNat] at h; exact h)
  generalize mkRat z q = x at HV HZ HS
  obtain ⟨p8, k8, c8, e8, m8, n8, rfl, hn8, hd8⟩ := HV.out
  have HN8 := Lib.hid hn8
  have HD8 := Lib.hid hd8
  have hm8 := hd8.len
  clear hn8 hd8
  obtain ⟨s8, hs8⟩ : ∃ s, decide (x.num < 0) = s := ⟨_, rfl⟩
  rw [hs8] at HV H2 ⊢
  have Hs8 := Lib.hid hs8
  clear hs8
  clear T0_0 T0_1 T0_2
  have T0_0 := T0.out.load.1
  have T0_f0 := T0.out.f0 0
  have T0_1 := T0.out.load.2.1
  have T0_f1 := T0.out.f0 1
  have T0_2 := T0.out.load.2.2
  have T0_f2 := T0.out.f0 2
  refine wpE_do rfl rfl (fun K hK => ?_)
  go_simp
  refine ⟨fun h => Bool.noConfusion h, hK _ _ ?_⟩
  clear hK K
  clear T0_0 T0_1 T0_2 T0_f0 T0_f1 T0_f2
  have hu := upd3 w2 b0 (.bool s8) (.slice p8 k8 c8) (.slice e8 m8 n8)
  have HV := Lib.hid (HV.out.upd T0.out.noInt hu)
  have HN8 := Lib.hid (HN8.out.upd T0.out.noInt hu)
  have HD8 := Lib.hid (HD8.out.upd T0.out.noInt hu)
  have T0 := Lib.hid (T0.out.set (.bool s8) (.slice p8 k8 c8) (.slice e8 m8 n8))
  have G := Lib.hid (G.out.three Hb0.out (.bool s8) (.slice p8 k8 c8) (.slice e8 m8 n8))
  clear hu
  generalize ((w2.setCell _ _).setCell _ _).setCell _ _ = W1 at G T0 HV HN8 HD8 ⊢
  refine wpE_nil ?_
  clear g0
  by_cases hd1 : x.den = 1
  · have h0 : m8 = 0 := by rw [← hm8, hd1]; rfl
    subst h0
    have HS := Lib.hid (show intText x.num = s by rw [← HS.out]; unfold ratText; rw [if_pos hd1])
    clear hm8 hd1
    have T0_0 := T0.out.load.1
    have T0_1 := T0.out.load.2.1
    have T0_2 := T0.out.load.2.2
    go_wp2_with fail
    refine (int_Text W1 _ x.num L s ⟨_, _, _, by rw [Hs8.out], HN8.out⟩ HZ.out.1 (by omega) (HTab.out.grow G.out) HS.out).mono ?_
    rintro _ w3 ⟨_, rfl, g3, rfl⟩
    clear T0_0 T0_1 T0_2
    have G := Lib.hid (G.out.trans g3)
    have T0 := Lib.hid (T0.out.grow g3)
    have HV := Lib.hid (HV.out.grow g3)
    have HN8 := Lib.hid (HN8.out.grow g3)
    have HD8 := Lib.hid (HD8.out.grow g3)
    clear g3
    go_wp2_with fail
    go_ret
    exact ⟨_, rfl, G.out, rfl⟩
  · have h0 : ¬ (m8 : Int) = 0 := by
      have : m8 ≠ 0 := by
        rw [← hm8]; unfold dd; rw [if_neg hd1]
        intro h
        have := List.eq_nil_of_length_eq_zero h
        rw [digs_eq_nil] at this
        exact x.den_nz this
      omega
    have HD9 := Lib.hid (show NatL W1 (.slice e8 m8 n8) (digs x.den) by have h := HD8.out; unfold dd at h; rw [if_neg hd1] at h; exact h)
    obtain ⟨ta, hta⟩ : ∃ ta, intText x.num = ta := ⟨_, rfl⟩
    obtain ⟨tb, htb⟩ : ∃ tb, decDigits x.den = tb := ⟨_, rfl⟩
    have hla : ta.length ≤ 10002 := by rw [← hta]; exact Nat.le_trans (intText_len HZ.out.1) (by omega)
    have hlb : tb.length ≤ 10001 := by rw [← htb]; exact Nat.le_trans (dec_len (lt_of_digs_length HZ.out.2)) (by omega)
    have HS := Lib.hid (show ta ++ 47 :: tb = s by rw [← HS.out]; unfold ratText; rw [if_neg hd1, hta, htb])
    have Hta := Lib.hid hta
    have Htb := Lib.hid htb
    have hlim : ¬ 9223372036854775807 < ta.length + 1 := by omega
    have hlim2 : ¬ 9223372036854775807 < ta.length + 1 + tb.length := by omega
    have hcat := Lib.hid (ByteArray.mk_append_mk ta [47])
    have hcat2 := Lib.hid (ByteArray.mk_append_mk (ta ++ [47]) tb)
    clear hm8 hd1 hta htb
    have T0_0 := T0.out.load.1
    have T0_1 := T0.out.load.2.1
    have T0_2 := T0.out.load.2.2
    go_wp2_with fail
    refine wp_region_fast [(0, true), (1, true), (4, true), (5, true), (2, false), (3, true), (6, false), (7, true), (8, true)] (by kernel_rfl) (by kernel_rfl) rfl (by kernel_rfl) (fun _ _ d _ _ h => by cases d <;> exact h) ?_
    clear T0_0 T0_1 T0_2
    have T0_0 := T0.out.c0
    have T0_1 := T0.out.c1
    have T0_2 := T0.out.c2
    have g0 : Gr W1 W1.drew := (Gr.refl _).drew
    have G := Lib.hid (G.out.trans g0)
    have T0 := Lib.hid (T0.out.grow g0)
    have HV := Lib.hid (HV.out.grow g0)
    have HN8 := Lib.hid (HN8.out.grow g0)
    have HD8 := Lib.hid (HD8.out.grow g0)
    have HD9 := Lib.hid (HD9.out.grow g0)
    repeat (refine wpE_readB (v := ?_) g0 rfl rfl (fun w' hg => ?_) (fun K hK => ?_); rotate_left; (go_simp; rfl); go_simp; refine hK _ _ ?_; clear hK K)
    refine wpE_fn (args := ?_) rfl rfl rfl rfl rfl rfl (by kernel_rfl) (by kernel_rfl) ?_ (fun K hK => ?_)
    rotate_left
    · go_simp; rfl
    refine (int_Text _ _ x.num L ta ⟨_, _, _, by rw [Hs8.out], HN8.out⟩ HZ.out.1 (by omega) (HTab.out.grow G.out) Hta.out).mono ?_
    rintro _ w3 ⟨_, rfl, g3, rfl⟩
    refine ⟨_, rfl, g3, ?_⟩
    go_simp
    refine hK _ _ ?_
    clear hK K
    have G := Lib.hid (G.out.trans g3)
    have T0 := Lib.hid (T0.out.grow g3)
    have HV := Lib.hid (HV.out.grow g3)
    have HN8 := Lib.hid (HN8.out.grow g3)
    have HD8 := Lib.hid (HD8.out.grow g3)
    have HD9 := Lib.hid (HD9.out.grow g3)
    replace g0 := g0.trans g3
    clear g3
    repeat (refine wpE_readB (v := ?_) g0 rfl rfl (fun w' hg => ?_) (fun K hK => ?_); rotate_left; (go_simp; rfl); go_simp; refine hK _ _ ?_; clear hK K)
    refine wpE_fn (args := ?_) rfl rfl rfl rfl rfl rfl (by kernel_rfl) (by kernel_rfl) ?_ (fun K hK => ?_)
    rotate_left
    · go_simp; rfl
    refine (nat_Text _ _ _ HD9.out (Nat.le_trans HZ.out.2 (by omega)) (HTab.out.grow G.out)).mono ?_
    rintro _ w4 ⟨_, rfl, g4, rfl⟩
    refine ⟨_, rfl, g4, ?_⟩
    go_simp
    refine hK _ _ ?_
    clear hK K
    have G := Lib.hid (G.out.trans g4)
    have T0 := Lib.hid (T0.out.grow g4)
    have HV := Lib.hid (HV.out.grow g4)
    have HN8 := Lib.hid (HN8.out.grow g4)
    have HD8 := Lib.hid (HD8.out.grow g4)
    have HD9 := Lib.hid (HD9.out.grow g4)
    replace g0 := g0.trans g4
    clear g4
    rw [nval_digs, Htb.out]
    repeat (refine wpE_readB (v := ?_) g0 rfl rfl (fun w' hg => ?_) (fun K hK => ?_); rotate_left; (go_simp; rfl); go_simp; refine hK _ _ ?_; clear hK K)
    refine wpE_nil ?_
    clear g0
    clear T0_0 T0_1 T0_2
    go_wp2_with fail
    go_ret
    refine ⟨_, rfl, G.out, ?_⟩
    show Value.string (((⟨ta.toArray⟩ : ByteArray) ++ ⟨[47].toArray⟩) ++ ⟨tb.toArray⟩) = _
    rw [hcat.out, hcat2.out, ← HS.out, List.append_assoc]
    rfl
end Go.Proofs.YtmcgkglmlfbijaaGreatDoor

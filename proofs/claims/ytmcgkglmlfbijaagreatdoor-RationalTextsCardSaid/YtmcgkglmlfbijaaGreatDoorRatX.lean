/-
  exodusref03.Parse.
-/
import Derived.Test.YtmcgkglmlfbijaaGreatDoorRatW
namespace Go.Proofs.YtmcgkglmlfbijaaGreatDoor
open Go.RowKit Go.Lib
set_option linter.unusedVariables false
set_option linter.unusedSimpArgs false

theorem den_okQ (z : Int) {q : Nat} (hq : q ≠ 0) : ((mkRat z q).den ≠ 1 ∧ (mkRat z q).den = q) ↔ (2 ≤ q ∧ Nat.gcd z.natAbs q = 1) := by
  have hg : 0 < Nat.gcd z.natAbs q := Nat.gcd_pos_of_pos_right _ (by omega)
  constructor
  · rintro ⟨h1, h2⟩
    refine ⟨by omega, ?_⟩
    rw [low_den z q hq] at h2
    have h3 := Nat.div_mul_cancel (Nat.gcd_dvd_right z.natAbs q)
    rw [h2] at h3
    have h4 : q * Nat.gcd z.natAbs q = q * 1 := by rw [h3, Nat.mul_one]
    exact Nat.eq_of_mul_eq_mul_left (by omega) h4
  · rintro ⟨h1, h2⟩
    obtain ⟨-, e⟩ := low_one (z := z) hq h2
    rw [e]
    exact ⟨by omega, rfl⟩


set_option maxRecDepth 100000 in
set_option maxHeartbeats 12800000 in
theorem ref_Parse3 (w : World) (bs xs cs : List UInt8) (ok neg : Bool) (ds : List UInt8) (hs : Sl bs xs cs ok) (hc : Cuts xs neg ds) (hl : bs.length ≤ 200) :
    Calls Tryz.prog 47 #[.string ⟨bs.toArray⟩] w (Ret w fun r w' => ParseQ (okQ (valI neg ds) (okI neg ds) cs ok) (valQ (valI neg ds) cs ok) r w') := by
  have HS := Lib.hid hs
  have HC := Lib.hid hc
  have hal : xs.length ≤ 200 := by
    rcases hs with ⟨_, rfl, _⟩ | ⟨_, rfl, _, _⟩
    · simp at hl; omega
    · exact hl
  have hcl : cs.length ≤ 200 := by
    rcases hs with ⟨_, rfl, _⟩ | ⟨_, rfl, rfl, _⟩
    · simp at hl; omega
    · simp
  have hdl : ds.length ≤ 200 := by
    rcases hc with ⟨_, rfl⟩ | ⟨_, rfl, _⟩
    · simp at hal; omega
    · exact hal
  have hpre : xs.length ≤ bs.length := by rcases hs with ⟨_, rfl, _⟩ | ⟨_, rfl, _⟩ <;> simp
  have Hin := Lib.hid (show ∀ (k : Nat) (hk : k < xs.length), ∃ c : UInt8, (∀ h, (⟨bs.toArray⟩ : ByteArray)[k]'h = c) ∧ ¬ (c.toNat : Int) = 47 from fun k hk => by
    refine ⟨xs[k], fun h => ?_, fun e => ?_⟩
    · show bs.toArray[k] = _
      rcases hs with ⟨_, rfl, _⟩ | ⟨_, rfl, _⟩
      · simp [hk]
      · simp
    · have hne : xs[k] ≠ 47 := by rcases hs with ⟨_, _, h⟩ | ⟨_, _, _, h⟩ <;> exact h _ (List.getElem_mem hk)
      refine hne (UInt8.toNat_inj.1 ?_)
      show xs[k].toNat = 47
      omega)
  have hex : (⟨bs.toArray⟩ : ByteArray).extract 0 xs.length = ⟨xs.toArray⟩ := by
    rw [ByteArray.extract_mk]
    rcases hs with ⟨_, rfl, _⟩ | ⟨_, rfl, _⟩ <;> simp
  clear hc
  have B := box3 w (.bool false) (.slice none 0 0) (.slice none 0 0) 27
  go_enter Tryz.func47, Tryz.ntmps47
  go_wp2_with fail
  generalize w.alloc _ = W at B ⊢
  obtain ⟨G0, t0⟩ := B
  generalize hb0 : w.heap.size = b0 at t0  ⊢
  have Hb0 := Lib.hid (show ¬ b0 < w.heap.size by omega)
  have G := Lib.hid G0
  have T0 := Lib.hid t0
  clear hb0 G0 t0
  go_loopw [4] (fun i w1 => ∃ k : Nat, i = .int .i64 k ∧ k ≤ xs.length ∧ w1 = W) (fun i _ => bs.length - (RowKit.intOf i).toNat)
  case atStart => exact ⟨0, rfl, Nat.zero_le _, rfl⟩
  case round =>
    obtain ⟨k, rfl, hk, rfl⟩ := hrel
    by_cases hlt : k < xs.length
    · obtain ⟨c, hi, hne⟩ := Hin.out k hlt
      have hkb : k < bs.length := by omega
      clear hex
      go_wp2_with fail
      refine ⟨⟨k + 1, by go_num, by omega, by trivial⟩, by simp [RowKit.intOf]; omega⟩
    · obtain rfl : k = xs.length := by omega
      obtain ⟨z, hz⟩ : ∃ z, valI neg ds = z := ⟨_, rfl⟩
      have Hz := Lib.hid hz
      cases ok
      · have hnl : ¬ xs.length < bs.length := by rcases hs with ⟨h, _⟩ | ⟨_, rfl, _⟩; cases h; omega
        have hle : xs.length = bs.length := by omega
        have hex3 : (⟨bs.toArray⟩ : ByteArray).extract 0 bs.length = ⟨xs.toArray⟩ := by rw [← hle]; exact hex
        clear hs hlt
        go_wp2_with fail
        refine (ref2_Parse _ xs neg ds HC.out (by omega)).mono ?_
        rintro _ w2 ⟨r2, rfl, g2, h2⟩
        have G := Lib.hid (G.out.trans g2)
        have T0 := Lib.hid (T0.out.grow g2)
        clear g2
        by_cases hok : okI neg ds = true
        · unfold ParseIRes at h2
          rw [if_pos hok, hz] at h2
          obtain ⟨x, rfl, hx⟩ := h2
          have HX := Lib.hid hx
          have Hok := Lib.hid hok
          obtain ⟨p, k, c, rfl⟩ := hx.agg
          obtain ⟨s, hsg⟩ : ∃ s, decide (z < 0) = s := ⟨_, rfl⟩
          rw [hsg] at HX ⊢
          clear hx hok hz hsg
          have HV := Lib.hid (RatC.ofInt HX.out)
          have B := box23 w2 (.bool s) (.slice p k c) (.bool s) (.slice p k c) (.slice none 0 0) 25 27
          have b1 := box2 w2 (.bool s) (.slice p k c) 25
          have t0 := b1.2.load.1
          have t1 := b1.2.load.2
          have f0 := (T0.out.grow B.1).f0 0
          have f1 := (T0.out.grow B.1).f0 1
          have f2 := (T0.out.grow B.1).f0 2
          have hne : b0 ≠ w2.heap.size := by have := T0.out.lt; omega
          have hne2 : b0 ≠ w2.heap.size + 1 := by have := T0.out.lt; omega
          clear b1
          have GB := Lib.hid B.1
          have T0_0 := (T0.out.grow B.1).load.1
          have T0_1 := (T0.out.grow B.1).load.2.1
          have T0_2 := (T0.out.grow B.1).load.2.2
          have T5 := Lib.hid B.2.1
          have T5_0 := B.2.1.load.1
          have T5_1 := B.2.1.load.2
          have T7 := Lib.hid B.2.2
          have T7_0 := B.2.2.load.1
          have T7_1 := B.2.2.load.2.1
          have T7_2 := B.2.2.load.2.2
          clear B
          go_wp2_with fail
          clear t0 t1 f0 f1 f2 hne hne2
          clear T0_0 T0_1 T0_2 T5_0 T5_1 T7_0 T7_1 T7_2
          generalize w2.heap.size + 1 = b_T7 at T7 ⊢
          generalize w2.heap.size = b_T5 at T5 ⊢
          generalize (w2.alloc _).alloc _ = W3 at GB T5 T7 ⊢
          have G := Lib.hid (G.out.trans GB.out)
          have T0 := Lib.hid (T0.out.grow GB.out)
          have HX := Lib.hid (HX.out.grow GB.out)
          have HV := Lib.hid (HV.out.grow GB.out)
          have hu := upd3 W3 b0 (.bool s) (.slice p k c) (.slice none 0 0)
          have HX := Lib.hid (HX.out.upd T0.out.noInt hu)
          have HV := Lib.hid (HV.out.upd T0.out.noInt hu)
          have T0 := Lib.hid (T0.out.set (.bool s) (.slice p k c) (.slice none 0 0))
          have G := Lib.hid (G.out.three Hb0.out (.bool s) (.slice p k c) (.slice none 0 0))
          clear hu
          generalize ((W3.setCell _ _).setCell _ _).setCell _ _ = W9 at G T0 HX HV ⊢
          have T0_0 := T0.out.load.1
          have T0_1 := T0.out.load.2.1
          have T0_2 := T0.out.load.2.2
          refine bodyPost_ret (by simp [results, Tryz.results47, go_sem, T0_0, T0_1, T0_2]; rfl) rfl ?_
          exact ⟨_, rfl, G.out, ParseQ.good (by unfold okQ; rw [Hok.out]; rfl) (by show RatC _ _ (valQ _ _ false); rw [Hz.out]; exact HV.out)⟩
        · unfold ParseIRes at h2
          rw [if_neg hok] at h2
          subst h2
          have Hok := Lib.hid hok
          clear hok hz
          have B := box2 w2 (.bool false) (.slice none 0 0) 25
          have f0 := (T0.out.grow B.1).f0 0
          have f1 := (T0.out.grow B.1).f0 1
          have f2 := (T0.out.grow B.1).f0 2
          have hne : b0 ≠ w2.heap.size := by have := T0.out.lt; omega
          have GB := Lib.hid B.1
          have T0_0 := (T0.out.grow B.1).load.1
          have T0_1 := (T0.out.grow B.1).load.2.1
          have T0_2 := (T0.out.grow B.1).load.2.2
          have T5 := Lib.hid B.2
          have T5_0 := B.2.load.1
          have T5_1 := B.2.load.2
          clear B
          go_wp2_with fail
          clear f0 f1 f2 hne
          clear T0_0 T0_1 T0_2 T5_0 T5_1
          generalize w2.heap.size = b_T5 at T5 ⊢
          generalize w2.alloc _ = W3 at GB T5 ⊢
          have G := Lib.hid (G.out.trans GB.out)
          have T0 := Lib.hid (T0.out.grow GB.out)
          have hu := upd3 W3 b0 (.bool false) (.slice none 0 0) (.slice none 0 0)
          have T0 := Lib.hid (T0.out.set (.bool false) (.slice none 0 0) (.slice none 0 0))
          have G := Lib.hid (G.out.three Hb0.out (.bool false) (.slice none 0 0) (.slice none 0 0))
          clear hu
          generalize ((W3.setCell _ _).setCell _ _).setCell _ _ = W9 at G T0 ⊢
          have T0_0 := T0.out.load.1
          have T0_1 := T0.out.load.2.1
          have T0_2 := T0.out.load.2.2
          refine bodyPost_ret (by simp [results, Tryz.results47, go_sem, T0_0, T0_1, T0_2]; rfl) rfl ?_
          exact ⟨_, rfl, G.out, ParseQ.bad (by unfold okQ; rw [Bool.eq_false_iff.2 Hok.out]; rfl)⟩
      · have hbs : bs = xs ++ 47 :: cs := by rcases hs with ⟨_, h, _⟩ | ⟨h, _⟩; exact h; cases h
        have hsl : ∀ h, (⟨bs.toArray⟩ : ByteArray)[xs.length]'h = 47 := fun h => by
          show bs.toArray[xs.length] = _
          subst hbs
          simp
        have hln : bs.length = xs.length + 1 + cs.length := by rw [hbs]; simp; omega
        have hex2 : (⟨bs.toArray⟩ : ByteArray).extract (xs.length + 1) bs.length = ⟨cs.toArray⟩ := by
          rw [ByteArray.extract_mk, hbs]
          simp
          rw [List.take_of_length_le (by omega)]
        have hkb : xs.length < bs.length := by omega
        have Hln := Lib.hid hln
        clear hs hlt hbs hln
        go_wp2_with fail
        refine (ref2_Parse _ xs neg ds HC.out (by omega)).mono ?_
        rintro _ w2 ⟨r2, rfl, g2, h2⟩
        have G := Lib.hid (G.out.trans g2)
        have T0 := Lib.hid (T0.out.grow g2)
        clear g2
        by_cases hok : okI neg ds = true
        · unfold ParseIRes at h2
          rw [if_pos hok, hz] at h2
          obtain ⟨x, rfl, hx⟩ := h2
          have HX := Lib.hid hx
          have HXl := Lib.hid (show (digs z.natAbs).length ≤ 200 by rw [← hz]; exact valI_len hok hdl)
          have Hok := Lib.hid hok
          obtain ⟨p, k, c, rfl⟩ := hx.agg
          obtain ⟨s, hsg⟩ : ∃ s, decide (z < 0) = s := ⟨_, rfl⟩
          rw [hsg] at HX ⊢
          clear hx hok hz hsg
          have B := box23 w2 (.bool s) (.slice p k c) (.bool s) (.slice p k c) (.slice none 0 0) 25 27
          have b1 := box2 w2 (.bool s) (.slice p k c) 25
          have t0 := b1.2.load.1
          have t1 := b1.2.load.2
          clear b1
          have GB := Lib.hid B.1
          have T0_0 := (T0.out.grow B.1).load.1
          have T0_1 := (T0.out.grow B.1).load.2.1
          have T0_2 := (T0.out.grow B.1).load.2.2
          have T5 := Lib.hid B.2.1
          have T5_0 := B.2.1.load.1
          have T5_1 := B.2.1.load.2
          have T7 := Lib.hid B.2.2
          have T7_0 := B.2.2.load.1
          have T7_1 := B.2.2.load.2.1
          have T7_2 := B.2.2.load.2.2
          clear B
          go_wp2_with fail
          clear t0 t1
          clear T0_0 T0_1 T0_2 T5_0 T5_1 T7_0 T7_1 T7_2
          have Hb_T5 := Lib.hid (show ¬ w2.heap.size < w.heap.size from fun h => by have := G.out.size; omega)
          have Hd_T0_T5 := Lib.hid (show b0 ≠ w2.heap.size from fun h => by have := T0.out.lt; omega)
          have Hb_T7 := Lib.hid (show ¬ w2.heap.size + 1 < w.heap.size from fun h => by have := G.out.size; omega)
          have Hd_T0_T7 := Lib.hid (show b0 ≠ w2.heap.size + 1 from fun h => by have := T0.out.lt; omega)
          generalize w2.heap.size + 1 = b_T7 at T7 Hb_T7 Hd_T0_T7 ⊢
          generalize w2.heap.size = b_T5 at T5 Hb_T5 Hd_T0_T5 ⊢
          generalize (w2.alloc _).alloc _ = W3 at GB T5 T7 ⊢
          have G := Lib.hid (G.out.trans GB.out)
          have T0 := Lib.hid (T0.out.grow GB.out)
          have HX := Lib.hid (HX.out.grow GB.out)
          have hd57 := Lib.hid (show b_T5 ≠ b_T5 ∨ True from .inr trivial)
          refine (ref_Parse W3 cs (by omega)).mono ?_
          rintro _ w4 ⟨r4, rfl, g4, h4⟩
          have G := Lib.hid (G.out.trans g4)
          have T0 := Lib.hid (T0.out.grow g4)
          have T5 := Lib.hid (T5.out.grow g4)
          have T7 := Lib.hid (T7.out.grow g4)
          have HX := Lib.hid (HX.out.grow g4)
          clear g4
          by_cases hokc : okText cs = true
          · unfold ParseRes at h4
            rw [if_pos hokc] at h4
            obtain ⟨y, rfl, hy⟩ := h4
            obtain ⟨q, hq⟩ : ∃ q, decVal cs = q := ⟨_, rfl⟩
            rw [hq] at hy
            have HY := Lib.hid hy
            have HYl := Lib.hid (show (digs q).length ≤ 200 by rw [← hq]; exact dec_digs (okT hokc).1 hcl)
            have Hq := Lib.hid hq
            have Hokc := Lib.hid hokc
            obtain ⟨p', k', c', rfl, hk'⟩ := hy.slice
            clear hy hokc hq
            by_cases hq0 : q = 0
            · have h0 : k' = 0 := by rw [hk', hq0, digs_zero]; rfl
              subst h0
              have Hq0 := Lib.hid hq0
              clear hk' hq0
              have T0_0 := T0.out.load.1
              have T0_f0 := T0.out.f0 0
              have T0_1 := T0.out.load.2.1
              have T0_f1 := T0.out.f0 1
              have T0_2 := T0.out.load.2.2
              have T0_f2 := T0.out.f0 2
              go_wp2_with fail
              clear T0_0 T0_f0 T0_1 T0_f1 T0_2 T0_f2
              have hu := upd3 w4 b0 (.bool false) (.slice none 0 0) (.slice none 0 0)
              have HX := Lib.hid (HX.out.upd T0.out.noInt hu)
              have HY := Lib.hid (HY.out.upd T0.out.noInt hu)
              have T0 := Lib.hid (T0.out.set (.bool false) (.slice none 0 0) (.slice none 0 0))
              have G := Lib.hid (G.out.three Hb0.out (.bool false) (.slice none 0 0) (.slice none 0 0))
              clear hu
              generalize ((w4.setCell _ _).setCell _ _).setCell _ _ = W9 at G T0 HX HY ⊢
              have T0_0 := T0.out.load.1
              have T0_1 := T0.out.load.2.1
              have T0_2 := T0.out.load.2.2
              refine bodyPost_ret (by simp [results, Tryz.results47, go_sem, T0_0, T0_1, T0_2]; rfl) rfl ?_
              exact ⟨_, rfl, G.out, ParseQ.bad (by unfold okQ; rw [Hok.out, Hokc.out, Hq.out, Hq0.out]; rfl)⟩
            · have h0 : ¬ (k' : Int) = 0 := by
                have : digs q ≠ [] := fun e => hq0 (digs_eq_nil.1 e)
                have := List.length_pos_iff.2 this
                omega
              have Hq0 := Lib.hid hq0
              clear hk' hq0
              have T5_0 := T5.out.load.1
              have T5_1 := T5.out.load.2
              go_wp2_with fail
              refine (d_build w4 _ _ z q 200 200 (HX.out.v HXl.out) (HY.out.v HYl.out) Hq0.out (by decide) (by decide)).mono ?_
              rintro _ w6 ⟨r6, rfl, g6, h6⟩
              clear T5_0 T5_1
              have G := Lib.hid (G.out.trans g6)
              have T0 := Lib.hid (T0.out.grow g6)
              have T5 := Lib.hid (T5.out.grow g6)
              have T7 := Lib.hid (T7.out.grow g6)
              have HX := Lib.hid (HX.out.grow g6)
              have HY := Lib.hid (HY.out.grow g6)
              clear g6
              have H6 := Lib.hid h6
              clear h6
              obtain ⟨p8, k8, c8, e8, m8, n8, rfl, hn8, hd8⟩ := H6.out
              obtain ⟨s8, hs8⟩ : ∃ s, decide ((mkRat z q).num < 0) = s := ⟨_, rfl⟩
              rw [hs8] at H6 ⊢
              have HD8 := Lib.hid hd8
              have hm8 := hd8.len
              clear hn8 hd8 hs8
              have hne7 := Hd_T0_T7.out
              by_cases hd1 : (mkRat z q).den = 1
              · have hm0 : m8 = 0 := by rw [← hm8, hd1]; rfl
                subst hm0
                have HN := Lib.hid (show ¬ (2 ≤ q ∧ Nat.gcd z.natAbs q = 1) from fun h => ((den_okQ z Hq0.out).2 h).1 hd1)
                clear hm8 hd1
                have T7_0 := T7.out.load.1
                have T7_f0 := T7.out.f0 0
                have T7_1 := T7.out.load.2.1
                have T7_f1 := T7.out.f0 1
                have T7_2 := T7.out.load.2.2
                have T7_f2 := T7.out.f0 2
                have T0_0 := T0.out.load.1
                have T0_f0 := T0.out.f0 0
                have T0_1 := T0.out.load.2.1
                have T0_f1 := T0.out.f0 1
                have T0_2 := T0.out.load.2.2
                have T0_f2 := T0.out.f0 2
                go_wp2_with fail
                clear T7_0 T7_f0 T7_1 T7_f1 T7_2 T7_f2 T0_0 T0_f0 T0_1 T0_f1 T0_2 T0_f2
                have hu := upd3 w6 b_T7 (.bool s8) (.slice p8 k8 c8) (.slice e8 0 n8)
                have H6 := Lib.hid (H6.out.upd T7.out.noInt hu)
                have HY := Lib.hid (HY.out.upd T7.out.noInt hu)
                have HD8 := Lib.hid (HD8.out.upd T7.out.noInt hu)
                have T0 := Lib.hid (T0.out.upd hu Hd_T0_T7.out)
                have T7 := Lib.hid (T7.out.set (.bool s8) (.slice p8 k8 c8) (.slice e8 0 n8))
                have G := Lib.hid (G.out.three Hb_T7.out (.bool s8) (.slice p8 k8 c8) (.slice e8 0 n8))
                clear hu
                generalize ((w6.setCell _ _).setCell _ _).setCell _ _ = W7 at G T0 T7 H6 HY HD8 ⊢
                have hu := upd3 W7 b0 (.bool false) (.slice none 0 0) (.slice none 0 0)
                have H6 := Lib.hid (H6.out.upd T0.out.noInt hu)
                have HY := Lib.hid (HY.out.upd T0.out.noInt hu)
                have HD8 := Lib.hid (HD8.out.upd T0.out.noInt hu)
                have T0 := Lib.hid (T0.out.set (.bool false) (.slice none 0 0) (.slice none 0 0))
                have G := Lib.hid (G.out.three Hb0.out (.bool false) (.slice none 0 0) (.slice none 0 0))
                clear hu
                generalize ((W7.setCell _ _).setCell _ _).setCell _ _ = W9 at G T0 H6 HY HD8 ⊢
                have T0_0 := T0.out.load.1
                have T0_1 := T0.out.load.2.1
                have T0_2 := T0.out.load.2.2
                refine bodyPost_ret (by simp [results, Tryz.results47, go_sem, T0_0, T0_1, T0_2]; rfl) rfl ?_
                exact ⟨_, rfl, G.out, ParseQ.bad (by unfold okQ; rw [Hok.out, Hokc.out, Hq.out, Hz.out]; have h := HN.out; by_cases h2 : 2 ≤ q <;> by_cases h3 : Nat.gcd z.natAbs q = 1 <;> simp_all)⟩
              · have hm0 : ¬ (m8 : Int) = 0 := by
                  have : m8 ≠ 0 := by
                    rw [← hm8]; unfold dd; rw [if_neg hd1]
                    intro h
                    have := List.eq_nil_of_length_eq_zero h
                    rw [digs_eq_nil] at this
                    exact (mkRat z q).den_nz this
                  omega
                obtain ⟨t, ht⟩ : ∃ t, decide (dd (mkRat z q).den = digs q) = t := ⟨_, rfl⟩
                have HT := Lib.hid (show (decide (2 ≤ q) && decide (Nat.gcd z.natAbs q = 1)) = t by
                  rw [← ht]
                  have h := den_okQ z Hq0.out
                  have e : dd (mkRat z q).den = digs q ↔ (mkRat z q).den = q := by
                    unfold dd; rw [if_neg hd1]
                    exact ⟨fun h => digs_inj h, fun h => by rw [h]⟩
                  rw [← Bool.decide_and]
                  exact decide_eq_decide.2 ⟨fun h' => e.2 (h.2 h').2, fun h' => h.1 ⟨hd1, e.1 h'⟩⟩)
                clear hm8 hd1
                have T7_0 := T7.out.load.1
                have T7_f0 := T7.out.f0 0
                have T7_1 := T7.out.load.2.1
                have T7_f1 := T7.out.f0 1
                have T7_2 := T7.out.load.2.2
                have T7_f2 := T7.out.f0 2
                go_wp2_with fail
                clear T7_0 T7_f0 T7_1 T7_f1 T7_2 T7_f2
                have hu := upd3 w6 b_T7 (.bool s8) (.slice p8 k8 c8) (.slice e8 m8 n8)
                have H6 := Lib.hid (H6.out.upd T7.out.noInt hu)
                have HY := Lib.hid (HY.out.upd T7.out.noInt hu)
                have HD8 := Lib.hid (HD8.out.upd T7.out.noInt hu)
                have T0 := Lib.hid (T0.out.upd hu Hd_T0_T7.out)
                have T7 := Lib.hid (T7.out.set (.bool s8) (.slice p8 k8 c8) (.slice e8 m8 n8))
                have G := Lib.hid (G.out.three Hb_T7.out (.bool s8) (.slice p8 k8 c8) (.slice e8 m8 n8))
                clear hu
                generalize ((w6.setCell _ _).setCell _ _).setCell _ _ = W7 at G T0 T7 H6 HY HD8 ⊢
                refine (ref_Same W7 _ _ _ _ HD8.out HY.out).mono ?_
                rintro _ w7 ⟨_, rfl, g7, rfl⟩
                rw [ht]
                clear ht
                have G := Lib.hid (G.out.trans g7)
                have T0 := Lib.hid (T0.out.grow g7)
                have T7 := Lib.hid (T7.out.grow g7)
                have H6 := Lib.hid (H6.out.grow g7)
                have HY := Lib.hid (HY.out.grow g7)
                have HD8 := Lib.hid (HD8.out.grow g7)
                clear g7
                cases t
                · have T0_0 := T0.out.load.1
                  have T0_f0 := T0.out.f0 0
                  have T0_1 := T0.out.load.2.1
                  have T0_f1 := T0.out.f0 1
                  have T0_2 := T0.out.load.2.2
                  have T0_f2 := T0.out.f0 2
                  go_wp2_with fail
                  clear T0_0 T0_f0 T0_1 T0_f1 T0_2 T0_f2
                  have hu := upd3 w7 b0 (.bool false) (.slice none 0 0) (.slice none 0 0)
                  have H6 := Lib.hid (H6.out.upd T0.out.noInt hu)
                  have HY := Lib.hid (HY.out.upd T0.out.noInt hu)
                  have HD8 := Lib.hid (HD8.out.upd T0.out.noInt hu)
                  have T0 := Lib.hid (T0.out.set (.bool false) (.slice none 0 0) (.slice none 0 0))
                  have G := Lib.hid (G.out.three Hb0.out (.bool false) (.slice none 0 0) (.slice none 0 0))
                  clear hu
                  generalize ((w7.setCell _ _).setCell _ _).setCell _ _ = W9 at G T0 H6 HY HD8 ⊢
                  have T0_0 := T0.out.load.1
                  have T0_1 := T0.out.load.2.1
                  have T0_2 := T0.out.load.2.2
                  refine bodyPost_ret (by simp [results, Tryz.results47, go_sem, T0_0, T0_1, T0_2]; rfl) rfl ?_
                  exact ⟨_, rfl, G.out, ParseQ.bad (by unfold okQ; rw [Hok.out, Hokc.out, Hq.out, Hz.out, HT.out]; rfl)⟩
                · have T0_0 := T0.out.load.1
                  have T0_f0 := T0.out.f0 0
                  have T0_1 := T0.out.load.2.1
                  have T0_f1 := T0.out.f0 1
                  have T0_2 := T0.out.load.2.2
                  have T0_f2 := T0.out.f0 2
                  have T7_0 := T7.out.load.1
                  have T7_f0 := T7.out.f0 0
                  have T7_1 := T7.out.load.2.1
                  have T7_f1 := T7.out.f0 1
                  have T7_2 := T7.out.load.2.2
                  have T7_f2 := T7.out.f0 2
                  go_wp2_with fail
                  clear T0_0 T0_f0 T0_1 T0_f1 T0_2 T0_f2 T7_0 T7_f0 T7_1 T7_f1 T7_2 T7_f2
                  have hu := upd3 w7 b0 (.bool s8) (.slice p8 k8 c8) (.slice e8 m8 n8)
                  have H6 := Lib.hid (H6.out.upd T0.out.noInt hu)
                  have HY := Lib.hid (HY.out.upd T0.out.noInt hu)
                  have HD8 := Lib.hid (HD8.out.upd T0.out.noInt hu)
                  have T0 := Lib.hid (T0.out.set (.bool s8) (.slice p8 k8 c8) (.slice e8 m8 n8))
                  have G := Lib.hid (G.out.three Hb0.out (.bool s8) (.slice p8 k8 c8) (.slice e8 m8 n8))
                  clear hu
                  generalize ((w7.setCell _ _).setCell _ _).setCell _ _ = W9 at G T0 H6 HY HD8 ⊢
                  have T0_0 := T0.out.load.1
                  have T0_1 := T0.out.load.2.1
                  have T0_2 := T0.out.load.2.2
                  refine bodyPost_ret (by simp [results, Tryz.results47, go_sem, T0_0, T0_1, T0_2]; rfl) rfl ?_
                  exact ⟨_, rfl, G.out, ParseQ.good (by unfold okQ; rw [Hok.out, Hokc.out, Hq.out, Hz.out, HT.out]; rfl) (by show RatC _ _ (valQ _ _ true); unfold valQ; rw [Hz.out, Hq.out]; exact H6.out)⟩
          · unfold ParseRes at h4
            rw [if_neg hokc] at h4
            subst h4
            have Hokc := Lib.hid hokc
            clear hokc
            have T0_0 := T0.out.load.1
            have T0_f0 := T0.out.f0 0
            have T0_1 := T0.out.load.2.1
            have T0_f1 := T0.out.f0 1
            have T0_2 := T0.out.load.2.2
            have T0_f2 := T0.out.f0 2
            go_wp2_with fail
            clear T0_0 T0_f0 T0_1 T0_f1 T0_2 T0_f2
            have hu := upd3 w4 b0 (.bool false) (.slice none 0 0) (.slice none 0 0)
            have HX := Lib.hid (HX.out.upd T0.out.noInt hu)
            have T0 := Lib.hid (T0.out.set (.bool false) (.slice none 0 0) (.slice none 0 0))
            have G := Lib.hid (G.out.three Hb0.out (.bool false) (.slice none 0 0) (.slice none 0 0))
            clear hu
            generalize ((w4.setCell _ _).setCell _ _).setCell _ _ = W9 at G T0 HX ⊢
            have T0_0 := T0.out.load.1
            have T0_1 := T0.out.load.2.1
            have T0_2 := T0.out.load.2.2
            refine bodyPost_ret (by simp [results, Tryz.results47, go_sem, T0_0, T0_1, T0_2]; rfl) rfl ?_
            exact ⟨_, rfl, G.out, ParseQ.bad (by unfold okQ; rw [Hok.out, Bool.eq_false_iff.2 Hokc.out]; rfl)⟩
        · unfold ParseIRes at h2
          rw [if_neg hok] at h2
          subst h2
          have Hok := Lib.hid hok
          clear hok hz
          have B := box2 w2 (.bool false) (.slice none 0 0) 25
          have f0 := (T0.out.grow B.1).f0 0
          have f1 := (T0.out.grow B.1).f0 1
          have f2 := (T0.out.grow B.1).f0 2
          have hne : b0 ≠ w2.heap.size := by have := T0.out.lt; omega
          have GB := Lib.hid B.1
          have T0_0 := (T0.out.grow B.1).load.1
          have T0_1 := (T0.out.grow B.1).load.2.1
          have T0_2 := (T0.out.grow B.1).load.2.2
          have T5 := Lib.hid B.2
          have T5_0 := B.2.load.1
          have T5_1 := B.2.load.2
          clear B
          go_wp2_with fail
          clear f0 f1 f2 hne
          clear T0_0 T0_1 T0_2 T5_0 T5_1
          generalize w2.heap.size = b_T5 at T5 ⊢
          generalize w2.alloc _ = W3 at GB T5 ⊢
          have G := Lib.hid (G.out.trans GB.out)
          have T0 := Lib.hid (T0.out.grow GB.out)
          have hu := upd3 W3 b0 (.bool false) (.slice none 0 0) (.slice none 0 0)
          have T0 := Lib.hid (T0.out.set (.bool false) (.slice none 0 0) (.slice none 0 0))
          have G := Lib.hid (G.out.three Hb0.out (.bool false) (.slice none 0 0) (.slice none 0 0))
          clear hu
          generalize ((W3.setCell _ _).setCell _ _).setCell _ _ = W9 at G T0 ⊢
          have T0_0 := T0.out.load.1
          have T0_1 := T0.out.load.2.1
          have T0_2 := T0.out.load.2.2
          refine bodyPost_ret (by simp [results, Tryz.results47, go_sem, T0_0, T0_1, T0_2]; rfl) rfl ?_
          exact ⟨_, rfl, G.out, ParseQ.bad (by unfold okQ; rw [Bool.eq_false_iff.2 Hok.out]; rfl)⟩
end Go.Proofs.YtmcgkglmlfbijaaGreatDoor

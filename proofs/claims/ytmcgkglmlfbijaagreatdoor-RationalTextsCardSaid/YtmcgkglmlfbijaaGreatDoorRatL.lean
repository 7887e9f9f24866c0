/-
  exodusref03: Few, Int64, Text.
-/
import Derived.Test.YtmcgkglmlfbijaaGreatDoorRatK
namespace Go.Proofs.YtmcgkglmlfbijaaGreatDoor
open Go.RowKit Go.Lib
set_option linter.unusedVariables false
set_option linter.unusedSimpArgs false

set_option maxRecDepth 100000 in
set_option maxHeartbeats 1600000 in
theorem ref_Few (w : World) (g n cap K : Nat) (S : Nat → Bool) (F F' : Nat → Option Addr) (L C D C' : Nat → Nat) (hn : n ≤ 8) (hcap : n ≤ cap) (hK : K ≤ 1000) (t : Bool) (ht : decide (∀ i, i < n → L i ≤ K ∧ D i ≤ K) = t)
    (hc : ∀ i, i < n → w.cell? ⟨g, i * 3, none⟩ = some (.bool (S i)) ∧ w.cell? ⟨g, i * 3 + 1, none⟩ = some (.slice (F i) (L i) (C i)) ∧ w.cell? ⟨g, i * 3 + 2, none⟩ = some (.slice (F' i) (D i) (C' i))) :
    Calls Tryz.prog 11 #[.int .i64 (K : Int), .slice (some ⟨g, 0, none⟩) n cap] w (Ret w fun r w' => r = .bool t) := by
  have HC := Lib.hid hc
  have HT := Lib.hid ht
  clear hc ht
  go_enter Tryz.func11, Tryz.ntmps11
  go_wp2_with fail
  go_loopw [5] (fun i w1 => ∃ k : Nat, k ≤ n ∧ i = .int .i64 k ∧ (∀ j, j < k → L j ≤ K ∧ D j ≤ K) ∧ w1 = w) (fun i _ => n - (RowKit.intOf i).toNat)
  case atStart => exact ⟨0, Nat.zero_le _, rfl, fun j hj => by omega, rfl⟩
  case round =>
    obtain ⟨k, hk, rfl, hp, rfl⟩ := hrel
    have Hp := Lib.hid hp; clear hp
    by_cases hlt : k < n
    · obtain ⟨c0, c1, c2⟩ := HC.out k hlt
      obtain ⟨l, hl⟩ : ∃ l, L k = l := ⟨_, rfl⟩
      obtain ⟨d, hd⟩ : ∃ d, D k = d := ⟨_, rfl⟩
      rw [hl] at c1
      rw [hd] at c2
      have Hl := Lib.hid hl
      have Hd := Lib.hid hd
      clear hl hd
      by_cases h10 : (l : Int) ≤ (K : Int)
      · by_cases h11 : (d : Int) ≤ (K : Int)
        · go_wp2_with fail
          refine ⟨⟨k + 1, by omega, by go_num, fun j hj => ?_, by trivial⟩, by simp [RowKit.intOf]; omega⟩
          by_cases hj2 : j < k
          · exact Hp.out j hj2
          · obtain rfl : j = k := by omega
            rw [Hl.out, Hd.out]; omega
        · go_wp2_with fail
          go_ret
          refine ⟨_, rfl, Gr.refl _, ?_⟩
          have h2 : t = false := by
            rw [← HT.out]
            exact decide_eq_false fun h => by have := (h k hlt).2; rw [Hd.out] at this; omega
          rw [h2]
          rfl
      · go_wp2_with fail
        go_ret
        refine ⟨_, rfl, Gr.refl _, ?_⟩
        have h2 : t = false := by
          rw [← HT.out]
          exact decide_eq_false fun h => by have := (h k hlt).1; rw [Hl.out] at this; omega
        rw [h2]
        rfl
    · go_wp2_with fail
      go_ret
      refine ⟨_, rfl, Gr.refl _, ?_⟩
      obtain rfl : k = n := by omega
      have h2 : t = true := by
        rw [← HT.out]
        exact decide_eq_true Hp.out
      rw [h2]
      rfl

set_option maxRecDepth 100000 in
set_option maxHeartbeats 3200000 in
theorem s_Int64 (w : World) (va : Value) (x : Rat) (t : Bool) (L : Nat) (ha : RatV w va x L) (ht : (decide (x.den = 1) && fits x.num) = t) (h1 : 1 ≤ L) (hL : L ≤ 1000) :
    Calls Tryz.prog 39 #[va] w (Ret w fun r w' => r = .tuple #[.int .i64 (if t then x.num else 0), .bool t]) := by
  have HS := Lib.hid (ha.sz h1)
  obtain ⟨z, q, ha2, hx⟩ := ha.p
  have Hx := Lib.hid hx
  clear hx
  have HA := Lib.hid ha2
  obtain ⟨s0, p0, k0, c0, e0, m0, n0, rfl⟩ := ha2.agg
  clear ha ha2
  have B := box3 w (.bool s0) (.slice p0 k0 c0) (.slice e0 m0 n0) 27
  go_enter Tryz.func39, Tryz.ntmps39
  go_wp2_with fail
  generalize w.alloc _ = W at B ⊢
  obtain ⟨G0, t0⟩ := B
  generalize hb0 : w.heap.size = b0 at t0  ⊢
  have Hb0 := Lib.hid (show ¬ b0 < w.heap.size by omega)
  have G := Lib.hid G0
  have T0 := Lib.hid t0
  clear hb0 G0 t0
  have HA := Lib.hid (HA.out.grow G.out)
  refine (d_Fix W _ z q L HA.out (by omega)).mono ?_
  rintro _ w1 ⟨r1, rfl, g1, h1⟩
  have G := Lib.hid (G.out.trans g1)
  have T0 := Lib.hid (T0.out.grow g1)
  have HA := Lib.hid (HA.out.grow g1)
  clear g1
  have H1 := Lib.hid h1
  clear h1
  rw [Hx.out] at H1
  obtain ⟨p8, k8, c8, e8, m8, n8, rfl, hn8, hd8⟩ := H1.out
  have HN8 := Lib.hid hn8
  have hm8 := hd8.len
  clear hn8 hd8
  obtain ⟨s8, hs8⟩ : ∃ s, decide (x.num < 0) = s := ⟨_, rfl⟩
  rw [hs8] at H1 ⊢
  have HZ := Lib.hid (show zval s8 (digs x.num.natAbs) = x.num by rw [← hs8]; exact zval_digsR _)
  clear hs8
  have T0_0 := T0.out.load.1
  have T0_f0 := T0.out.f0 0
  have T0_1 := T0.out.load.2.1
  have T0_f1 := T0.out.f0 1
  have T0_2 := T0.out.load.2.2
  have T0_f2 := T0.out.f0 2
  by_cases hd1 : x.den = 1
  · have h0 : m8 = 0 := by rw [← hm8, hd1]; rfl
    have htf : fits x.num = t := by rw [← ht, hd1]; simp
    subst h0
    clear hm8 hd1 ht
    go_wp2_with fail
    clear T0_0 T0_f0 T0_1 T0_f1 T0_2 T0_f2
    have hu := upd3 w1 b0 (.bool s8) (.slice p8 k8 c8) (.slice e8 0 n8)
    have H1 := Lib.hid (H1.out.upd T0.out.noInt hu)
    have HN8 := Lib.hid (HN8.out.upd T0.out.noInt hu)
    have T0 := Lib.hid (T0.out.set (.bool s8) (.slice p8 k8 c8) (.slice e8 0 n8))
    have G := Lib.hid (G.out.three Hb0.out (.bool s8) (.slice p8 k8 c8) (.slice e8 0 n8))
    clear hu
    generalize ((w1.setCell _ _).setCell _ _).setCell _ _ = W1 at G T0 H1 HN8 ⊢
    refine (ref2_Int64 W1 _ _ _ x.num t HZ.out ⟨_, _, _, rfl, HN8.out⟩ (Nat.le_trans HS.out.1 (by omega)) htf).mono ?_
    rintro _ w9 ⟨_, rfl, g9, rfl⟩
    have G := Lib.hid (G.out.trans g9)
    have T0 := Lib.hid (T0.out.grow g9)
    have H1 := Lib.hid (H1.out.grow g9)
    have HN8 := Lib.hid (HN8.out.grow g9)
    clear g9
    clear htf
    cases t
    all_goals
      go_wp2_with fail
      go_ret2
      exact ⟨_, rfl, G.out, rfl⟩
  · have h0 : 0 < m8 := by
      have : m8 ≠ 0 := by
        rw [← hm8]; unfold dd; rw [if_neg hd1]
        intro h
        have := List.eq_nil_of_length_eq_zero h
        rw [digs_eq_nil] at this
        exact x.den_nz this
      omega
    have htf : t = false := by rw [← ht, decide_eq_false hd1]; rfl
    subst htf
    clear hm8 hd1 ht
    go_wp2_with fail
    clear T0_0 T0_f0 T0_1 T0_f1 T0_2 T0_f2
    have hu := upd3 w1 b0 (.bool s8) (.slice p8 k8 c8) (.slice e8 m8 n8)
    have H1 := Lib.hid (H1.out.upd T0.out.noInt hu)
    have HN8 := Lib.hid (HN8.out.upd T0.out.noInt hu)
    have T0 := Lib.hid (T0.out.set (.bool s8) (.slice p8 k8 c8) (.slice e8 m8 n8))
    have G := Lib.hid (G.out.three Hb0.out (.bool s8) (.slice p8 k8 c8) (.slice e8 m8 n8))
    clear hu
    generalize ((w1.setCell _ _).setCell _ _).setCell _ _ = W1 at G T0 H1 HN8 ⊢
    go_ret2
    exact ⟨_, rfl, G.out, rfl⟩

set_option maxRecDepth 100000 in
set_option maxHeartbeats 3200000 in
theorem s_Text (w : World) (va : Value) (x : Rat) (L : Nat) (s : List UInt8) (ha : RatV w va x L) (hs : ratText x = s) (hL : L ≤ 1000) (h1 : 1 ≤ L) :
    Calls Tryz.prog 45 #[va] w (Ret w fun r w' => r = .string ⟨s.toArray⟩) := by
  have HS := Lib.hid hs
  have HZ := Lib.hid (ha.sz h1)
  obtain ⟨z, q, ha2, rfl⟩ := ha.p
  have HA := Lib.hid ha2
  obtain ⟨s0, p0, k0, c0, e0, m0, n0, rfl⟩ := ha2.agg
  clear ha ha2 hs
  have B := box3 w (.bool s0) (.slice p0 k0 c0) (.slice e0 m0 n0) 27
  go_enter Tryz.func45, Tryz.ntmps45
  go_wp2_with fail
  generalize w.alloc _ = W at B ⊢
  obtain ⟨G0, t0⟩ := B
  generalize hb0 : w.heap.size = b0 at t0  ⊢
  have Hb0 := Lib.hid (show ¬ b0 < w.heap.size by omega)
  have G := Lib.hid G0
  have T0 := Lib.hid t0
  clear hb0 G0 t0
  have HA := Lib.hid (HA.out.grow G.out)
  refine (d_Fix W _ z q L HA.out (by omega)).mono ?_
  rintro _ w1 ⟨r1, rfl, g1, h1⟩
  have G := Lib.hid (G.out.trans g1)
  have T0 := Lib.hid (T0.out.grow g1)
  have HA := Lib.hid (HA.out.grow g1)
  clear g1
  have H1 := Lib.hid h1
  clear h1
  generalize mkRat z q = x at H1 HZ HS
  obtain ⟨p8, k8, c8, e8, m8, n8, rfl, hn8, hd8⟩ := H1.out
  have HN8 := Lib.hid hn8
  have HD8 := Lib.hid hd8
  have hm8 := hd8.len
  clear hn8 hd8
  obtain ⟨s8, hs8⟩ : ∃ s, decide (x.num < 0) = s := ⟨_, rfl⟩
  rw [hs8] at H1 ⊢
  have HV := Lib.hid (show zval s8 (digs x.num.natAbs) = x.num by rw [← hs8]; exact zval_digsR _)
  clear hs8
  have T0_0 := T0.out.load.1
  have T0_f0 := T0.out.f0 0
  have T0_1 := T0.out.load.2.1
  have T0_f1 := T0.out.f0 1
  have T0_2 := T0.out.load.2.2
  have T0_f2 := T0.out.f0 2
  by_cases hd1 : x.den = 1
  · have h0 : m8 = 0 := by rw [← hm8, hd1]; rfl
    subst h0
    have HS := Lib.hid (show intText x.num = s by rw [← HS.out]; unfold ratText; rw [if_pos hd1])
    clear hm8 hd1
    go_wp2_with fail
    clear T0_0 T0_f0 T0_1 T0_f1 T0_2 T0_f2
    have hu := upd3 w1 b0 (.bool s8) (.slice p8 k8 c8) (.slice e8 0 n8)
    have H1 := Lib.hid (H1.out.upd T0.out.noInt hu)
    have HN8 := Lib.hid (HN8.out.upd T0.out.noInt hu)
    have HD8 := Lib.hid (HD8.out.upd T0.out.noInt hu)
    have T0 := Lib.hid (T0.out.set (.bool s8) (.slice p8 k8 c8) (.slice e8 0 n8))
    have G := Lib.hid (G.out.three Hb0.out (.bool s8) (.slice p8 k8 c8) (.slice e8 0 n8))
    clear hu
    generalize ((w1.setCell _ _).setCell _ _).setCell _ _ = W1 at G T0 H1 HN8 HD8 ⊢
    refine (ref2_Text W1 _ _ _ x.num s HV.out ⟨_, _, _, rfl, HN8.out⟩ (Nat.le_trans HZ.out.1 (by omega)) HS.out).mono ?_
    rintro _ w3 ⟨_, rfl, g3, rfl⟩
    have G := Lib.hid (G.out.trans g3)
    have T0 := Lib.hid (T0.out.grow g3)
    have H1 := Lib.hid (H1.out.grow g3)
    have HN8 := Lib.hid (HN8.out.grow g3)
    have HD8 := Lib.hid (HD8.out.grow g3)
    clear g3
    go_wp2_with fail
    go_ret
    exact ⟨_, rfl, G.out, rfl⟩
  · have h0 : ¬ (m8 : Int) = 0 := by
      have : m8 ≠ 0 := by
        rw [← hm8]; unfold dd; rw [if_neg hd1]
        intro h
        have := List.eq_nil_of_length_eq_zero h
        rw [digs_eq_nil] at this
        exact x.den_nz this
      omega
    have HD9 := Lib.hid (show NatL w1 (.slice e8 m8 n8) (digs x.den) by have h := HD8.out; unfold dd at h; rw [if_neg hd1] at h; exact h)
    obtain ⟨ta, hta⟩ : ∃ ta, intText x.num = ta := ⟨_, rfl⟩
    obtain ⟨tb, htb⟩ : ∃ tb, decDigits x.den = tb := ⟨_, rfl⟩
    have hla : ta.length ≤ 10002 := by rw [← hta]; exact Nat.le_trans (intText_len HZ.out.1) (by omega)
    have hlb : tb.length ≤ 10001 := by rw [← htb]; exact Nat.le_trans (dec_len (lt_of_digs_length HZ.out.2)) (by omega)
    have HS := Lib.hid (show ta ++ 47 :: tb = s by rw [← HS.out]; unfold ratText; rw [if_neg hd1, hta, htb])
    have Hta := Lib.hid hta
    have Htb := Lib.hid htb
    have hlim : ¬ 9223372036854775807 < ta.length + 1 := by omega
    have hlim2 : ¬ 9223372036854775807 < ta.length + 1 + tb.length := by omega
    have hcat := Lib.hid (ByteArray.mk_append_mk ta [47])
    have hcat2 := Lib.hid (ByteArray.mk_append_mk (ta ++ [47]) tb)
    clear hm8 hd1 hta htb
    go_wp2_with fail
    clear T0_0 T0_f0 T0_1 T0_f1 T0_2 T0_f2
    have hu := upd3 w1 b0 (.bool s8) (.slice p8 k8 c8) (.slice e8 m8 n8)
    have H1 := Lib.hid (H1.out.upd T0.out.noInt hu)
    have HN8 := Lib.hid (HN8.out.upd T0.out.noInt hu)
    have HD8 := Lib.hid (HD8.out.upd T0.out.noInt hu)
    have HD9 := Lib.hid (HD9.out.upd T0.out.noInt hu)
    have T0 := Lib.hid (T0.out.set (.bool s8) (.slice p8 k8 c8) (.slice e8 m8 n8))
    have G := Lib.hid (G.out.three Hb0.out (.bool s8) (.slice p8 k8 c8) (.slice e8 m8 n8))
    clear hu
    generalize ((w1.setCell _ _).setCell _ _).setCell _ _ = W1 at G T0 H1 HN8 HD8 HD9 ⊢
    refine wp_region_fast [(0, true), (1, true), (4, true), (5, true), (2, false), (3, true), (6, false), (7, true), (8, true)] (by kernel_rfl) (by kernel_rfl) rfl (by kernel_rfl) (fun _ _ d _ _ h => by cases d <;> exact h) ?_
    have T0_0 := T0.out.c0
    have T0_1 := T0.out.c1
    have T0_2 := T0.out.c2
    have g0 : Gr W1 W1.drew := (Gr.refl _).drew
    have G := Lib.hid (G.out.trans g0)
    have T0 := Lib.hid (T0.out.grow g0)
    have H1 := Lib.hid (H1.out.grow g0)
    have HN8 := Lib.hid (HN8.out.grow g0)
    have HD8 := Lib.hid (HD8.out.grow g0)
    have HD9 := Lib.hid (HD9.out.grow g0)
    repeat (refine wpE_readB (v := ?_) g0 rfl rfl (fun w' hg => ?_) (fun K hK => ?_); rotate_left; (go_simp; rfl); go_simp; refine hK _ _ ?_; clear hK K)
    refine wpE_fn (args := ?_) rfl rfl rfl rfl rfl rfl (by kernel_rfl) (by kernel_rfl) ?_ (fun K hK => ?_)
    rotate_left
    · go_simp; rfl
    refine (ref2_Text _ _ _ _ x.num ta HV.out ⟨_, _, _, rfl, HN8.out⟩ (Nat.le_trans HZ.out.1 (by omega)) Hta.out).mono ?_
    rintro _ w3 ⟨_, rfl, g3, rfl⟩
    refine ⟨_, rfl, g3, ?_⟩
    go_simp
    refine hK _ _ ?_
    clear hK K
    have G := Lib.hid (G.out.trans g3)
    have T0 := Lib.hid (T0.out.grow g3)
    have H1 := Lib.hid (H1.out.grow g3)
    have HN8 := Lib.hid (HN8.out.grow g3)
    have HD8 := Lib.hid (HD8.out.grow g3)
    have HD9 := Lib.hid (HD9.out.grow g3)
    replace g0 := g0.trans g3
    clear g3
    repeat (refine wpE_readB (v := ?_) g0 rfl rfl (fun w' hg => ?_) (fun K hK => ?_); rotate_left; (go_simp; rfl); go_simp; refine hK _ _ ?_; clear hK K)
    refine wpE_fn (args := ?_) rfl rfl rfl rfl rfl rfl (by kernel_rfl) (by kernel_rfl) ?_ (fun K hK => ?_)
    rotate_left
    · go_simp; rfl
    refine (ref_Text _ _ _ HD9.out (Nat.le_trans HZ.out.2 (by omega))).mono ?_
    rintro _ w4 ⟨_, rfl, g4, rfl⟩
    refine ⟨_, rfl, g4, ?_⟩
    go_simp
    refine hK _ _ ?_
    clear hK K
    have G := Lib.hid (G.out.trans g4)
    have T0 := Lib.hid (T0.out.grow g4)
    have H1 := Lib.hid (H1.out.grow g4)
    have HN8 := Lib.hid (HN8.out.grow g4)
    have HD8 := Lib.hid (HD8.out.grow g4)
    have HD9 := Lib.hid (HD9.out.grow g4)
    replace g0 := g0.trans g4
    clear g4
    rw [nval_digs, Htb.out]
    repeat (refine wpE_readB (v := ?_) g0 rfl rfl (fun w' hg => ?_) (fun K hK => ?_); rotate_left; (go_simp; rfl); go_simp; refine hK _ _ ?_; clear hK K)
    refine wpE_nil ?_
    clear g0
    clear T0_0 T0_1 T0_2
    go_wp2_with fail
    go_ret
    refine ⟨_, rfl, G.out, ?_⟩
    show Value.string (((⟨ta.toArray⟩ : ByteArray) ++ ⟨[47].toArray⟩) ++ ⟨tb.toArray⟩) = _
    rw [hcat.out, hcat2.out, ← HS.out, List.append_assoc]
    rfl
end Go.Proofs.YtmcgkglmlfbijaaGreatDoor

/-
  The program's division, continued: reduce.
-/
import Derived.Test.YtmcgkglmlfbijaaDoorLeafI
namespace Go.Proofs.YtmcgkglmlfbijaaDoor
open Go.RowKit
set_option linter.unusedVariables false
set_option linter.unusedSimpArgs false

theorem red_end0 {A S q V N : Nat} {m : Nat} (h : m + S * (q * V) = N + A * 0) (h2 : N < S * ((q + 1) * V)) : m + S * (q * V) = N ∧ m < S * V := by
  rw [Nat.mul_zero, Nat.add_zero] at h
  rw [Nat.add_mul, Nat.one_mul, Nat.mul_add] at h2
  omega
theorem red_pos {A S q V N m : Nat} (h : m + S * (q * V) = N + A * 1) (hm : m < A) : 1 ≤ q := by
  rcases Nat.eq_zero_or_pos q with h0 | h0
  · subst h0; rw [Nat.zero_mul, Nat.mul_zero] at h; omega
  · exact h0
theorem red_end1 {A S q V N m m2 c : Nat} (h : m + S * (q * V) = N + A * 1) (h2 : m2 + A * c = m + S * V) (hm : m < A) (hm2 : m2 < A) (hc : c ≤ 1) (hq : q = 0 ∨ S * ((q - 1) * V) ≤ N) (hq1 : 1 ≤ q) :
    m2 + S * ((q - 1) * V) = N ∧ m2 < S * V := by
  obtain ⟨p, rfl⟩ : ∃ p, q = p + 1 := ⟨q - 1, by omega⟩
  rw [Nat.add_sub_cancel] at *
  have hq' : S * (p * V) ≤ N := by rcases hq with h0 | h0; omega; exact h0
  rw [Nat.add_mul, Nat.one_mul, Nat.mul_add, Nat.mul_one] at h
  rcases Nat.eq_zero_or_pos c with h0 | h0
  · subst h0; rw [Nat.mul_zero] at h2; omega
  · have : c = 1 := by omega
    subst this; rw [Nat.mul_one] at h2; omega

set_option maxHeartbeats 3200000 in
theorem nat_reduce (w : World) (g L at' q : Nat) (vb : Value) (l lb : List Nat) (hrow : RowN w g l) (hL : l.length = L) (hb : NatL w vb lb) (hnot : NotIn g vb) (hq : q < BB)
    (hlen : L ≤ 17592186044416) (hfit : at' + lb.length + 1 ≤ L) (hN : nval l < BB ^ (at' + (lb.length + 1)))
    (hq1 : q = 0 ∨ BB ^ at' * ((q - 1) * nval lb) ≤ nval l) (hq2 : nval l < BB ^ at' * ((q + 1) * nval lb)) :
    Calls Tryd.prog 82 #[.slice (some ⟨g, 0, none⟩) L L, vb, .int .i64 at', .int .u64 q] w fun e w' => ∃ (q' : Nat) (m : List Nat), e = .returned (.int .u64 q') ∧ OnlyG g w w' ∧ RowN w' g m ∧ m.length = L ∧
      nval m + BB ^ at' * (q' * nval lb) = nval l ∧ nval m < BB ^ at' * nval lb ∧ q' < BB := by
  have HB := Lib.hid hb
  have HR := Lib.hid hrow
  have HL := Lib.hid hL
  have HN := Lib.hid hN
  have HQ1 := Lib.hid hq1
  have HQ2 := Lib.hid hq2
  have HNot := Lib.hid hnot
  have Hq := Lib.hid hq
  obtain ⟨p, c, rfl, b1, b2, b3⟩ := hb.parts
  have B3 := Lib.hid b3
  obtain ⟨k, hk⟩ : ∃ n, lb.length = n := ⟨_, rfl⟩
  rw [hk] at HB b1 hfit HN HNot ⊢
  have Hk := Lib.hid hk
  have hq' : q < 4294967296 := by rw [BB_eq] at hq; exact hq
  clear hb b3 hk hrow hL hN hq1 hq2 hnot hq
  go_enter Tryd.func82, Tryd.ntmps82
  go_wp2_with fail
  go_loopw [9, 10, 19] (fun br cr i w1 => ∃ (j : Nat) (m : List Nat) (c b : Nat), j ≤ k + 1 ∧ i = .int .i64 j ∧ cr = .int .u64 c ∧ br = .int .u64 b ∧ c < BB ∧ b ≤ 1 ∧ RowN w1 g m ∧ m.length = L ∧
      nval m + BB ^ at' * (q * nval (lb.take j)) = nval l + BB ^ (at' + j) * (c + b) ∧ (∀ t, at' + j ≤ t → gd m t = gd l t) ∧ (k < j → c = 0) ∧ OnlyG g w w1) (fun _ _ i _ => k + 1 - (intOf i).toNat)
  case atStart =>
    exact ⟨0, l, 0, 0, by omega, rfl, rfl, rfl, BB_pos, by omega, HR.out, HL.out, by simp [nval], fun _ _ => rfl, fun _ => rfl, OnlyG.refl _ _⟩
  case round =>
    obtain ⟨j, m, cr, br, hj, rfl, rfl, rfl, hc, hbr, hrow, hm, hv, hsame, hlast, ho⟩ := hrel
    have Hrow := Lib.hid hrow
    have Hm := Lib.hid hm
    have Hv := Lib.hid hv
    have Hsame := Lib.hid hsame
    have Hlast := Lib.hid hlast
    have Ho := Lib.hid ho
    have Hc := Lib.hid hc
    have hc' : cr < 4294967296 := by rw [BB_eq] at hc; exact hc
    clear hrow hm hv hsame hlast ho hc
    by_cases hjk : j < k + 1
    · have cR := Hrow.out.cell (i := at' + j) (by rw [Hm.out]; omega)
      have fR := Hrow.out.free (at' + j)
      have gb := B3.out.gd j
      have gm := Hrow.out.dig.gd (at' + j)
      have hmul := mul_bound Hq.out gb
      rw [BB_eq] at gb gm
      obtain ⟨P, hP⟩ : ∃ P, q * gd lb j = P := ⟨_, rfl⟩
      rw [hP] at hmul
      have hPi : (q : Int) * gd lb j = (P : Int) := by rw [← hP]; exact (Int.natCast_mul _ _).symm
      obtain ⟨Y, hY⟩ : ∃ Y, P + cr = Y := ⟨_, rfl⟩
      have hYi : (P : Int) + cr = (Y : Int) := by omega
      obtain ⟨Z, hZ⟩ : ∃ Z, Y % BB = Z := ⟨_, rfl⟩
      obtain ⟨C, hC⟩ : ∃ C, Y / BB = C := ⟨_, rfl⟩
      have hZi : (Y : Int) % 4294967296 = (Z : Int) := by rw [← hZ, BB_eq]; omega
      have hCi : (Y : Int) / 4294967296 = (C : Int) := by rw [← hC, BB_eq]; omega
      have hY64 : Y ≤ 18446744073709551615 := by omega
      have hZ1 : Z < 4294967296 := by rw [← hZ, BB_eq]; omega
      have hC1 : C < 4294967296 := by rw [← hC, BB_eq]; omega
      have HYs := Lib.hid (show q * gd lb j + cr = Z + BB * C by rw [hP, hY, ← hZ, ← hC]; exact (Nat.mod_add_div Y BB).symm)
      have HCz := Lib.hid (show k < j + 1 → C = 0 by
        intro h
        have : j = k := by omega
        rw [← hC, ← hY, ← hP, this, gd_none (by rw [Hk.out]; exact Nat.le_refl _), Nat.mul_zero, Nat.zero_add]
        exact Nat.div_eq_of_lt Hc.out)
      clear hP hY hZ hC
      by_cases hlow : gd m (at' + j) < Z + br
      · obtain ⟨e1, e2⟩ := sub1_low gm hZ1 hbr hlow
        have hd := Lib.hid (show (BB + gd m (at' + j) - Z - br) % BB + Z + br = gd m (at' + j) + BB * 1 by rw [BB_eq]; omega)
        have E1 := Lib.hid e1
        have E2 := Lib.hid e2
        clear e1 e2
        go_wp2_with fail
        refine (nat_digit _ _ lb j (HB.out.keep HNot.out Ho.out) (by omega)).mono ?_
        rintro _ _ ⟨rfl, rfl⟩
        go_wp2_with fail
        have hjm : at' + j < m.length := by rw [Hm.out]; omega
        refine ⟨⟨j + 1, m.set (at' + j) ((BB + gd m (at' + j) - Z - br) % BB), C, 1, by omega, by go_num, rfl, by rw [E2.out], by rw [BB_eq]; exact hC1, by omega, Hrow.out.set (at' + j) _ _ E1.out (Nat.mod_lt _ BB_pos), by rw [List.length_set]; exact Hm.out, ?_, ?_, HCz.out, ?_⟩, by simp [intOf]; omega⟩
        · rw [nval_take_succ']; exact red_step hjm Hv.out HYs.out hd.out
        · intro t ht; rw [gd_set_ne (by omega)]; exact Hsame.out t (by omega)
        · exact Ho.out.trans (OnlyG.set _ _ _ _)
      · obtain ⟨e1, e2⟩ := sub1_high gm hZ1 hbr hlow
        have hd := Lib.hid (show (BB + gd m (at' + j) - Z - br) % BB + Z + br = gd m (at' + j) + BB * 0 by rw [BB_eq]; omega)
        have E1 := Lib.hid e1
        have E2 := Lib.hid e2
        clear e1 e2
        go_wp2_with fail
        refine (nat_digit _ _ lb j (HB.out.keep HNot.out Ho.out) (by omega)).mono ?_
        rintro _ _ ⟨rfl, rfl⟩
        go_wp2_with fail
        have hjm : at' + j < m.length := by rw [Hm.out]; omega
        refine ⟨⟨j + 1, m.set (at' + j) ((BB + gd m (at' + j) - Z - br) % BB), C, 0, by omega, by go_num, rfl, by rw [E2.out], by rw [BB_eq]; exact hC1, by omega, Hrow.out.set (at' + j) _ _ E1.out (Nat.mod_lt _ BB_pos), by rw [List.length_set]; exact Hm.out, ?_, ?_, HCz.out, ?_⟩, by simp [intOf]; omega⟩
        · rw [nval_take_succ']; exact red_step hjm Hv.out HYs.out hd.out
        · intro t ht; rw [gd_set_ne (by omega)]; exact Hsame.out t (by omega)
        · exact Ho.out.trans (OnlyG.set _ _ _ _)
    · obtain rfl : j = k + 1 := by omega
      have hc0 : cr = 0 := Hlast.out (by omega)
      have Hv' := Lib.hid (show nval m + BB ^ at' * (q * nval lb) = nval l + BB ^ (at' + (k + 1)) * br by
        have := Hv.out
        rw [hc0, Nat.zero_add, List.take_of_length_le (by rw [Hk.out]; omega)] at this
        exact this)
      have Hlt := Lib.hid (nval_lt_of_zero (k := at' + (k + 1)) Hrow.out.dig (fun t ht => by rw [Hsame.out t ht]; exact gd_zero_of_lt HR.out.dig HN.out ht))
      rcases Nat.eq_zero_or_pos br with hb0 | hb0
      · subst hb0
        have Hp := Lib.hid (red_end0 Hv'.out HQ2.out)
        go_wp2_with fail
        go_ret
        exact ⟨q, m, rfl, Ho.out, Hrow.out, Hm.out, Hp.out.1, Hp.out.2, Hq.out⟩
      · have hb1 : br = 1 := by omega
        subst hb1
        have hq0 := Lib.hid (red_pos Hv'.out Hlt.out)
        have hq1 : 1 ≤ q := hq0.out
        go_wp2_with fail
        obtain ⟨wo, hwo⟩ : ∃ wo : World, wo = wr := ⟨_, rfl⟩
        rw [← hwo]
        rw [← hwo] at Hrow Ho
        clear hwo
        go_loopw [10, 60] (fun cr i w1 => ∃ (j : Nat) (m2 : List Nat) (c : Nat), j ≤ k + 1 ∧ i = .int .i64 j ∧ cr = .int .u64 c ∧ c ≤ 1 ∧ RowN w1 g m2 ∧ m2.length = L ∧
          nval m2 + BB ^ (at' + j) * c = nval m + BB ^ at' * nval (lb.take j) ∧ (∀ t, at' + j ≤ t → gd m2 t = gd m t) ∧ OnlyG g w w1) (fun _ i _ => k + 1 - (intOf i).toNat)
        case atStart =>
          exact ⟨0, m, 0, by omega, rfl, rfl, by omega, Hrow.out, Hm.out, by simp [nval], fun _ _ => rfl, Ho.out⟩
        case round =>
          obtain ⟨j, m2, c2, hj2, rfl, rfl, hc2, hrow2, hm2, hv2, hsame2, ho2⟩ := hrel
          have Hrow2 := Lib.hid hrow2
          have Hm2 := Lib.hid hm2
          have Hv2 := Lib.hid hv2
          have Hsame2 := Lib.hid hsame2
          have Ho2 := Lib.hid ho2
          clear hrow2 hm2 hv2 hsame2 ho2
          by_cases hjk2 : j < k + 1
          · have cR := Hrow2.out.cell (i := at' + j) (by rw [Hm2.out]; omega)
            have fR := Hrow2.out.free (at' + j)
            have gb := B3.out.gd j
            have gm := Hrow2.out.dig.gd (at' + j)
            rw [BB_eq] at gb gm
            obtain ⟨s, hs⟩ : ∃ s, s = gd m2 (at' + j) + gd lb j + c2 := ⟨_, rfl⟩
            have Hs := Lib.hid hs
            have hs1 := Lib.hid (show s / BB ≤ 1 by rw [hs, BB_eq]; omega)
            have E1 := Lib.hid (show ((gd m2 (at' + j) : Int) + gd lb j + c2) % 4294967296 = ((s % BB : Nat) : Int) by rw [hs, BB_eq]; omega)
            have E2 := Lib.hid (show ((gd m2 (at' + j) : Int) + gd lb j + c2) / 4294967296 = ((s / BB : Nat) : Int) by rw [hs, BB_eq]; omega)
            clear hs
            go_wp2_with fail
            go_quiet ((go_at_call 47; exact Calls.quiet_of_same ((nat_digit _ _ lb j ((HB.out.keep HNot.out Ho2.out).keep HNot.out (OnlyG.drewN _ _ _)) (by omega)).mono fun _ _ h => ⟨h.1, h.2.symm⟩)))
            go_wp2_with fail
            have hjm : at' + j < m2.length := by rw [Hm2.out]; omega
            refine ⟨⟨j + 1, m2.set (at' + j) (s % BB), s / BB, by omega, by go_num, by rw [E2.out], hs1.out, (Hrow2.out.grow ((Gr.refl wr).drewN nq)).set (at' + j) (s % BB) _ E1.out (Nat.mod_lt _ BB_pos), by rw [List.length_set]; exact Hm2.out, ?_, ?_, ?_⟩, by simp [intOf]; omega⟩
            · rw [nval_take_succ']; exact back_step hjm Hv2.out Hs.out
            · intro t ht; rw [gd_set_ne (by omega)]; exact Hsame2.out t (by omega)
            · exact (Ho2.out.trans (OnlyG.drewN _ _ _)).trans (OnlyG.set _ _ _ _)
          · obtain rfl : j = k + 1 := by omega
            have Hv2' := Lib.hid (show nval m2 + BB ^ (at' + (k + 1)) * c2 = nval m + BB ^ at' * nval lb by
              have := Hv2.out
              rw [List.take_of_length_le (by rw [Hk.out]; omega)] at this
              exact this)
            have Hlt2 := Lib.hid (nval_lt_of_zero (k := at' + (k + 1)) Hrow2.out.dig (fun t ht => by rw [Hsame2.out t ht, Hsame.out t ht]; exact gd_zero_of_lt HR.out.dig HN.out ht))
            have Hp := Lib.hid (red_end1 Hv'.out Hv2'.out Hlt.out Hlt2.out hc2 HQ1.out hq1)
            have hqq := Hq.out
            go_wp2_with fail
            go_ret
            refine ⟨q - 1, m2, ?_, Ho2.out, Hrow2.out, Hm2.out, Hp.out.1, Hp.out.2, by omega⟩
            exact ret_int (by omega)
end Go.Proofs.YtmcgkglmlfbijaaDoor

/-
  The program's division, continued: shift, estimate, reduce.
-/
import Derived.Test.YtmcgkglmlfbijaaDoorLeafH
namespace Go.Proofs.YtmcgkglmlfbijaaDoor
open Go.RowKit
set_option linter.unusedVariables false
set_option linter.unusedSimpArgs false

theorem bits_shift {d s c : Nat} (hd : d < BB) (hs : s ≤ 31) (hc : c < 2 ^ s) : bits .or .u64 (IntKind.u64.wrap ((d : Int) * 2 ^ s)) (c : Int) = ((d * 2 ^ s + c : Nat) : Int) := by
  have h2 : 2 ^ s ≤ 2147483648 := Nat.pow_le_pow_right (by omega) hs
  have h3 : d * 2 ^ s ≤ 4294967295 * 2147483648 := Nat.mul_le_mul (by rw [BB_eq] at hd; omega) h2
  have e : ((d : Int) * 2 ^ s) = ((d * 2 ^ s : Nat) : Int) := by rw [Int.natCast_mul, Int.natCast_pow]; rfl
  have h4 := Nat.shiftLeft_add_eq_or_of_lt (b := c) (i := s) hc d
  rw [Nat.shiftLeft_eq] at h4
  rw [e, IntKind.wrap_u64]
  generalize d * 2 ^ s = X at *
  rw [show ((X : Int) % 18446744073709551616) = (X : Int) from by omega, u64_or_nat X c (by omega) (by omega), h4]

set_option maxHeartbeats 1600000 in
theorem nat_shift (w : World) (v : Value) (l : List Nat) (s : Nat) (h : NatL w v l) (hlen : l.length ≤ 8796093022208) (hs : s ≤ 31) :
    Calls Tryd.prog 80 #[v, .int .i64 s] w fun e w' => e = .returned (.slice (some ⟨w.heap.size, 0, none⟩) (l.length + 1) (l.length + 1)) ∧ Gr w w' ∧
      ∃ m, RowN w' w.heap.size m ∧ m.length = l.length + 1 ∧ nval m = nval l * 2 ^ s := by
  have HA := Lib.hid h
  obtain ⟨p, c, rfl, a1, a2, a3⟩ := h.parts
  have A3 := Lib.hid a3
  clear h a3
  obtain ⟨na, hna⟩ : ∃ n, l.length = n := ⟨_, rfl⟩
  rw [hna] at HA a1 hlen ⊢
  have Hna := Lib.hid hna
  clear hna
  obtain ⟨B0, hB0⟩ : ∃ B0, w.heap.size = B0 := ⟨_, rfl⟩
  rw [hB0]
  have HB0 := Lib.hid hB0
  clear hB0
  obtain ⟨T, hT⟩ : ∃ T, 2 ^ s = T := ⟨_, rfl⟩
  have HT := Lib.hid hT
  have hT1 : 1 ≤ T := by rw [← hT]; exact Nat.one_le_two_pow
  have hT2 : T ≤ 2147483648 := by rw [← hT]; exact Nat.pow_le_pow_right (by omega) hs
  rw [hT]
  clear hT
  go_enter Tryd.func80, Tryd.ntmps80
  go_wp2_with (first | (go_at_call 999) | (at_make; go_must (refine wpList_makeN rfl _ _ 23 rfl (by kernel_rfl) (na + 1) _ rfl rfl (by omega) (by omega) ?_; rw [HB0.out]; intro w1 hrow hgr1 hsz1)))
  go_loopw [6, 16] (fun cr i w2 => ∃ (k : Nat) (m : List Nat) (c : Nat), k ≤ na ∧ i = .int .i64 k ∧ cr = .int .u64 c ∧ c < T ∧ RowN w2 B0 m ∧ m.length = na + 1 ∧
      nval m + BB ^ k * c = nval (l.take k) * T ∧ (∀ j, k ≤ j → gd m j = 0) ∧ Own B0 w w2) (fun _ i _ => na - (intOf i).toNat)
  case atStart =>
    have e0 : ∀ j, gd (List.replicate (na + 1) 0) j = 0 := fun j => by
      unfold gd; rw [List.getD_eq_getElem?_getD, List.getElem?_replicate]; split <;> rfl
    exact ⟨0, _, 0, by omega, rfl, rfl, by omega, hrow, by simp, by rw [nval_replicate]; simp [nval], fun j _ => e0 j, Own.of_gr hgr1 (by rw [HB0.out]; exact Nat.le_refl _)⟩
  case round =>
    obtain ⟨k, m, cr, hk, rfl, rfl, hcr, hrow2, hm, hv, hz, ho⟩ := hrel
    have Hrow := Lib.hid hrow2
    have Hm := Lib.hid hm
    have Hv := Lib.hid hv
    have Hz := Lib.hid hz
    have Ho := Lib.hid ho
    clear hrow hrow2 hm hv hz ho hgr1 hsz1
    have cR := Hrow.out.cell (i := k) (by rw [Hm.out]; omega)
    have fR := Hrow.out.free k
    by_cases hka : k < na
    · obtain ⟨bA, oA, rfl, cA⟩ := (HA.out.own HB0.out.symm Ho.out).at k (by rw [Hna.out]; exact hka)
      have ga := A3.out.gd k
      have hb := bits_shift ga hs (by rw [HT.out]; exact hcr)
      rw [HT.out] at hb
      have ga' := ga
      rw [BB_eq] at ga
      obtain ⟨Y, hY⟩ : ∃ Y, Y = cr + T * gd l k + gd m k := ⟨_, rfl⟩
      have hYc : gd l k * T + cr = Y := by rw [hY, Hz.out k (Nat.le_refl _), Nat.mul_comm]; omega
      rw [hYc] at hb
      have hYB : Y / BB < T := by
        rw [Nat.div_lt_iff_lt_mul BB_pos, ← hYc]
        have := Nat.mul_le_mul_right T (show gd l k + 1 ≤ BB from ga')
        rw [Nat.mul_comm BB T, Nat.add_mul] at this
        omega
      have hY64 : Y ≤ 18446744073709551615 := by rw [Nat.div_lt_iff_lt_mul BB_pos, BB_eq] at hYB; omega
      have HY := Lib.hid hY
      have HYB := Lib.hid hYB
      clear hY hYc hYB ga'
      go_wp2_with fail
      have hY := HY.out
      have hYB := HYB.out
      have hst := mul_inner (l := m) (i := 0) (k := k) (c := cr) (s := Y) (x := T) (y := gd l k) (V := 0) (W := nval (l.take k)) (by rw [Hm.out]; omega) (by rw [Nat.zero_add, Hv.out]; simp [Nat.mul_comm]) (by rw [Nat.zero_add]; exact hY)
      rw [Nat.zero_add] at hst
      refine ⟨⟨k + 1, m.set k (Y % BB), Y / BB, by omega, by go_num, by rw [BB_eq]; rfl, hYB, Hrow.out.set k (Y % BB) _ (by rw [BB_eq]; rfl) (Nat.mod_lt _ BB_pos), by rw [List.length_set]; exact Hm.out, ?_, ?_, ?_⟩, by simp [intOf]; omega⟩
      · rw [hst, nval_take_succ']; simp [Nat.mul_comm]
      · intro j hj; rw [gd_set_ne (by omega)]; exact Hz.out j (by omega)
      · exact Ho.out.trans (Own.setCell _ (Nat.le_refl _) _ _)
    · obtain rfl : k = na := by omega
      go_wp2_with fail
      go_ret
      refine ⟨rfl, ?_, m.set k cr, Hrow.out.set k cr _ rfl (by rw [BB_eq]; omega), by rw [List.length_set]; exact Hm.out, ?_⟩
      · have := Ho.out.trans (Own.setCell wr (Nat.le_refl B0) k (.int .u32 cr))
        rw [← HB0.out] at this ⊢
        exact this.gr
      · have h1 := nval_set (l := m) (i := k) cr (by rw [Hm.out]; omega)
        rw [Hz.out k (Nat.le_refl _), Nat.mul_zero, Nat.add_zero] at h1
        rw [h1, Hv.out, List.take_of_length_le (by rw [Hna.out]; exact Nat.le_refl _)]

set_option maxHeartbeats 1600000 in
theorem nat_estimate (w : World) (x y z f s : Nat) (hx : x < BB) (hy : y < BB) (hz : z < BB) (hf : f < BB) (hs : s < BB) (hf31 : 2147483648 ≤ f) (hxf : x ≤ f) :
    Calls Tryd.prog 81 #[.int .u64 x, .int .u64 y, .int .u64 z, .int .u64 f, .int .u64 s] w fun e w' => e = .returned (.int .u64 (qhat x y z f s)) ∧ ∃ n, w' = w.drewN n := by
  have hor := bits_shl_or hx hy
  obtain ⟨X, hX⟩ : ∃ X, x * BB + y = X := ⟨_, rfl⟩
  rw [hX] at hor
  obtain ⟨G, hG⟩ : ∃ G, qhat x y z f s = G := ⟨_, rfl⟩
  rw [hG]
  have HG := Lib.hid hG
  have HX := Lib.hid hX
  have Hx := Lib.hid hx
  have Hy := Lib.hid hy
  have Hz := Lib.hid hz
  have Hs := Lib.hid hs
  have Hxf := Lib.hid hxf
  have Hinit := Lib.hid (est_init (s := s) hy hz hf31 hxf)
  have hX64 : X ≤ 18446744073709551615 := by rw [← hX]; rw [BB_eq] at *; omega
  have hf0 : 0 < f := by omega
  have hf1 : f < 4294967296 := by rw [BB_eq] at hf; exact hf
  have hs1 : s < 4294967296 := by rw [BB_eq] at hs; exact hs
  have hz1 : z < 4294967296 := by rw [BB_eq] at hz; exact hz
  have hm1 : X % f < f := Nat.mod_lt _ hf0
  have hw1 : IntKind.u64.wrap ((x : Int) * 4294967296) = (x : Int) * 4294967296 := by rw [IntKind.wrap_u64]; rw [BB_eq] at hx; omega
  have Hw2 := Lib.hid (show IntKind.u64.wrap ((X : Int) / f) = ((X / f : Nat) : Int) by
    have := Nat.div_le_self X f
    rw [IntKind.wrap_u64, ← Int.natCast_ediv]
    generalize X / f = Z at *
    omega)
  have hdm := Lib.hid (show X = X / f * f + X % f by rw [Nat.mul_comm]; exact (Nat.div_add_mod X f).symm)
  clear hX hG hx hy hz hs hxf hf
  go_enter Tryd.func81, Tryd.ntmps81
  go_wp2_with fail
  go_quiet (fail)
  go_wp2_with fail
  go_loopw [11, 12] (fun q r w1 => ∃ (a b : Nat), q = .int .u64 a ∧ r = .int .u64 b ∧ X = a * f + b ∧ G ≤ a ∧ a ≤ BB + 1 ∧ b < BB ∧ ∃ n, w1 = w.drewN n) (fun q _ _ => (intOf q).toNat)
  case atStart =>
    have h1 := Hinit.out
    rw [HX.out, HG.out] at h1
    exact ⟨X / f, X % f, by rw [Hw2.out], by rw [Int.natCast_emod], hdm.out, h1.1, h1.2, by rw [BB_eq]; omega, nq, rfl⟩
  case round =>
    obtain ⟨a, b, rfl, rfl, hab, hga, haB, hbB, hg⟩ := hrel
    clear hor hw1 hm1
    have Hab := Lib.hid (show x * BB + y = a * f + b by rw [HX.out]; exact hab)
    have Hg := Lib.hid hg
    have Hga := Lib.hid (show qhat x y z f s ≤ a by rw [HG.out]; exact hga)
    have HaB := Lib.hid haB
    have haB' : a ≤ 4294967297 := by rw [BB_eq] at haB; omega
    have hbB' : b < 4294967296 := by rw [BB_eq] at hbB; exact hbB
    have hor := bits_shl_or hbB Hz.out
    obtain ⟨Y, hY⟩ : ∃ Y, b * BB + z = Y := ⟨_, rfl⟩
    rw [hY] at hor
    have HY := Lib.hid hY
    obtain ⟨P, hP⟩ : ∃ P, a * s = P := ⟨_, rfl⟩
    have hPi : (a : Int) * s = (P : Int) := by rw [← hP]; exact (Int.natCast_mul _ _).symm
    have HP := Lib.hid hP
    have hY64 : Y ≤ 18446744073709551615 := by rw [← hY]; rw [BB_eq] at *; omega
    have hstep : ∀ (ha1 : 1 ≤ a) (hlt : G ≤ a - 1), b + f < BB → (a - 1) * f + (b + f) = X := fun ha1 hlt _ => by
      obtain ⟨c, rfl⟩ : ∃ c, a = c + 1 := ⟨a - 1, by omega⟩
      rw [Nat.add_sub_cancel, hab, Nat.add_mul]; omega
    have Hstep := Lib.hid hstep
    have Hend : ∀ (ha1 : 1 ≤ a) (hlt : qhat x y z f s ≤ a - 1), BB ≤ b + f → a - 1 = G := fun ha1 hlt hr => by
      obtain ⟨c, rfl⟩ : ∃ c, a = c + 1 := ⟨a - 1, by omega⟩
      rw [← HG.out]
      exact est_break hf0 Hy.out Hs.out Hxf.out Hab.out HaB.out hr hlt
    have HE := Lib.hid Hend
    clear hab hg hga haB hbB hY hP hstep Hend
    by_cases hbig : BB ≤ a
    · have h1 := qhat_lt_big (x := x) (y := y) (z := z) (f := f) (s := s) hbig
      have ha2 : 4294967296 ≤ a := by rw [BB_eq] at hbig; exact hbig
      have H1 := Lib.hid (show qhat x y z f s ≤ a - 1 by omega)
      clear h1 hbig hPi hor
      by_cases hbr : 4294967296 ≤ b + f
      · go_wp2_with fail
        go_ret
        refine ⟨?_, Hg.out⟩
        have h2 := HE.out (by omega) H1.out (by rw [BB_eq]; exact hbr)
        show Ending.returned (Value.int .u64 ((a : Int) - 1)) = .returned (.int .u64 G)
        rw [show ((a : Int) - 1) = (G : Int) from by omega]
      · go_wp2_with fail
        have h3 := H1.out
        rw [HG.out] at h3
        exact ⟨⟨a - 1, b + f, by rw [show (((a - 1 : Nat) : Int)) = (a : Int) - 1 from by omega], by go_num, (Hstep.out (by omega) h3 (by rw [BB_eq]; omega)).symm, h3, Nat.le_trans (Nat.sub_le _ _) HaB.out, by rw [BB_eq]; omega, Hg.out⟩, by simp [intOf]; omega⟩
    · have ha2 : a < 4294967296 := by rw [BB_eq] at hbig; omega
      have hP64 : P ≤ 18446744073709551615 := by
        rw [← HP.out]
        have := mul_bound (show a < BB by omega) Hs.out
        omega
      by_cases ht : Y < P
      · have H1 := Lib.hid (show qhat x y z f s ≤ a - 1 by
          have := est_test (z := z) (s := s) hf0 Hab.out (by rw [HY.out, HP.out]; exact ht)
          omega)
        have ha1 : 1 ≤ a := by
          rcases Nat.eq_zero_or_pos a with h0 | h0
          · have := HP.out; rw [h0] at this; simp at this; omega
          · exact h0
        clear hbig
        by_cases hbr : 4294967296 ≤ b + f
        · go_wp2_with fail
          go_ret
          refine ⟨?_, Hg.out⟩
          have h2 := HE.out (by omega) H1.out (by rw [BB_eq]; exact hbr)
          show Ending.returned (Value.int .u64 ((a : Int) - 1)) = .returned (.int .u64 G)
          rw [show ((a : Int) - 1) = (G : Int) from by omega]
        · go_wp2_with fail
          have h3 := H1.out
          rw [HG.out] at h3
          exact ⟨⟨a - 1, b + f, by rw [show (((a - 1 : Nat) : Int)) = (a : Int) - 1 from by omega], by go_num, (Hstep.out (by omega) h3 (by rw [BB_eq]; omega)).symm, h3, Nat.le_trans (Nat.sub_le _ _) HaB.out, by rw [BB_eq]; omega, Hg.out⟩, by simp [intOf]; omega⟩
      · have H1 := Lib.hid (show a = G by rw [← HG.out]; exact est_done hf0 Hab.out (by omega) (by rw [HY.out, HP.out]; omega) Hga.out)
        clear hbig
        go_wp2_with fail
        go_ret
        exact ⟨by rw [← H1.out]; rfl, Hg.out⟩
end Go.Proofs.YtmcgkglmlfbijaaDoor

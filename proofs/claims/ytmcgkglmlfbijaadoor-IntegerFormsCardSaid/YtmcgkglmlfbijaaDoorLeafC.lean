/-
  The lower functions of the numbers, continued: the products.
-/
import Derived.Test.YtmcgkglmlfbijaaDoorLeafB
namespace Go.Proofs.YtmcgkglmlfbijaaDoor
open Go.RowKit
set_option linter.unusedVariables false
set_option linter.unusedSimpArgs false

set_option maxHeartbeats 1600000 in
theorem ref_Mul (w : World) (va vb : Value) (la lb : List Nat) (ha : NatL w va la) (hb : NatL w vb lb) (hla : la.length ≤ 8796093022208) (hlb : lb.length ≤ 8796093022208) :
    Calls Tryd.prog 62 #[va, vb] w (Ret w fun r w' => NatL w' r (digs (nval la * nval lb))) := by
  have HA := Lib.hid ha
  have HB := Lib.hid hb
  obtain ⟨p, c, rfl, a1, a2, a3⟩ := ha.parts
  obtain ⟨q, d, rfl, b1, b2, b3⟩ := hb.parts
  have A3 := Lib.hid a3
  have B3 := Lib.hid b3
  clear ha hb a3 b3
  obtain ⟨na, hna⟩ : ∃ n, la.length = n := ⟨_, rfl⟩
  obtain ⟨nb, hnb⟩ : ∃ n, lb.length = n := ⟨_, rfl⟩
  rw [hna] at HA a1 hla ⊢
  rw [hnb] at HB b1 hlb ⊢
  have Hna := Lib.hid hna
  have Hnb := Lib.hid hnb
  clear hna hnb
  obtain ⟨B0, hB0⟩ : ∃ B0, w.heap.size = B0 := ⟨_, rfl⟩
  have HB0 := Lib.hid hB0
  clear hB0
  go_enter Tryd.func62, Tryd.ntmps62
  go_wp2_with (first | (go_at_call 999) | (refine wpList_makeN rfl _ _ 23 rfl (by kernel_rfl) (na + nb + 1) _ rfl rfl (by omega) (by omega) ?_; rw [HB0.out]; intro w1 hrow hgr1 hsz1))
  go_loopw [6] (fun i w2 => ∃ (k : Nat) (l : List Nat), k ≤ na ∧ i = .int .i64 k ∧ RowN w2 B0 l ∧ l.length = na + nb + 1 ∧
      nval l = nval (la.take k) * nval lb ∧ (∀ j, k + nb ≤ j → gd l j = 0) ∧ Own B0 w w2) (fun i _ => na - (intOf i).toNat)
  case atStart =>
    have e0 : ∀ j, gd (List.replicate (na + nb + 1) 0) j = 0 := fun j => by
      unfold gd; rw [List.getD_eq_getElem?_getD, List.getElem?_replicate]; split <;> rfl
    exact ⟨0, _, by omega, rfl, hrow, by simp, by rw [nval_replicate]; simp [nval], fun j _ => e0 j, Own.of_gr hgr1 (by rw [HB0.out]; exact Nat.le_refl _)⟩
  case round =>
    obtain ⟨k, l, hk, rfl, hrow2, hl, hv, hz, ho⟩ := hrel
    have Hrow := Lib.hid hrow2
    have Hl := Lib.hid hl
    have Hv := Lib.hid hv
    have Hz := Lib.hid hz
    have Ho := Lib.hid ho
    clear hrow hrow2 hl hv hz ho hgr1 hsz1
    by_cases hka : k < na
    · go_wp2_with fail
      obtain ⟨wo, hwo⟩ : ∃ wo : World, wo = wr := ⟨_, rfl⟩
      rw [← hwo]
      rw [← hwo] at Hrow Ho
      clear hwo
      go_loopw [7, 8] (fun cr i w3 => ∃ (j : Nat) (m : List Nat) (c : Nat), j ≤ nb ∧ i = .int .i64 j ∧ cr = .int .u64 c ∧ c < BB ∧ RowN w3 B0 m ∧ m.length = na + nb + 1 ∧
          nval m + BB ^ (k + j) * c = nval (la.take k) * nval lb + BB ^ k * (gd la k * nval (lb.take j)) ∧ (∀ t, k + nb ≤ t → gd m t = 0) ∧ Own B0 w w3) (fun _ i _ => nb - (intOf i).toNat)
      case atStart =>
        exact ⟨0, l, 0, by omega, rfl, rfl, BB_pos, Hrow.out, Hl.out, by simp [nval]; exact Hv.out, Hz.out, Ho.out⟩
      case round =>
        obtain ⟨j, m, c1, hj, rfl, rfl, hc1, hrow3, hm, hv3, hz3, ho3⟩ := hrel
        have Hrow3 := Lib.hid hrow3
        have Hm := Lib.hid hm
        have Hv3 := Lib.hid hv3
        have Hz3 := Lib.hid hz3
        have Ho3 := Lib.hid ho3
        have Hc1 := Lib.hid hc1
        rw [BB_eq] at hc1
        clear hrow3 hm hv3 hz3 ho3
        by_cases hjb : j < nb
        · obtain ⟨bA, oA, rfl, cA⟩ := (HA.out.own HB0.out.symm Ho3.out).at k (by rw [Hna.out]; exact hka)
          obtain ⟨bB, oB, rfl, cB⟩ := (HB.out.own HB0.out.symm Ho3.out).at j (by rw [Hnb.out]; exact hjb)
          have cR := Hrow3.out.cell (i := k + j) (by rw [Hm.out]; omega)
          have fR := Hrow3.out.free (k + j)
          have ga := A3.out.gd k
          have gb := B3.out.gd j
          have gm := Hrow3.out.dig.gd (k + j)
          have hmul := mul_bound ga gb
          rw [BB_eq] at ga gb gm
          have hm1 : (0 : Int) ≤ (gd la k : Int) * gd lb j := by have := Int.natCast_nonneg (gd la k * gd lb j); rwa [Int.natCast_mul] at this
          have hm2 : (gd la k : Int) * gd lb j ≤ 18446744065119617025 := by have := Int.ofNat_le.2 hmul; rwa [Int.natCast_mul] at this
          clear hmul
          go_wp2_with fail
          go_quiet (fail)
          go_wp2_with fail
          obtain ⟨P, hP⟩ : ∃ P, gd la k * gd lb j = P := ⟨_, rfl⟩
          have hPi : (gd la k : Int) * gd lb j = (P : Int) := by rw [← hP]; exact (Int.natCast_mul _ _).symm
          obtain ⟨s, hs⟩ : ∃ s, s = c1 + P + gd m (k + j) := ⟨_, rfl⟩
          have hP2 : P ≤ 18446744065119617025 := by rw [hPi] at hm2; omega
          have hsB : s / BB < BB := by rw [hs, BB_eq]; omega
          have E2 : ((c1 : Int) + (gd la k : Int) * gd lb j + gd m (k + j)) / 4294967296 = ((s / BB : Nat) : Int) := by rw [hPi, hs, BB_eq]; omega
          have E1 : ((c1 : Int) + (gd la k : Int) * gd lb j + gd m (k + j)) % 4294967296 = ((s % BB : Nat) : Int) := by rw [hPi, hs, BB_eq]; omega
          have hst := mul_inner (l := m) (i := k) (k := j) (c := c1) (s := s) (x := gd la k) (y := gd lb j) (W := nval (lb.take j)) (by rw [Hm.out]; omega) Hv3.out (by rw [hP]; exact hs)
          refine ⟨⟨j + 1, m.set (k + j) (s % BB), s / BB, by omega, by go_num, by rw [E2], hsB, (Hrow3.out.grow ((Gr.refl wr).drewN nq)).set (k + j) (s % BB) _ E1 (Nat.mod_lt _ BB_pos), by rw [List.length_set]; exact Hm.out, ?_, ?_, ?_⟩, by simp [intOf]; omega⟩
          · rw [nval_take_succ']; exact hst
          · intro t ht; rw [gd_set_ne (by omega)]; exact Hz3.out t ht
          · exact (Ho3.out.trans (Own.drewN _ _ _)).trans (Own.setCell _ (Nat.le_refl _) _ _)
        · obtain rfl : j = nb := by omega
          have cR := Hrow3.out.cell (i := k + j) (by rw [Hm.out]; omega)
          have fR := Hrow3.out.free (k + j)
          go_wp2_with fail
          refine ⟨⟨k + 1, m.set (k + j) c1, by omega, by go_num, Hrow3.out.set (k + j) c1 _ rfl (by rw [BB_eq]; exact hc1), by rw [List.length_set]; exact Hm.out, ?_, ?_, ?_⟩, by simp [intOf]; omega⟩
          · rw [mul_outer (by rw [Hm.out]; omega) (Hz3.out _ (Nat.le_refl _)) Hv3.out, List.take_of_length_le (l := lb) (by rw [Hnb.out]; exact Nat.le_refl _), nval_take_succ', Nat.add_mul, Nat.mul_assoc]
          · intro t ht; rw [gd_set_ne (by omega)]; exact Hz3.out t (by omega)
          · exact Ho3.out.trans (Own.setCell _ (Nat.le_refl _) _ _)
    · obtain rfl : k = na := by omega
      go_wp2_with fail
      refine (ref_Trim _ _ l (by rw [← Hl.out]; exact Hrow.out.read _ (Nat.le_refl _) (by rw [Hl.out]; omega)) (by rw [Hl.out]; omega)).mono ?_
      rintro _ w2 ⟨r, rfl, g2, hr⟩
      go_wp2
      go_ret
      refine ⟨_, rfl, Gr.trans (by have := Ho.out; rw [← HB0.out] at this; exact this.gr) g2, ?_⟩
      have e : nval l = nval la * nval lb := by rw [Hv.out, List.take_of_length_le (by rw [Hna.out]; exact Nat.le_refl _)]
      rw [← e]
      exact hr
end Go.Proofs.YtmcgkglmlfbijaaDoor

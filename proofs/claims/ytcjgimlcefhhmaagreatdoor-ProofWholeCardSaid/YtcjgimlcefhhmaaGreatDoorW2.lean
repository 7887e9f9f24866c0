/- Texts: Leaf LeafB LeafC LeafD. -/
import Derived.Test.YtcjgimlcefhhmaaGreatDoorW1
set_option linter.unusedVariables false
set_option linter.unusedSimpArgs false
set_option maxRecDepth 100000
set_option maxHeartbeats 12800000
namespace Go.Proofs.YtcjgimlcefhhmaaGreatDoor
open Go.RowKit
theorem ξ8b {k : IntKind} {a b : Int} (h : a = b) : Ending.returned (.int k a) = .returned (.int k b) := by rw [h]
theorem ξ0c (w : World) (v : Value) (l : List Nat) (i : Nat) (h : NatL w v l) (hi : i ≤ 140737488351232) :
  Calls Tryz.prog 225 #[v, .int .i64 i] w fun e w' => e = .returned (.int .u64 (gd l i)) ∧ w = w' := by
 obtain ⟨h0, p, c, rfl, h1, h2, h3⟩ := h
 have hd := h0.gd i
 rw [ξ5] at hd
 by_cases hlt : i < l.length
 ·rcases h3 with ⟨_, h3⟩ | ⟨b, o, rfl, hc⟩
  ·omega
  have hc' := hc i hlt
  clear hc
  go_enter Tryz.func225, Tryz.ntmps225
  go_wp2
  go_ret
  exact ⟨rfl, rfl⟩
 ·have h4 : gd l i = 0 := ξ45 (Nat.le_of_not_lt hlt)
  rw [h4]
  clear h3 h4
  go_enter Tryz.func225, Tryz.ntmps225
  go_wp2
  go_ret
  exact ⟨rfl, rfl⟩
theorem ξ9m {l : List Nat} {k : Nat} (hk : k < l.length) (h : trimL (l.take (k + 1)) = trimL l) (h0 : gd l k = 0) : trimL (l.take k) = trimL l := by
 rw [← h, List.take_succ_eq_append_getElem hk, ← ξ2J hk, h0, ξ2X]
theorem ξ9S {l : List Nat} {k : Nat} (hd : Dig l) (hk : k < l.length) (h : trimL (l.take (k + 1)) = trimL l) (h0 : gd l k ≠ 0) : l.take (k + 1) = trimL l := by
 rw [← h, List.take_succ_eq_append_getElem hk, ← ξ2J hk, ξ57 _ _ (hd.take k) (hd.gd k) h0]
theorem ξ93 {l : List Nat} (h : trimL (l.take 0) = trimL l) : l.take 0 = trimL l := by
 rw [← h]; simp [trimL, nval, ξF]
theorem ξ0S (l : List Nat) : trimL l = digs (nval l) := rfl
theorem ξ9A {la lb l : List Nat} {k c s : Nat} (hl : l.length = k) (h : nval l + BB ^ k * c = nval (la.take k) + nval (lb.take k)) (hs : s = c + gd la k + gd lb k) :
  nval (l ++ [s % BB]) + BB ^ (k + 1) * (s / BB) = nval (la.take (k + 1)) + nval (lb.take (k + 1)) := by
 rw [ξ25, hl, ξy, ξy, Nat.pow_succ, Nat.mul_assoc, Nat.add_assoc, ← Nat.mul_add, Nat.mod_add_div, hs, Nat.mul_add, Nat.mul_add]
 omega
theorem ξa6 {la lb l : List Nat} {k c x : Nat} (hl : l.length = k) (h : nval l + nval (lb.take k) = nval (la.take k) + BB ^ k * c) (hx : x + gd lb k + c = BB + gd la k) (hc : x / BB ≤ 1) :
  nval (l ++ [x % BB]) + nval (lb.take (k + 1)) = nval (la.take (k + 1)) + BB ^ (k + 1) * (1 - x / BB) := by
 rw [ξ25, hl, ξy, ξy, Nat.pow_succ]
 obtain ⟨y, hy⟩ : ∃ y, 1 - x / BB = y := ⟨_, rfl⟩
 have e := Nat.mod_add_div x BB
 have hB : BB * (x / BB) + BB * y = BB := by rw [← Nat.mul_add, show x / BB + y = 1 from by omega, Nat.mul_one]
 rw [hy]
 have e2 : x % BB + gd lb k + c = BB * y + gd la k := by omega
 have e3 := congrArg (fun z => BB ^ k * z) e2
 simp only [Nat.mul_add] at e3
 rw [Nat.mul_assoc (BB ^ k) BB y]
 omega
theorem ξ3O (w : World) (p : Option Addr) (n c : Nat) (l : List Nat) (h : NatL w (.slice p n c) l) :
  Calls Tryz.prog 234 #[.slice p n c] w fun e w' => (∃ k, e = .returned (.slice p k k) ∧ NatL w (.slice p k k) (trimL l)) ∧ w = w' := by
 have HA := ξ h
 have hn := h.len
 obtain ⟨p', c', hpc, h1, h2, h0⟩ := h.parts
 cases hpc
 have H0 := ξ h0
 obtain ⟨n, hn⟩ : ∃ n, l.length = n := ⟨_, rfl⟩
 have Hn := ξ hn
 rw [hn] at h1 ⊢
 rw [hn] at HA
 clear hn h0 h
 go_enter Tryz.func234, Tryz.ntmps234
 go_wp2
 go_loopw [3] (fun i w1 => ∃ k : Nat, k ≤ n ∧ i = .int .i64 k ∧ trimL (l.take k) = trimL l ∧ w1 = w) (fun i _ => (intOf i).toNat)
 case atStart => exact ⟨n, Nat.le_refl _, rfl, by rw [List.take_of_length_le (by rw [Hn.out]; exact Nat.le_refl _)], rfl⟩
 case round =>
  obtain ⟨k, hk, rfl, hp, rfl⟩ := hrel
  have Hp := ξ hp; clear hp
  by_cases hk0 : k = 0
  ·obtain rfl := hk0
   have ht := ξ (ξ93 Hp.out)
   go_wp2
   go_ret
   exact ⟨⟨0, rfl, by rw [← ht.out]; exact HA.out.take 0 0 (by omega) (Nat.le_refl _) (by omega)⟩, rfl⟩
  ·obtain ⟨j, rfl⟩ : ∃ j, k = j + 1 := ⟨k - 1, by omega⟩
   obtain ⟨b, o, rfl, hc⟩ := HA.out.at j (by rw [Hn.out]; omega)
   by_cases hd : gd l j = 0
   ·have e0 : ((gd l j : Int) == 0) = true := by rw [hd]; rfl
    have Hd := ξ hd; clear hd
    go_wp2
    go_roundw
    case rel =>
     exact ⟨j, by omega, rfl, ξ9m (by rw [Hn.out]; omega) Hp.out Hd.out, trivial⟩
    case measure => simp [intOf]
   ·have e0 : ((gd l j : Int) == 0) = false := by simpa using hd
    have Hd := ξ hd; clear hd
    have ht := ξ (ξ9S H0.out (by rw [Hn.out]; omega) Hp.out Hd.out)
    go_wp2
    go_ret
    exact ⟨⟨j + 1, rfl, by rw [← ht.out]; exact HA.out.take (j + 1) (j + 1) (by rw [Hn.out]; omega) (Nat.le_refl _) (by omega)⟩, rfl⟩
theorem ξ09 (w : World) (v : Value) (l : List Nat) (h : NatL w v l) :
  Calls Tryz.prog 234 #[v] w fun e w' => (∃ p k, e = .returned (.slice p k k) ∧ NatL w (.slice p k k) (trimL l)) ∧ w = w' := by
 obtain ⟨p, c, rfl, -⟩ := h.parts
 exact (ξ3O w p _ c l h).mono fun e w' ⟨⟨k, h1, h2⟩, h3⟩ => ⟨⟨p, k, h1, h2⟩, h3⟩
theorem ξ5j (w : World) (va vb : Value) (la lb : List Nat) (ha : NatL w va la) (hb : NatL w vb lb) (hla : la.length ≤ 8796093022208) (hlb : lb.length ≤ 8796093022208) :
  Calls Tryz.prog 195 #[va, vb] w (Ret w fun r w' => NatL w' r (digs (nval la * nval lb))) := by
 have HA := ξ ha
 have HB := ξ hb
 obtain ⟨p, c, rfl, a1, a2, a3⟩ := ha.parts
 obtain ⟨q, d, rfl, b1, b2, b3⟩ := hb.parts
 have A3 := ξ a3
 have B3 := ξ b3
 clear ha hb a3 b3
 obtain ⟨na, hna⟩ : ∃ n, la.length = n := ⟨_, rfl⟩
 obtain ⟨nb, hnb⟩ : ∃ n, lb.length = n := ⟨_, rfl⟩
 rw [hna] at HA a1 hla ⊢
 rw [hnb] at HB b1 hlb ⊢
 have Hna := ξ hna
 have Hnb := ξ hnb
 clear hna hnb
 obtain ⟨B0, hB0⟩ : ∃ B0, w.heap.size = B0 := ⟨_, rfl⟩
 have HB0 := ξ hB0
 clear hB0
 go_enter Tryz.func195, Tryz.ntmps195
 go_wp2_with (first | (go_at_call 999) | (at_make; go_must (refine ξ2M rfl _ _ 64 rfl (by kernel_rfl) (na + nb) _ rfl rfl (by omega) (by omega) ?_; rw [HB0.out]; intro w1 hrow hgr1 hsz1)))
 go_loopw [20] (fun i w2 => ∃ (k : Nat) (l : List Nat), k ≤ na ∧ i = .int .i64 k ∧ RowN w2 B0 l ∧ l.length = na + nb ∧
   nval l = nval (la.take k) * nval lb ∧ (∀ j, k + nb ≤ j → gd l j = 0) ∧ Own B0 w w2) (fun i _ => na - (intOf i).toNat)
 case atStart =>
  have e0 : ∀ j, gd (List.replicate (na + nb) 0) j = 0 := fun j => by
   unfold gd; rw [List.getD_eq_getElem?_getD, List.getElem?_replicate]; split <;> rfl
  exact ⟨0, _, by omega, rfl, hrow, by simp, by rw [ξ1V]; simp [nval], fun j _ => e0 j, Own.of_gr hgr1 (by rw [HB0.out]; exact Nat.le_refl _)⟩
 case round =>
  obtain ⟨k, l, hk, rfl, hrow2, hl, hv, hz, ho⟩ := hrel
  have Hrow := ξ hrow2
  have Hl := ξ hl
  have Hv := ξ hv
  have Hz := ξ hz
  have Ho := ξ ho
  clear hrow hrow2 hl hv hz ho hgr1 hsz1
  by_cases hka : k < na
  ·obtain ⟨bA, oA, rfl, cA⟩ := (HA.out.own HB0.out.symm Ho.out).at k (by rw [Hna.out]; exact hka)
   go_wp2_with fail
   obtain ⟨wo, hwo⟩ : ∃ wo : World, wo = wr := ⟨_, rfl⟩
   rw [← hwo]
   rw [← hwo] at Hrow Ho
   clear cA
   clear hwo
   go_loopw [8, 27] (fun cr i w3 => ∃ (j : Nat) (m : List Nat) (c : Nat), j ≤ nb ∧ i = .int .i64 j ∧ cr = .int .u64 c ∧ c < BB ∧ RowN w3 B0 m ∧ m.length = na + nb ∧
     nval m + BB ^ (k + j) * c = nval (la.take k) * nval lb + BB ^ k * (gd la k * nval (lb.take j)) ∧ (∀ t, k + nb ≤ t → gd m t = 0) ∧ Own B0 w w3) (fun _ i _ => nb - (intOf i).toNat)
   case atStart =>
    exact ⟨0, l, 0, by omega, rfl, rfl, ξv, Hrow.out, Hl.out, by simp [nval]; exact Hv.out, Hz.out, Ho.out⟩
   case round =>
    obtain ⟨j, m, c1, hj, rfl, rfl, hc1, hrow3, hm, hv3, hz3, ho3⟩ := hrel
    have Hrow3 := ξ hrow3
    have Hm := ξ hm
    have Hv3 := ξ hv3
    have Hz3 := ξ hz3
    have Ho3 := ξ ho3
    have Hc1 := ξ hc1
    rw [ξ5] at hc1
    clear hrow3 hm hv3 hz3 ho3
    by_cases hjb : j < nb
    ·skip
     obtain ⟨bB, oB, rfl, cB⟩ := (HB.out.own HB0.out.symm Ho3.out).at j (by rw [Hnb.out]; exact hjb)
     have cR := Hrow3.out.cell (i := k + j) (by rw [Hm.out]; omega)
     have fR := Hrow3.out.free (k + j)
     have ga := A3.out.gd k
     have gb := B3.out.gd j
     have gm := Hrow3.out.dig.gd (k + j)
     have hmul := ξ40 ga gb
     rw [ξ5] at ga gb gm
     have hm1 : (0 : Int) ≤ (gd la k : Int) * gd lb j := by have := Int.natCast_nonneg (gd la k * gd lb j); rwa [Int.natCast_mul] at this
     have hm2 : (gd la k : Int) * gd lb j ≤ 18446744065119617025 := by have := Int.ofNat_le.2 hmul; rwa [Int.natCast_mul] at this
     clear hmul
     go_wp2_with fail
     obtain ⟨P, hP⟩ : ∃ P, gd la k * gd lb j = P := ⟨_, rfl⟩
     have hPi : (gd la k : Int) * gd lb j = (P : Int) := by rw [← hP]; exact (Int.natCast_mul _ _).symm
     obtain ⟨s, hs⟩ : ∃ s, s = P + gd m (k + j) + c1 := ⟨_, rfl⟩
     have hP2 : P ≤ 18446744065119617025 := by rw [hPi] at hm2; omega
     have hsB : s / BB < BB := by rw [hs, ξ5]; omega
     have E2 : ((gd la k : Int) * gd lb j + gd m (k + j) + c1) / 4294967296 = ((s / BB : Nat) : Int) := by rw [hPi, hs, ξ5]; omega
     have E1 : ((gd la k : Int) * gd lb j + gd m (k + j) + c1) % 4294967296 = ((s % BB : Nat) : Int) := by rw [hPi, hs, ξ5]; omega
     have hst := ξ5S (l := m) (i := k) (k := j) (c := c1) (s := s) (x := gd la k) (y := gd lb j) (W := nval (lb.take j)) (by rw [Hm.out]; omega) Hv3.out (by rw [hP]; omega)
     refine ⟨⟨j + 1, m.set (k + j) (s % BB), s / BB, by omega, by go_num, by rw [E2], hsB, Hrow3.out.set (k + j) (s % BB) _ E1 (Nat.mod_lt _ ξv), by rw [List.length_set]; exact Hm.out, ?_, ?_, ?_⟩, by simp [intOf]; omega⟩
     ·rw [ξy]; exact hst
     ·intro t ht; rw [ξ0l (by omega)]; exact Hz3.out t ht
     ·exact Ho3.out.trans (Own.setCell _ (Nat.le_refl _) _ _)
    ·obtain rfl : j = nb := by omega
     have cR := Hrow3.out.cell (i := k + j) (by rw [Hm.out]; omega)
     have fR := Hrow3.out.free (k + j)
     go_wp2_with fail
     refine ⟨⟨k + 1, m.set (k + j) c1, by omega, by go_num, Hrow3.out.set (k + j) c1 _ rfl (by rw [ξ5]; exact hc1), by rw [List.length_set]; exact Hm.out, ?_, ?_, ?_⟩, by simp [intOf]; omega⟩
     ·rw [ξa2 (by rw [Hm.out]; omega) (Hz3.out _ (Nat.le_refl _)) Hv3.out, List.take_of_length_le (l := lb) (by rw [Hnb.out]; exact Nat.le_refl _), ξy, Nat.add_mul, Nat.mul_assoc]
     ·intro t ht; rw [ξ0l (by omega)]; exact Hz3.out t (by omega)
     ·exact Ho3.out.trans (Own.setCell _ (Nat.le_refl _) _ _)
  ·obtain rfl : k = na := by omega
   go_wp2_with fail
   refine (ξ09 _ _ l (by rw [← Hl.out]; exact Hrow.out.read _ (Nat.le_refl _) (by rw [Hl.out]; omega))).mono ?_
   rintro _ _ ⟨⟨r, kk, rfl, hr⟩, rfl⟩
   have Hr := ξ hr
   clear hr
   go_wp2
   go_ret
   refine ⟨_, rfl, (by have := Ho.out; rw [← HB0.out] at this; exact this.gr), ?_⟩
   have e : nval l = nval la * nval lb := by rw [Hv.out, List.take_of_length_le (by rw [Hna.out]; exact Nat.le_refl _)]
   rw [← e]
   exact Hr.out
end Go.Proofs.YtcjgimlcefhhmaaGreatDoor

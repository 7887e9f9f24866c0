/-
  The lower functions of the numbers, continued: the reference's sum, difference and product.
-/
import Derived.Test.YtmcgkglmlfbijaaDoorLeaf
namespace Go.Proofs.YtmcgkglmlfbijaaDoor
open Go.RowKit
set_option linter.unusedVariables false
set_option linter.unusedSimpArgs false

theorem add_round {la lb l : List Nat} {k c s : Nat} (hl : l.length = k) (h : nval l + BB ^ k * c = nval (la.take k) + nval (lb.take k)) (hs : s = c + gd la k + gd lb k) :
    nval (l ++ [s % BB]) + BB ^ (k + 1) * (s / BB) = nval (la.take (k + 1)) + nval (lb.take (k + 1)) := by
  rw [nval_snoc, hl, nval_take_succ', nval_take_succ', Nat.pow_succ, Nat.mul_assoc, Nat.add_assoc, ← Nat.mul_add, Nat.mod_add_div, hs, Nat.mul_add, Nat.mul_add]
  omega

set_option maxHeartbeats 800000 in
theorem ref_Add (w : World) (va vb : Value) (la lb : List Nat) (ha : NatL w va la) (hb : NatL w vb lb) (hla : la.length ≤ 17592186044416) (hlb : lb.length ≤ 17592186044416) :
    Calls Tryd.prog 34 #[va, vb] w (Ret w fun r w' => NatL w' r (digs (nval la + nval lb))) := by
  have HA := Lib.hid ha
  have HB := Lib.hid hb
  obtain ⟨p, c, rfl, a1, a2, a3⟩ := ha.parts
  obtain ⟨q, d, rfl, b1, b2, b3⟩ := hb.parts
  have A3 := Lib.hid a3
  have B3 := Lib.hid b3
  clear ha hb a3 b3
  obtain ⟨na, hna⟩ : ∃ n, la.length = n := ⟨_, rfl⟩
  obtain ⟨nb, hnb⟩ : ∃ n, lb.length = n := ⟨_, rfl⟩
  rw [hna] at HA a1 hla ⊢
  rw [hnb] at HB b1 hlb ⊢
  have Hna := Lib.hid hna
  have Hnb := Lib.hid hnb
  clear hna hnb
  go_enter Tryd.func34, Tryd.ntmps34
  go_wp2_with fail
  go_loopw [5, 6, 7] (fun v cr i w1 => ∃ (k : Nat) (l : List Nat) (c : Nat), (k ≤ na ∨ k ≤ nb) ∧ i = .int .i64 k ∧ OwnN w1 w.heap.size v l ∧ l.length = k ∧ cr = .int .u64 c ∧ c ≤ 1 ∧
      nval l + BB ^ k * c = nval (la.take k) + nval (lb.take k) ∧ Own w.heap.size w w1) (fun _ _ i _ => na + nb - (intOf i).toNat)
  case atStart =>
    exact ⟨0, [], 0, by omega, rfl, OwnN.made0 w _ (Nat.le_refl _), rfl, rfl, by omega, by simp [nval], Own.of_gr ((Gr.refl w).alloc _) (Nat.le_refl _)⟩
  case round =>
    obtain ⟨k, l, cr, hk, rfl, hown, hl, rfl, hc, hv, ho⟩ := hrel
    have Hown := Lib.hid hown
    have Hl := Lib.hid hl
    have Hv := Lib.hid hv
    have Ho := Lib.hid ho
    have Hb := Lib.hid (show w.heap.size ≤ wr.heap.size from ho.size)
    clear hown hl hv ho
    by_cases hlt : k < na ∨ k < nb
    · have ga := A3.out.gd k
      have gb := B3.out.gd k
      rw [BB_eq] at ga gb
      obtain ⟨s, hs⟩ : ∃ s, s = cr + gd la k + gd lb k := ⟨_, rfl⟩
      have Hs := Lib.hid hs
      have E1 := Lib.hid (show ((cr : Int) + gd la k + gd lb k) % 4294967296 = ((s % BB : Nat) : Int) by rw [hs, BB_eq]; omega)
      have E2 := Lib.hid (show ((cr : Int) + gd la k + gd lb k) / 4294967296 = ((s / BB : Nat) : Int) by rw [hs, BB_eq]; omega)
      have hs1 := Lib.hid (show s / BB ≤ 1 by rw [hs, BB_eq]; omega)
      clear hs
      have hk2 : k ≤ 17592186044416 := by omega
      have hlt' : k < na ∨ (¬ k < na ∧ k < nb) := by omega
      clear hlt
      rcases hlt' with hka | ⟨hka, hkb⟩
      all_goals
        go_wp2_with fail
        refine (ref_digit _ _ la k (HA.out.own rfl Ho.out) (by omega)).mono ?_
        rintro _ _ ⟨rfl, rfl⟩
        go_wp2_with fail
        refine (ref_digit _ _ lb k (HB.out.own rfl Ho.out) (by omega)).mono ?_
        rintro _ _ ⟨rfl, rfl⟩
        go_wp2_with (at_builtin; go_must (refine wpList_appendN rfl _ _ 23 rfl (by kernel_rfl) w.heap.size _ (.slice (some ⟨wr.heap.size, 0, none⟩) 1 1) l [s % BB] rfl (Hown.out.grow ((Gr.refl wr).alloc _)) rfl (NatL.one wr _ (s % BB) E1.out (Nat.mod_lt _ BB_pos) _) (by rw [Hl.out]; simp; omega) (Nat.le_trans Hb.out (by simp)) ?_; intro v' w' hown' hgrow hb'))
        refine ⟨⟨k + 1, l ++ [s % BB], s / BB, by omega, by go_num, hown', by rw [List.length_append, Hl.out]; rfl, by rw [E2.out], hs1.out, add_round Hl.out Hv.out Hs.out, ?_⟩, by simp [intOf]; omega⟩
        exact (Ho.out.trans (Own.of_gr ((Gr.refl wr).alloc _) Hb.out)).trans hgrow
    · have hka : ¬ k < na := by omega
      have hkb : ¬ k < nb := by omega
      have hcr := Lib.hid (show cr % BB = cr from Nat.mod_eq_of_lt (by rw [BB_eq]; omega))
      go_wp2_with (at_builtin; go_must (refine wpList_appendN rfl _ _ 23 rfl (by kernel_rfl) w.heap.size _ (.slice (some ⟨wr.heap.size, 0, none⟩) 1 1) l [cr] rfl (Hown.out.grow ((Gr.refl wr).alloc _)) rfl (NatL.one wr _ cr rfl (by rw [BB_eq]; omega) _) (by rw [Hl.out]; simp; omega) (Nat.le_trans Hb.out (by simp)) ?_; intro v' w' hown' hgrow hb'))
      refine (ref_Trim _ v' _ hown'.read (by rw [List.length_append, Hl.out]; simp; omega)).mono ?_
      rintro _ w2 ⟨r, rfl, g2, hr⟩
      go_wp2
      go_ret
      refine ⟨_, rfl, ((Ho.out.trans (Own.of_gr ((Gr.refl wr).alloc _) Hb.out)).trans hgrow).gr.trans g2, ?_⟩
      have e : nval (l ++ [cr]) = nval la + nval lb := by
        have h1 := Hv.out
        rw [List.take_of_length_le (by rw [Hna.out]; omega), List.take_of_length_le (by rw [Hnb.out]; omega)] at h1
        rw [nval_snoc, Hl.out]; exact h1
      rw [← e]
      exact hr

theorem ret2 {a b : Value} {i : Int} {k : IntKind} {j : Int} (h : a = b) (h' : i = j) : Value.tuple #[a, .int k i] = .tuple #[b, .int k j] := by rw [h, h']

theorem sub_round {la lb l : List Nat} {k c x : Nat} (hl : l.length = k) (h : nval l + nval (lb.take k) = nval (la.take k) + BB ^ k * c) (hx : x + gd lb k + c = BB + gd la k) (hc : x / BB ≤ 1) :
    nval (l ++ [x % BB]) + nval (lb.take (k + 1)) = nval (la.take (k + 1)) + BB ^ (k + 1) * (1 - x / BB) := by
  rw [nval_snoc, hl, nval_take_succ', nval_take_succ', Nat.pow_succ]
  obtain ⟨y, hy⟩ : ∃ y, 1 - x / BB = y := ⟨_, rfl⟩
  have e := Nat.mod_add_div x BB
  have hB : BB * (x / BB) + BB * y = BB := by rw [← Nat.mul_add, show x / BB + y = 1 from by omega, Nat.mul_one]
  rw [hy]
  have e2 : x % BB + gd lb k + c = BB * y + gd la k := by omega
  have e3 := congrArg (fun z => BB ^ k * z) e2
  simp only [Nat.mul_add] at e3
  rw [Nat.mul_assoc (BB ^ k) BB y]
  omega

theorem sub_end {la lb l : List Nat} {c : Nat} (ha : Dig la) (hl : l.length = la.length) (hdl : Dig l) (h : nval l + nval (lb.take la.length) = nval la + BB ^ la.length * c) (hle : nval lb ≤ nval la) (hc : c ≤ 1) : nval l = nval la - nval lb := by
  have h1 := nval_lt la ha
  have h2 := nval_lt l hdl
  have h3 := nval_parts lb la.length
  have h4 : nval (lb.drop la.length) = 0 := by
    refine Nat.eq_zero_of_not_pos fun hp => ?_
    have : BB ^ la.length * 1 ≤ BB ^ la.length * nval (lb.drop la.length) := Nat.mul_le_mul_left _ hp
    omega
  rw [h4, Nat.mul_zero, Nat.add_zero] at h3
  rw [hl] at h2
  rcases Nat.eq_zero_or_pos c with hc0 | hc0
  · subst hc0; simp at h; omega
  · have : c = 1 := by omega
    subst this; rw [Nat.mul_one] at h; omega

set_option maxHeartbeats 800000 in
theorem ref_Sub_lt (w : World) (va vb : Value) (la lb : List Nat) (ha : NatL w va la) (hb : NatL w vb lb) (hla : la.length ≤ 17592186044416) (hlb : lb.length ≤ 17592186044416) (hlt : nval la < nval lb) :
    Calls Tryd.prog 76 #[va, vb] w (Ret w fun r w' => r = .tuple #[.slice none 0 0, .int .i64 2]) := by
  have HA := Lib.hid ha
  have HB := Lib.hid hb
  have Hc := Lib.hid (cmpZ_lt hlt)
  clear ha hb hlt
  go_enter Tryd.func76, Tryd.ntmps76
  go_wp2_with fail
  refine (ref_Cmp _ va vb la lb HA.out HB.out (by omega) (by omega)).mono ?_
  rintro _ w1 ⟨_, rfl, g1, rfl⟩
  rw [Hc.out]
  go_wp2
  go_ret2
  exact ⟨_, rfl, g1, rfl⟩

set_option maxHeartbeats 800000 in
theorem ref_Sub (w : World) (va vb : Value) (la lb : List Nat) (ha : NatL w va la) (hb : NatL w vb lb) (hla : la.length ≤ 17592186044416) (hlb : lb.length ≤ 17592186044416) (hle : nval lb ≤ nval la) :
    Calls Tryd.prog 76 #[va, vb] w (Ret w fun r w' => ∃ x, r = .tuple #[x, .int .i64 0] ∧ NatL w' x (digs (nval la - nval lb))) := by
  have HA := Lib.hid ha
  have HB := Lib.hid hb
  have hc0 : ¬ cmpZ (nval la) (nval lb) < 0 := by rw [cmpZ_neg_iff]; omega
  obtain ⟨cz, hcz⟩ : ∃ cz, cmpZ (nval la) (nval lb) = cz := ⟨_, rfl⟩
  rw [hcz] at hc0
  have Hcz := Lib.hid hcz
  have Hle := Lib.hid hle
  obtain ⟨p, c, rfl, a1, a2, a3⟩ := ha.parts
  have A3 := Lib.hid a3
  have B3 := Lib.hid hb.dig
  obtain ⟨na, hna⟩ : ∃ n, la.length = n := ⟨_, rfl⟩
  rw [hna] at HA a1 ⊢
  have Hna := Lib.hid hna
  have Hla := Lib.hid hla
  have hna' : na ≤ 17592186044416 := by omega
  clear ha hb a3 hle hcz hna hla
  go_enter Tryd.func76, Tryd.ntmps76
  go_wp2_with fail
  refine (ref_Cmp _ _ vb la lb HA.out HB.out (Nat.le_trans Hla.out (by omega)) (by omega)).mono ?_
  rintro _ w1 ⟨_, rfl, g1, rfl⟩
  rw [Hcz.out]
  have HA1 := Lib.hid (HA.out.grow g1)
  have HB1 := Lib.hid (HB.out.grow g1)
  have G1 := Lib.hid g1
  clear HA HB g1
  go_wp2_with fail
  go_loopw [6, 7, 8] (fun v cr i w2 => ∃ (k : Nat) (l : List Nat) (c : Nat), k ≤ na ∧ i = .int .i64 k ∧ OwnN w2 w1.heap.size v l ∧ l.length = k ∧ cr = .int .u64 c ∧ c ≤ 1 ∧
      nval l + nval (lb.take k) = nval (la.take k) + BB ^ k * c ∧ Own w1.heap.size w1 w2) (fun _ _ i _ => na - (intOf i).toNat)
  case atStart =>
    exact ⟨0, [], 0, by omega, rfl, OwnN.made0 w1 _ (Nat.le_refl _), rfl, rfl, by omega, by simp [nval], Own.of_gr ((Gr.refl w1).alloc _) (Nat.le_refl _)⟩
  case round =>
    obtain ⟨k, l, cr, hk, rfl, hown, hl, rfl, hc, hv, ho⟩ := hrel
    have Hown := Lib.hid hown
    have Hl := Lib.hid hl
    have Hv := Lib.hid hv
    have Ho := Lib.hid ho
    have Hb := Lib.hid (show w1.heap.size ≤ wr.heap.size from ho.size)
    clear hown hl hv ho
    by_cases hka : k < na
    · have ga := A3.out.gd k
      have gb := B3.out.gd k
      rw [BB_eq] at ga gb
      obtain ⟨x, hx⟩ : ∃ x, x = 4294967296 + gd la k - gd lb k - cr := ⟨_, rfl⟩
      have Hx := Lib.hid (show x + gd lb k + cr = BB + gd la k by rw [BB_eq]; omega)
      have E1 := Lib.hid (show ((4294967296 : Int) + gd la k - gd lb k - cr) % 4294967296 = ((x % BB : Nat) : Int) by rw [hx, BB_eq]; omega)
      have E2 := Lib.hid (show 1 - ((4294967296 : Int) + gd la k - gd lb k - cr) / 4294967296 = ((1 - x / BB : Nat) : Int) by rw [hx, BB_eq]; omega)
      have hs1 := Lib.hid (show x / BB ≤ 1 by rw [hx, BB_eq]; omega)
      clear hx
      go_wp2_with fail
      refine (ref_digit _ _ la k (HA1.out.own rfl Ho.out) (by omega)).mono ?_
      rintro _ _ ⟨rfl, rfl⟩
      go_wp2_with fail
      refine (ref_digit _ _ lb k (HB1.out.own rfl Ho.out) (by omega)).mono ?_
      rintro _ _ ⟨rfl, rfl⟩
      go_wp2_with (at_builtin; go_must (refine wpList_appendN rfl _ _ 23 rfl (by kernel_rfl) w1.heap.size _ (.slice (some ⟨wr.heap.size, 0, none⟩) 1 1) l [x % BB] rfl (Hown.out.grow ((Gr.refl wr).alloc _)) rfl (NatL.one wr _ (x % BB) E1.out (Nat.mod_lt _ BB_pos) _) (by rw [Hl.out]; simp; omega) (Nat.le_trans Hb.out (by simp)) ?_; intro v' w' hown' hgrow hb'))
      refine ⟨⟨k + 1, l ++ [x % BB], 1 - x / BB, by omega, by go_num, hown', by rw [List.length_append, Hl.out]; rfl, by rw [E2.out], Nat.sub_le _ _, sub_round Hl.out Hv.out Hx.out hs1.out, ?_⟩, by simp [intOf]; omega⟩
      exact (Ho.out.trans (Own.of_gr ((Gr.refl wr).alloc _) Hb.out)).trans hgrow
    · obtain rfl : k = na := by omega
      go_wp2_with fail
      refine (ref_Trim _ u6 _ Hown.out.read (by rw [Hl.out]; omega)).mono ?_
      rintro _ w2 ⟨r, rfl, g2, hr⟩
      go_wp2
      go_ret2
      refine ⟨_, rfl, (G1.out.trans Ho.out.gr).trans g2, _, rfl, ?_⟩
      have h1 := Hv.out
      rw [List.take_of_length_le (l := la) (by rw [Hna.out]; omega), ← Hna.out] at h1
      rw [← sub_end A3.out (by rw [Hl.out, Hna.out]) Hown.out.2 h1 Hle.out hc]
      exact hr
end Go.Proofs.YtmcgkglmlfbijaaDoor

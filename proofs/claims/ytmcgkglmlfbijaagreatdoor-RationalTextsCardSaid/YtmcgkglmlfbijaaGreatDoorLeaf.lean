/-
  The lower functions of the numbers: each shows what it computes.
  The lower functions of the numbers, continued: the reference's sum, difference and product.
  The lower functions of the numbers, continued: the products.
  The lower functions of the program's numbers.
  The lower functions of the program's numbers, continued: comparison, sum, difference.
  The program's numbers: sum, difference, conversions.
-/
import Derived.Test.YtmcgkglmlfbijaaGreatDoorOwn
namespace Go.Proofs.YtmcgkglmlfbijaaGreatDoor
open Go.RowKit
set_option linter.unusedVariables false
set_option linter.unusedSimpArgs false

theorem ret_bool {a b : Bool} (h : a = b) : Ending.returned (.bool a) = .returned (.bool b) := by rw [h]
theorem ret_int {k : IntKind} {a b : Int} (h : a = b) : Ending.returned (.int k a) = .returned (.int k b) := by rw [h]

set_option maxHeartbeats 400000 in
theorem ref_digit (w : World) (v : Value) (l : List Nat) (i : Nat) (h : NatL w v l) (hi : i ≤ 140737488351232) :
    Calls Tryz.prog 100 #[v, .int .i64 i] w fun e w' => e = .returned (.int .u64 (gd l i)) ∧ w = w' := by
  obtain ⟨h0, p, c, rfl, h1, h2, h3⟩ := h
  have hd := h0.gd i
  rw [BB_eq] at hd
  by_cases hlt : i < l.length
  · rcases h3 with ⟨_, h3⟩ | ⟨b, o, rfl, hc⟩
    · omega
    have hc' := hc i hlt
    clear hc
    go_enter Tryz.func100, Tryz.ntmps100
    go_wp2
    go_ret
    exact ⟨rfl, rfl⟩
  · have h4 : gd l i = 0 := gd_none (Nat.le_of_not_lt hlt)
    rw [h4]
    clear h3 h4
    go_enter Tryz.func100, Tryz.ntmps100
    go_wp2
    go_ret
    exact ⟨rfl, rfl⟩

set_option maxHeartbeats 400000 in
theorem nat_digit (w : World) (v : Value) (l : List Nat) (i : Nat) (h : NatL w v l) (hi : i ≤ 140737488351232) :
    Calls Tryz.prog 102 #[v, .int .i64 i] w fun e w' => e = .returned (.int .u64 (gd l i)) ∧ w = w' := by
  obtain ⟨h0, p, c, rfl, h1, h2, h3⟩ := h
  have hd := h0.gd i
  rw [BB_eq] at hd
  by_cases hlt : i < l.length
  · rcases h3 with ⟨_, h3⟩ | ⟨b, o, rfl, hc⟩
    · omega
    have hc' := hc i hlt
    clear hc
    go_enter Tryz.func102, Tryz.ntmps102
    go_wp2
    go_ret
    exact ⟨rfl, rfl⟩
  · have h4 : gd l i = 0 := gd_none (Nat.le_of_not_lt hlt)
    rw [h4]
    clear h3 h4
    go_enter Tryz.func102, Tryz.ntmps102
    go_wp2
    go_ret
    exact ⟨rfl, rfl⟩

set_option maxHeartbeats 400000 in
theorem ref_Same (w : World) (va vb : Value) (la lb : List Nat) (ha : NatL w va la) (hb : NatL w vb lb) :
    Calls Tryz.prog 60 #[va, vb] w (Ret w fun r _ => r = .bool (decide (la = lb))) := by
  have HA := Lib.hid ha
  have HB := Lib.hid hb
  obtain ⟨h0, p, c, rfl, h1, h2, -⟩ := ha
  obtain ⟨k0, q, d, rfl, k1, k2, -⟩ := hb
  by_cases hn : la.length = lb.length
  · have Hn := Lib.hid hn
    obtain ⟨n, hn1⟩ : ∃ n, la.length = n := ⟨_, rfl⟩
    rw [← hn, hn1]
    rw [hn1] at h1
    have Hn1 := Lib.hid hn1
    clear hn hn1 h0 k0
    go_enter Tryz.func60, Tryz.ntmps60
    go_wp2
    go_loopw [5] (fun i w1 => ∃ k : Nat, k ≤ n ∧ i = .int .i64 k ∧ la.take k = lb.take k ∧ Gr w w1) (fun i _ => n - (intOf i).toNat)
    case atStart => exact ⟨0, Nat.zero_le _, rfl, by simp, Gr.refl w⟩
    case round =>
      obtain ⟨k, hk, rfl, hp, hg⟩ := hrel
      have Hp := Lib.hid hp; clear hp
      by_cases hlt : k < n
      · have Hka := Lib.hid (show k < la.length by rw [Hn1.out]; exact hlt)
        have Hkb := Lib.hid (show k < lb.length by rw [← Hn.out, Hn1.out]; exact hlt)
        obtain ⟨b, o, rfl, c1⟩ := (HA.out.grow hg).at k Hka.out
        obtain ⟨b', o', rfl, c2⟩ := (HB.out.grow hg).at k Hkb.out
        have Hg := Lib.hid hg; clear hg
        go_wp2
        go_quiet (fail)
        go_wp2
        · go_ret
          rename_i ht
          refine ⟨_, rfl, Hg.out.drewN nq, ?_⟩
          have h2 : ¬ la = lb := fun e => by rw [e] at ht; simp at ht
          simp [h2]
        · rename_i ht
          go_roundw
          case rel =>
            refine ⟨k + 1, by omega, by go_num, ?_, Hg.out.drewN nq⟩
            rw [take_succ_iff Hka.out Hkb.out Hp.out]
            have h3 : (gd la k : Int) = gd lb k := by simpa using ht
            omega
          case measure => simp [intOf]; omega
      · go_wp2
        go_ret
        refine ⟨_, rfl, hg, ?_⟩
        obtain rfl : k = n := by omega
        have h1 := Hp.out
        have h2 : la = lb := by
          rw [List.take_of_length_le (by rw [Hn1.out]; omega), List.take_of_length_le (by rw [← Hn.out, Hn1.out]; omega)] at h1
          exact h1
        simp [h2]
  · go_enter Tryz.func60, Tryz.ntmps60
    go_wp2
    go_ret
    refine ⟨_, rfl, Gr.refl w, ?_⟩
    have h2 : ¬ la = lb := fun e => hn (by rw [e])
    simp [h2]

theorem trim_step {l : List Nat} {k : Nat} (hk : k < l.length) (h : trimL (l.take (k + 1)) = trimL l) (h0 : gd l k = 0) : trimL (l.take k) = trimL l := by
  rw [← h, List.take_succ_eq_append_getElem hk, ← gd_get hk, h0, trimL_snoc_zero]
theorem trim_last {l : List Nat} {k : Nat} (hd : Dig l) (hk : k < l.length) (h : trimL (l.take (k + 1)) = trimL l) (h0 : gd l k ≠ 0) : l.take (k + 1) = trimL l := by
  rw [← h, List.take_succ_eq_append_getElem hk, ← gd_get hk, trimL_snoc _ _ (hd.take k) (hd.gd k) h0]
theorem trim_none {l : List Nat} (h : trimL (l.take 0) = trimL l) : l.take 0 = trimL l := by
  rw [← h]; simp [trimL, nval, digs_zero]
theorem digs_trimL (l : List Nat) : trimL l = digs (nval l) := rfl

set_option maxHeartbeats 400000 in
theorem ref_Trim (w : World) (v : Value) (l : List Nat) (h : NatL w v l) (hlen : l.length ≤ 35184372088832) :
    Calls Tryz.prog 99 #[v] w (Ret w fun r w' => NatL w' r (trimL l)) := by
  have HA := Lib.hid h
  obtain ⟨h0, p, c, rfl, h1, h2, -⟩ := h
  have H0 := Lib.hid h0
  obtain ⟨n, hn⟩ : ∃ n, l.length = n := ⟨_, rfl⟩
  have Hn := Lib.hid hn
  rw [hn] at h1 hlen ⊢
  rw [hn] at HA
  clear hn h0
  go_enter Tryz.func99, Tryz.ntmps99
  go_wp2
  go_loopw [3] (fun i w1 => ∃ k : Nat, k ≤ n ∧ i = .int .i64 k ∧ trimL (l.take k) = trimL l ∧ w1 = w) (fun i _ => (intOf i).toNat)
  case atStart => exact ⟨n, Nat.le_refl _, rfl, by rw [List.take_of_length_le (by rw [Hn.out]; exact Nat.le_refl _)], rfl⟩
  case round =>
    obtain ⟨k, hk, rfl, hp, rfl⟩ := hrel
    have Hp := Lib.hid hp; clear hp
    have hbase : wr.heap.size ≤ (wr.alloc (.cells #[] 64)).heap.size := by simp
    by_cases hk0 : k = 0
    · obtain rfl := hk0
      have ht := Lib.hid (trim_none Hp.out)
      go_wp2_with (at_builtin; refine wpList_appendN rfl _ _ 23 rfl (by kernel_rfl) wr.heap.size _ (.slice p 0 c) [] (l.take 0) rfl (OwnN.made0 wr _ (Nat.le_refl _)) rfl ((HA.out.take 0 c (by omega) (by omega) (Nat.le_refl _)).grow ((Gr.refl wr).alloc _)) (by simp) hbase ?_; intro v' w' hown' hgrow hb')
      go_ret
      refine ⟨_, rfl, ((Gr.refl _).alloc _).own hgrow, ?_⟩
      rw [← ht.out]; exact hown'.read
    · obtain ⟨j, rfl⟩ : ∃ j, k = j + 1 := ⟨k - 1, by omega⟩
      obtain ⟨b, o, rfl, hc⟩ := HA.out.at j (by rw [Hn.out]; omega)
      by_cases hd : gd l j = 0
      · have e0 : ((gd l j : Int) == 0) = true := by rw [hd]; rfl
        have Hd := Lib.hid hd; clear hd
        go_wp2
        go_roundw
        case rel =>
          exact ⟨j, by omega, rfl, trim_step (by rw [Hn.out]; omega) Hp.out Hd.out, trivial⟩
        case measure => simp [intOf]
      · have e0 : ((gd l j : Int) == 0) = false := by simpa using hd
        have Hd := Lib.hid hd; clear hd
        go_wp2_with (at_builtin; refine wpList_appendN rfl _ _ 23 rfl (by kernel_rfl) wr.heap.size _ (.slice _ (j + 1) c) [] (l.take (j + 1)) rfl (OwnN.made0 wr _ (Nat.le_refl _)) rfl ((HA.out.take (j + 1) c (by rw [Hn.out]; omega) (by omega) (Nat.le_refl _)).grow ((Gr.refl wr).alloc _)) (by rw [List.length_take]; simp; omega) hbase ?_; intro v' w' hown' hgrow hb')
        go_ret
        refine ⟨_, rfl, ((Gr.refl _).alloc _).own hgrow, ?_⟩
        rw [← trim_last H0.out (by rw [Hn.out]; omega) Hp.out Hd.out]; exact hown'.read

set_option maxHeartbeats 400000 in
theorem ref_Cmp (w : World) (va vb : Value) (la lb : List Nat) (ha : NatL w va la) (hb : NatL w vb lb) (hla : la.length ≤ 35184372088832) (hlb : lb.length ≤ 35184372088832) :
    Calls Tryz.prog 57 #[va, vb] w (Ret w fun r _ => r = .int .i64 (cmpZ (nval la) (nval lb))) := by
  have HA := Lib.hid ha
  have HB := Lib.hid hb
  have Hla := Lib.hid hla
  have Hlb := Lib.hid hlb
  have da := Lib.hid (trimL_length la ha.dig)
  have db := Lib.hid (trimL_length lb hb.dig)
  clear ha hb hla hlb
  go_enter Tryz.func57, Tryz.ntmps57
  go_wp2_with fail
  refine (ref_Trim _ va la HA.out Hla.out).mono ?_
  rintro _ w1 ⟨ra, rfl, g1, hra⟩
  have HRA := Lib.hid hra
  have G1 := Lib.hid g1
  clear hra g1
  go_wp2_with fail
  refine (ref_Trim _ vb lb (HB.out.grow G1.out) Hlb.out).mono ?_
  rintro _ w2 ⟨rb, rfl, g2, hrb⟩
  have HRA' := Lib.hid (HRA.out.grow g2)
  have HRB := Lib.hid hrb
  have G2 := Lib.hid (G1.out.trans g2)
  clear hrb g2 HRA G1
  obtain ⟨p, c, rfl, a1, a2, a3⟩ := HRA'.out.parts
  obtain ⟨q, d, rfl, b1, b2, b3⟩ := HRB.out.parts
  obtain ⟨xa, hxa⟩ : ∃ xa, trimL la = xa := ⟨_, rfl⟩
  obtain ⟨xb, hxb⟩ : ∃ xb, trimL lb = xb := ⟨_, rfl⟩
  have Va := Lib.hid (show nval la = nval xa by rw [← hxa]; exact (nval_digs _).symm)
  have Vb := Lib.hid (show nval lb = nval xb by rw [← hxb]; exact (nval_digs _).symm)
  have Da := Lib.hid (show xa = digs (nval xa) by rw [← hxa]; unfold trimL; rw [nval_digs])
  have Db := Lib.hid (show xb = digs (nval xb) by rw [← hxb]; unfold trimL; rw [nval_digs])
  rw [hxa] at HRA' a1 a3
  rw [hxb] at HRB b1 b3
  simp only [hxa, hxb]
  have A3 := Lib.hid a3
  have B3 := Lib.hid b3
  clear a3 b3 hxa hxb da db
  obtain ⟨na, hna⟩ : ∃ n, xa.length = n := ⟨_, rfl⟩
  obtain ⟨nb, hnb⟩ : ∃ n, xb.length = n := ⟨_, rfl⟩
  rw [hna] at HRA' a1
  rw [hnb] at HRB b1
  simp only [hna, hnb]
  have Hna := Lib.hid hna
  have Hnb := Lib.hid hnb
  clear hna hnb
  rcases Nat.lt_trichotomy na nb with hn | hn | hn
  · have t1 : ((na : Int) != nb) = true := by simp; omega
    have hv := Lib.hid (lt_of_digs_shorter (a := nval xa) (b := nval xb) (by rw [← Da.out, ← Db.out, Hna.out, Hnb.out]; exact hn))
    go_wp2
    go_ret
    exact ⟨_, rfl, G2.out, by rw [Va.out, Vb.out, cmpZ_lt hv.out]; rfl⟩
  · subst hn
    go_wp2
    go_loopw [5] (fun i w1 => ∃ k : Nat, k ≤ na ∧ i = .int .i64 ((k : Int) - 1) ∧ nval (xa.drop k) = nval (xb.drop k) ∧ Gr w w1 ∧ Gr w2 w1) (fun i _ => ((intOf i) + 1).toNat)
    case atStart => exact ⟨na, Nat.le_refl _, rfl, by rw [List.drop_eq_nil_of_le (by rw [Hna.out]; exact Nat.le_refl _), List.drop_eq_nil_of_le (by rw [Hnb.out]; exact Nat.le_refl _)], G2.out, Gr.refl _⟩
    case round =>
      obtain ⟨k, hk, rfl, hp, hg, hg2⟩ := hrel
      have Hp := Lib.hid hp
      have Hg := Lib.hid hg
      have Hg2 := Lib.hid hg2
      clear hp hg hg2
      by_cases hk0 : k = 0
      · obtain rfl := hk0
        go_wp2
        go_ret
        refine ⟨_, rfl, Hg.out, ?_⟩
        have h0 : nval xa = nval xb := by simpa using Hp.out
        rw [Va.out, Vb.out, cmpZ_eq h0]; rfl
      · obtain ⟨j, rfl⟩ : ∃ j, k = j + 1 := ⟨k - 1, by omega⟩
        obtain ⟨b, o, rfl, c1⟩ := (HRA'.out.grow Hg2.out).at j (by rw [Hna.out]; omega)
        obtain ⟨b', o', rfl, c2⟩ := (HRB.out.grow Hg2.out).at j (by rw [Hnb.out]; omega)
        rcases Nat.lt_trichotomy (gd xa j) (gd xb j) with hd | hd | hd
        · have t1 : ((gd xa j : Int) != gd xb j) = true := by simp; omega
          have hv := Lib.hid (nval_lt_of_digit A3.out B3.out Hp.out hd)
          go_wp2
          go_quiet (fail)
          go_wp2
          go_quiet (fail)
          go_wp2
          go_ret
          exact ⟨_, rfl, (Hg.out.drewN _).drewN _, by rw [Va.out, Vb.out, cmpZ_lt hv.out]; rfl⟩
        · have t1 : ((gd xa j : Int) != gd xb j) = false := by rw [hd]; simp
          have hv := Lib.hid (nval_drop_eq Hp.out hd)
          clear hd
          go_wp2
          go_quiet (fail)
          go_wp2
          go_roundw
          case rel => exact ⟨j, by omega, by go_num, hv.out, Hg.out.drewN _, Hg2.out.drewN _⟩
          case measure => simp [intOf]
        · have t1 : ((gd xa j : Int) != gd xb j) = true := by simp; omega
          have hv := Lib.hid (nval_lt_of_digit B3.out A3.out Hp.out.symm hd)
          go_wp2
          go_quiet (fail)
          go_wp2
          go_quiet (fail)
          go_wp2
          go_ret
          exact ⟨_, rfl, (Hg.out.drewN _).drewN _, by rw [Va.out, Vb.out, cmpZ_gt hv.out]; rfl⟩
  · have t1 : ((na : Int) != nb) = true := by simp; omega
    have hv := Lib.hid (lt_of_digs_shorter (a := nval xb) (b := nval xa) (by rw [← Da.out, ← Db.out, Hna.out, Hnb.out]; exact hn))
    go_wp2
    go_ret
    exact ⟨_, rfl, G2.out, by rw [Va.out, Vb.out, cmpZ_gt hv.out]; rfl⟩
end Go.Proofs.YtmcgkglmlfbijaaGreatDoor
namespace Go.Proofs.YtmcgkglmlfbijaaGreatDoor
open Go.RowKit
set_option linter.unusedVariables false
set_option linter.unusedSimpArgs false

theorem add_round {la lb l : List Nat} {k c s : Nat} (hl : l.length = k) (h : nval l + BB ^ k * c = nval (la.take k) + nval (lb.take k)) (hs : s = c + gd la k + gd lb k) :
    nval (l ++ [s % BB]) + BB ^ (k + 1) * (s / BB) = nval (la.take (k + 1)) + nval (lb.take (k + 1)) := by
  rw [nval_snoc, hl, nval_take_succ', nval_take_succ', Nat.pow_succ, Nat.mul_assoc, Nat.add_assoc, ← Nat.mul_add, Nat.mod_add_div, hs, Nat.mul_add, Nat.mul_add]
  omega

set_option maxHeartbeats 800000 in
theorem ref_Add (w : World) (va vb : Value) (la lb : List Nat) (ha : NatL w va la) (hb : NatL w vb lb) (hla : la.length ≤ 17592186044416) (hlb : lb.length ≤ 17592186044416) :
    Calls Tryz.prog 53 #[va, vb] w (Ret w fun r w' => NatL w' r (digs (nval la + nval lb))) := by
  have HA := Lib.hid ha
  have HB := Lib.hid hb
  obtain ⟨p, c, rfl, a1, a2, a3⟩ := ha.parts
  obtain ⟨q, d, rfl, b1, b2, b3⟩ := hb.parts
  have A3 := Lib.hid a3
  have B3 := Lib.hid b3
  clear ha hb a3 b3
  obtain ⟨na, hna⟩ : ∃ n, la.length = n := ⟨_, rfl⟩
  obtain ⟨nb, hnb⟩ : ∃ n, lb.length = n := ⟨_, rfl⟩
  rw [hna] at HA a1 hla ⊢
  rw [hnb] at HB b1 hlb ⊢
  have Hna := Lib.hid hna
  have Hnb := Lib.hid hnb
  clear hna hnb
  go_enter Tryz.func53, Tryz.ntmps53
  go_wp2_with fail
  go_loopw [5, 6, 7] (fun v cr i w1 => ∃ (k : Nat) (l : List Nat) (c : Nat), (k ≤ na ∨ k ≤ nb) ∧ i = .int .i64 k ∧ OwnN w1 w.heap.size v l ∧ l.length = k ∧ cr = .int .u64 c ∧ c ≤ 1 ∧
      nval l + BB ^ k * c = nval (la.take k) + nval (lb.take k) ∧ Own w.heap.size w w1) (fun _ _ i _ => na + nb - (intOf i).toNat)
  case atStart =>
    exact ⟨0, [], 0, by omega, rfl, OwnN.made0 w _ (Nat.le_refl _), rfl, rfl, by omega, by simp [nval], Own.of_gr ((Gr.refl w).alloc _) (Nat.le_refl _)⟩
  case round =>
    obtain ⟨k, l, cr, hk, rfl, hown, hl, rfl, hc, hv, ho⟩ := hrel
    have Hown := Lib.hid hown
    have Hl := Lib.hid hl
    have Hv := Lib.hid hv
    have Ho := Lib.hid ho
    have Hb := Lib.hid (show w.heap.size ≤ wr.heap.size from ho.size)
    clear hown hl hv ho
    by_cases hlt : k < na ∨ k < nb
    · have ga := A3.out.gd k
      have gb := B3.out.gd k
      rw [BB_eq] at ga gb
      obtain ⟨s, hs⟩ : ∃ s, s = cr + gd la k + gd lb k := ⟨_, rfl⟩
      have Hs := Lib.hid hs
      have E1 := Lib.hid (show ((cr : Int) + gd la k + gd lb k) % 4294967296 = ((s % BB : Nat) : Int) by rw [hs, BB_eq]; omega)
      have E2 := Lib.hid (show ((cr : Int) + gd la k + gd lb k) / 4294967296 = ((s / BB : Nat) : Int) by rw [hs, BB_eq]; omega)
      have hs1 := Lib.hid (show s / BB ≤ 1 by rw [hs, BB_eq]; omega)
      clear hs
      have hk2 : k ≤ 17592186044416 := by omega
      have hlt' : k < na ∨ (¬ k < na ∧ k < nb) := by omega
      clear hlt
      rcases hlt' with hka | ⟨hka, hkb⟩
      all_goals
        go_wp2_with fail
        refine (ref_digit _ _ la k (HA.out.own rfl Ho.out) (by omega)).mono ?_
        rintro _ _ ⟨rfl, rfl⟩
        go_wp2_with fail
        refine (ref_digit _ _ lb k (HB.out.own rfl Ho.out) (by omega)).mono ?_
        rintro _ _ ⟨rfl, rfl⟩
        go_wp2_with (at_builtin; go_must (refine wpList_appendN rfl _ _ 23 rfl (by kernel_rfl) w.heap.size _ (.slice (some ⟨wr.heap.size, 0, none⟩) 1 1) l [s % BB] rfl (Hown.out.grow ((Gr.refl wr).alloc _)) rfl (NatL.one wr _ (s % BB) E1.out (Nat.mod_lt _ BB_pos) _) (by rw [Hl.out]; simp; omega) (Nat.le_trans Hb.out (by simp)) ?_; intro v' w' hown' hgrow hb'))
        refine ⟨⟨k + 1, l ++ [s % BB], s / BB, by omega, by go_num, hown', by rw [List.length_append, Hl.out]; rfl, by rw [E2.out], hs1.out, add_round Hl.out Hv.out Hs.out, ?_⟩, by simp [intOf]; omega⟩
        exact (Ho.out.trans (Own.of_gr ((Gr.refl wr).alloc _) Hb.out)).trans hgrow
    · have hka : ¬ k < na := by omega
      have hkb : ¬ k < nb := by omega
      have hcr := Lib.hid (show cr % BB = cr from Nat.mod_eq_of_lt (by rw [BB_eq]; omega))
      go_wp2_with (at_builtin; go_must (refine wpList_appendN rfl _ _ 23 rfl (by kernel_rfl) w.heap.size _ (.slice (some ⟨wr.heap.size, 0, none⟩) 1 1) l [cr] rfl (Hown.out.grow ((Gr.refl wr).alloc _)) rfl (NatL.one wr _ cr rfl (by rw [BB_eq]; omega) _) (by rw [Hl.out]; simp; omega) (Nat.le_trans Hb.out (by simp)) ?_; intro v' w' hown' hgrow hb'))
      refine (ref_Trim _ v' _ hown'.read (by rw [List.length_append, Hl.out]; simp; omega)).mono ?_
      rintro _ w2 ⟨r, rfl, g2, hr⟩
      go_wp2
      go_ret
      refine ⟨_, rfl, ((Ho.out.trans (Own.of_gr ((Gr.refl wr).alloc _) Hb.out)).trans hgrow).gr.trans g2, ?_⟩
      have e : nval (l ++ [cr]) = nval la + nval lb := by
        have h1 := Hv.out
        rw [List.take_of_length_le (by rw [Hna.out]; omega), List.take_of_length_le (by rw [Hnb.out]; omega)] at h1
        rw [nval_snoc, Hl.out]; exact h1
      rw [← e]
      exact hr

theorem ret2 {a b : Value} {i : Int} {k : IntKind} {j : Int} (h : a = b) (h' : i = j) : Value.tuple #[a, .int k i] = .tuple #[b, .int k j] := by rw [h, h']

theorem sub_round {la lb l : List Nat} {k c x : Nat} (hl : l.length = k) (h : nval l + nval (lb.take k) = nval (la.take k) + BB ^ k * c) (hx : x + gd lb k + c = BB + gd la k) (hc : x / BB ≤ 1) :
    nval (l ++ [x % BB]) + nval (lb.take (k + 1)) = nval (la.take (k + 1)) + BB ^ (k + 1) * (1 - x / BB) := by
  rw [nval_snoc, hl, nval_take_succ', nval_take_succ', Nat.pow_succ]
  obtain ⟨y, hy⟩ : ∃ y, 1 - x / BB = y := ⟨_, rfl⟩
  have e := Nat.mod_add_div x BB
  have hB : BB * (x / BB) + BB * y = BB := by rw [← Nat.mul_add, show x / BB + y = 1 from by omega, Nat.mul_one]
  rw [hy]
  have e2 : x % BB + gd lb k + c = BB * y + gd la k := by omega
  have e3 := congrArg (fun z => BB ^ k * z) e2
  simp only [Nat.mul_add] at e3
  rw [Nat.mul_assoc (BB ^ k) BB y]
  omega

theorem sub_end {la lb l : List Nat} {c : Nat} (ha : Dig la) (hl : l.length = la.length) (hdl : Dig l) (h : nval l + nval (lb.take la.length) = nval la + BB ^ la.length * c) (hle : nval lb ≤ nval la) (hc : c ≤ 1) : nval l = nval la - nval lb := by
  have h1 := nval_lt la ha
  have h2 := nval_lt l hdl
  have h3 := nval_parts lb la.length
  have h4 : nval (lb.drop la.length) = 0 := by
    refine Nat.eq_zero_of_not_pos fun hp => ?_
    have : BB ^ la.length * 1 ≤ BB ^ la.length * nval (lb.drop la.length) := Nat.mul_le_mul_left _ hp
    omega
  rw [h4, Nat.mul_zero, Nat.add_zero] at h3
  rw [hl] at h2
  rcases Nat.eq_zero_or_pos c with hc0 | hc0
  · subst hc0; simp at h; omega
  · have : c = 1 := by omega
    subst this; rw [Nat.mul_one] at h; omega

set_option maxHeartbeats 800000 in
theorem ref_Sub_lt (w : World) (va vb : Value) (la lb : List Nat) (ha : NatL w va la) (hb : NatL w vb lb) (hla : la.length ≤ 17592186044416) (hlb : lb.length ≤ 17592186044416) (hlt : nval la < nval lb) :
    Calls Tryz.prog 58 #[va, vb] w (Ret w fun r w' => r = .tuple #[.slice none 0 0, .int .i64 2]) := by
  have HA := Lib.hid ha
  have HB := Lib.hid hb
  have Hc := Lib.hid (cmpZ_lt hlt)
  clear ha hb hlt
  go_enter Tryz.func58, Tryz.ntmps58
  go_wp2_with fail
  refine (ref_Cmp _ va vb la lb HA.out HB.out (by omega) (by omega)).mono ?_
  rintro _ w1 ⟨_, rfl, g1, rfl⟩
  rw [Hc.out]
  go_wp2
  go_ret2
  exact ⟨_, rfl, g1, rfl⟩

set_option maxHeartbeats 800000 in
theorem ref_Sub (w : World) (va vb : Value) (la lb : List Nat) (ha : NatL w va la) (hb : NatL w vb lb) (hla : la.length ≤ 17592186044416) (hlb : lb.length ≤ 17592186044416) (hle : nval lb ≤ nval la) :
    Calls Tryz.prog 58 #[va, vb] w (Ret w fun r w' => ∃ x, r = .tuple #[x, .int .i64 0] ∧ NatL w' x (digs (nval la - nval lb))) := by
  have HA := Lib.hid ha
  have HB := Lib.hid hb
  have hc0 : ¬ cmpZ (nval la) (nval lb) < 0 := by rw [cmpZ_neg_iff]; omega
  obtain ⟨cz, hcz⟩ : ∃ cz, cmpZ (nval la) (nval lb) = cz := ⟨_, rfl⟩
  rw [hcz] at hc0
  have Hcz := Lib.hid hcz
  have Hle := Lib.hid hle
  obtain ⟨p, c, rfl, a1, a2, a3⟩ := ha.parts
  have A3 := Lib.hid a3
  have B3 := Lib.hid hb.dig
  obtain ⟨na, hna⟩ : ∃ n, la.length = n := ⟨_, rfl⟩
  rw [hna] at HA a1 ⊢
  have Hna := Lib.hid hna
  have Hla := Lib.hid hla
  have hna' : na ≤ 17592186044416 := by omega
  clear ha hb a3 hle hcz hna hla
  go_enter Tryz.func58, Tryz.ntmps58
  go_wp2_with fail
  refine (ref_Cmp _ _ vb la lb HA.out HB.out (Nat.le_trans Hla.out (by omega)) (by omega)).mono ?_
  rintro _ w1 ⟨_, rfl, g1, rfl⟩
  rw [Hcz.out]
  have HA1 := Lib.hid (HA.out.grow g1)
  have HB1 := Lib.hid (HB.out.grow g1)
  have G1 := Lib.hid g1
  clear HA HB g1
  go_wp2_with fail
  go_loopw [6, 7, 8] (fun v cr i w2 => ∃ (k : Nat) (l : List Nat) (c : Nat), k ≤ na ∧ i = .int .i64 k ∧ OwnN w2 w1.heap.size v l ∧ l.length = k ∧ cr = .int .u64 c ∧ c ≤ 1 ∧
      nval l + nval (lb.take k) = nval (la.take k) + BB ^ k * c ∧ Own w1.heap.size w1 w2) (fun _ _ i _ => na - (intOf i).toNat)
  case atStart =>
    exact ⟨0, [], 0, by omega, rfl, OwnN.made0 w1 _ (Nat.le_refl _), rfl, rfl, by omega, by simp [nval], Own.of_gr ((Gr.refl w1).alloc _) (Nat.le_refl _)⟩
  case round =>
    obtain ⟨k, l, cr, hk, rfl, hown, hl, rfl, hc, hv, ho⟩ := hrel
    have Hown := Lib.hid hown
    have Hl := Lib.hid hl
    have Hv := Lib.hid hv
    have Ho := Lib.hid ho
    have Hb := Lib.hid (show w1.heap.size ≤ wr.heap.size from ho.size)
    clear hown hl hv ho
    by_cases hka : k < na
    · have ga := A3.out.gd k
      have gb := B3.out.gd k
      rw [BB_eq] at ga gb
      obtain ⟨x, hx⟩ : ∃ x, x = 4294967296 + gd la k - gd lb k - cr := ⟨_, rfl⟩
      have Hx := Lib.hid (show x + gd lb k + cr = BB + gd la k by rw [BB_eq]; omega)
      have E1 := Lib.hid (show ((4294967296 : Int) + gd la k - gd lb k - cr) % 4294967296 = ((x % BB : Nat) : Int) by rw [hx, BB_eq]; omega)
      have E2 := Lib.hid (show 1 - ((4294967296 : Int) + gd la k - gd lb k - cr) / 4294967296 = ((1 - x / BB : Nat) : Int) by rw [hx, BB_eq]; omega)
      have hs1 := Lib.hid (show x / BB ≤ 1 by rw [hx, BB_eq]; omega)
      clear hx
      go_wp2_with fail
      refine (ref_digit _ _ la k (HA1.out.own rfl Ho.out) (by omega)).mono ?_
      rintro _ _ ⟨rfl, rfl⟩
      go_wp2_with fail
      refine (ref_digit _ _ lb k (HB1.out.own rfl Ho.out) (by omega)).mono ?_
      rintro _ _ ⟨rfl, rfl⟩
      go_wp2_with (at_builtin; go_must (refine wpList_appendN rfl _ _ 23 rfl (by kernel_rfl) w1.heap.size _ (.slice (some ⟨wr.heap.size, 0, none⟩) 1 1) l [x % BB] rfl (Hown.out.grow ((Gr.refl wr).alloc _)) rfl (NatL.one wr _ (x % BB) E1.out (Nat.mod_lt _ BB_pos) _) (by rw [Hl.out]; simp; omega) (Nat.le_trans Hb.out (by simp)) ?_; intro v' w' hown' hgrow hb'))
      refine ⟨⟨k + 1, l ++ [x % BB], 1 - x / BB, by omega, by go_num, hown', by rw [List.length_append, Hl.out]; rfl, by rw [E2.out], Nat.sub_le _ _, sub_round Hl.out Hv.out Hx.out hs1.out, ?_⟩, by simp [intOf]; omega⟩
      exact (Ho.out.trans (Own.of_gr ((Gr.refl wr).alloc _) Hb.out)).trans hgrow
    · obtain rfl : k = na := by omega
      go_wp2_with fail
      refine (ref_Trim _ u6 _ Hown.out.read (by rw [Hl.out]; omega)).mono ?_
      rintro _ w2 ⟨r, rfl, g2, hr⟩
      go_wp2
      go_ret2
      refine ⟨_, rfl, (G1.out.trans Ho.out.gr).trans g2, _, rfl, ?_⟩
      have h1 := Hv.out
      rw [List.take_of_length_le (l := la) (by rw [Hna.out]; omega), ← Hna.out] at h1
      rw [← sub_end A3.out (by rw [Hl.out, Hna.out]) Hown.out.2 h1 Hle.out hc]
      exact hr
end Go.Proofs.YtmcgkglmlfbijaaGreatDoor
namespace Go.Proofs.YtmcgkglmlfbijaaGreatDoor
open Go.RowKit
set_option linter.unusedVariables false
set_option linter.unusedSimpArgs false

set_option maxHeartbeats 1600000 in
theorem ref_Mul (w : World) (va vb : Value) (la lb : List Nat) (ha : NatL w va la) (hb : NatL w vb lb) (hla : la.length ≤ 8796093022208) (hlb : lb.length ≤ 8796093022208) :
    Calls Tryz.prog 79 #[va, vb] w (Ret w fun r w' => NatL w' r (digs (nval la * nval lb))) := by
  have HA := Lib.hid ha
  have HB := Lib.hid hb
  obtain ⟨p, c, rfl, a1, a2, a3⟩ := ha.parts
  obtain ⟨q, d, rfl, b1, b2, b3⟩ := hb.parts
  have A3 := Lib.hid a3
  have B3 := Lib.hid b3
  clear ha hb a3 b3
  obtain ⟨na, hna⟩ : ∃ n, la.length = n := ⟨_, rfl⟩
  obtain ⟨nb, hnb⟩ : ∃ n, lb.length = n := ⟨_, rfl⟩
  rw [hna] at HA a1 hla ⊢
  rw [hnb] at HB b1 hlb ⊢
  have Hna := Lib.hid hna
  have Hnb := Lib.hid hnb
  clear hna hnb
  obtain ⟨B0, hB0⟩ : ∃ B0, w.heap.size = B0 := ⟨_, rfl⟩
  have HB0 := Lib.hid hB0
  clear hB0
  go_enter Tryz.func79, Tryz.ntmps79
  go_wp2_with (first | (go_at_call 999) | (refine wpList_makeN rfl _ _ 23 rfl (by kernel_rfl) (na + nb + 1) _ rfl rfl (by omega) (by omega) ?_; rw [HB0.out]; intro w1 hrow hgr1 hsz1))
  go_loopw [6] (fun i w2 => ∃ (k : Nat) (l : List Nat), k ≤ na ∧ i = .int .i64 k ∧ RowN w2 B0 l ∧ l.length = na + nb + 1 ∧
      nval l = nval (la.take k) * nval lb ∧ (∀ j, k + nb ≤ j → gd l j = 0) ∧ Own B0 w w2) (fun i _ => na - (intOf i).toNat)
  case atStart =>
    have e0 : ∀ j, gd (List.replicate (na + nb + 1) 0) j = 0 := fun j => by
      unfold gd; rw [List.getD_eq_getElem?_getD, List.getElem?_replicate]; split <;> rfl
    exact ⟨0, _, by omega, rfl, hrow, by simp, by rw [nval_replicate]; simp [nval], fun j _ => e0 j, Own.of_gr hgr1 (by rw [HB0.out]; exact Nat.le_refl _)⟩
  case round =>
    obtain ⟨k, l, hk, rfl, hrow2, hl, hv, hz, ho⟩ := hrel
    have Hrow := Lib.hid hrow2
    have Hl := Lib.hid hl
    have Hv := Lib.hid hv
    have Hz := Lib.hid hz
    have Ho := Lib.hid ho
    clear hrow hrow2 hl hv hz ho hgr1 hsz1
    by_cases hka : k < na
    · go_wp2_with fail
      obtain ⟨wo, hwo⟩ : ∃ wo : World, wo = wr := ⟨_, rfl⟩
      rw [← hwo]
      rw [← hwo] at Hrow Ho
      clear hwo
      go_loopw [7, 8] (fun cr i w3 => ∃ (j : Nat) (m : List Nat) (c : Nat), j ≤ nb ∧ i = .int .i64 j ∧ cr = .int .u64 c ∧ c < BB ∧ RowN w3 B0 m ∧ m.length = na + nb + 1 ∧
          nval m + BB ^ (k + j) * c = nval (la.take k) * nval lb + BB ^ k * (gd la k * nval (lb.take j)) ∧ (∀ t, k + nb ≤ t → gd m t = 0) ∧ Own B0 w w3) (fun _ i _ => nb - (intOf i).toNat)
      case atStart =>
        exact ⟨0, l, 0, by omega, rfl, rfl, BB_pos, Hrow.out, Hl.out, by simp [nval]; exact Hv.out, Hz.out, Ho.out⟩
      case round =>
        obtain ⟨j, m, c1, hj, rfl, rfl, hc1, hrow3, hm, hv3, hz3, ho3⟩ := hrel
        have Hrow3 := Lib.hid hrow3
        have Hm := Lib.hid hm
        have Hv3 := Lib.hid hv3
        have Hz3 := Lib.hid hz3
        have Ho3 := Lib.hid ho3
        have Hc1 := Lib.hid hc1
        rw [BB_eq] at hc1
        clear hrow3 hm hv3 hz3 ho3
        by_cases hjb : j < nb
        · obtain ⟨bA, oA, rfl, cA⟩ := (HA.out.own HB0.out.symm Ho3.out).at k (by rw [Hna.out]; exact hka)
          obtain ⟨bB, oB, rfl, cB⟩ := (HB.out.own HB0.out.symm Ho3.out).at j (by rw [Hnb.out]; exact hjb)
          have cR := Hrow3.out.cell (i := k + j) (by rw [Hm.out]; omega)
          have fR := Hrow3.out.free (k + j)
          have ga := A3.out.gd k
          have gb := B3.out.gd j
          have gm := Hrow3.out.dig.gd (k + j)
          have hmul := mul_bound ga gb
          rw [BB_eq] at ga gb gm
          have hm1 : (0 : Int) ≤ (gd la k : Int) * gd lb j := by have := Int.natCast_nonneg (gd la k * gd lb j); rwa [Int.natCast_mul] at this
          have hm2 : (gd la k : Int) * gd lb j ≤ 18446744065119617025 := by have := Int.ofNat_le.2 hmul; rwa [Int.natCast_mul] at this
          clear hmul
          go_wp2_with fail
          go_quiet (fail)
          go_wp2_with fail
          obtain ⟨P, hP⟩ : ∃ P, gd la k * gd lb j = P := ⟨_, rfl⟩
          have hPi : (gd la k : Int) * gd lb j = (P : Int) := by rw [← hP]; exact (Int.natCast_mul _ _).symm
          obtain ⟨s, hs⟩ : ∃ s, s = c1 + P + gd m (k + j) := ⟨_, rfl⟩
          have hP2 : P ≤ 18446744065119617025 := by rw [hPi] at hm2; omega
          have hsB : s / BB < BB := by rw [hs, BB_eq]; omega
          have E2 : ((c1 : Int) + (gd la k : Int) * gd lb j + gd m (k + j)) / 4294967296 = ((s / BB : Nat) : Int) := by rw [hPi, hs, BB_eq]; omega
          have E1 : ((c1 : Int) + (gd la k : Int) * gd lb j + gd m (k + j)) % 4294967296 = ((s % BB : Nat) : Int) := by rw [hPi, hs, BB_eq]; omega
          have hst := mul_inner (l := m) (i := k) (k := j) (c := c1) (s := s) (x := gd la k) (y := gd lb j) (W := nval (lb.take j)) (by rw [Hm.out]; omega) Hv3.out (by rw [hP]; exact hs)
          refine ⟨⟨j + 1, m.set (k + j) (s % BB), s / BB, by omega, by go_num, by rw [E2], hsB, (Hrow3.out.grow ((Gr.refl wr).drewN nq)).set (k + j) (s % BB) _ E1 (Nat.mod_lt _ BB_pos), by rw [List.length_set]; exact Hm.out, ?_, ?_, ?_⟩, by simp [intOf]; omega⟩
          · rw [nval_take_succ']; exact hst
          · intro t ht; rw [gd_set_ne (by omega)]; exact Hz3.out t ht
          · exact (Ho3.out.trans (Own.drewN _ _ _)).trans (Own.setCell _ (Nat.le_refl _) _ _)
        · obtain rfl : j = nb := by omega
          have cR := Hrow3.out.cell (i := k + j) (by rw [Hm.out]; omega)
          have fR := Hrow3.out.free (k + j)
          go_wp2_with fail
          refine ⟨⟨k + 1, m.set (k + j) c1, by omega, by go_num, Hrow3.out.set (k + j) c1 _ rfl (by rw [BB_eq]; exact hc1), by rw [List.length_set]; exact Hm.out, ?_, ?_, ?_⟩, by simp [intOf]; omega⟩
          · rw [mul_outer (by rw [Hm.out]; omega) (Hz3.out _ (Nat.le_refl _)) Hv3.out, List.take_of_length_le (l := lb) (by rw [Hnb.out]; exact Nat.le_refl _), nval_take_succ', Nat.add_mul, Nat.mul_assoc]
          · intro t ht; rw [gd_set_ne (by omega)]; exact Hz3.out t (by omega)
          · exact Ho3.out.trans (Own.setCell _ (Nat.le_refl _) _ _)
    · obtain rfl : k = na := by omega
      go_wp2_with fail
      refine (ref_Trim _ _ l (by rw [← Hl.out]; exact Hrow.out.read _ (Nat.le_refl _) (by rw [Hl.out]; omega)) (by rw [Hl.out]; omega)).mono ?_
      rintro _ w2 ⟨r, rfl, g2, hr⟩
      go_wp2
      go_ret
      refine ⟨_, rfl, Gr.trans (by have := Ho.out; rw [← HB0.out] at this; exact this.gr) g2, ?_⟩
      have e : nval l = nval la * nval lb := by rw [Hv.out, List.take_of_length_le (by rw [Hna.out]; exact Nat.le_refl _)]
      rw [← e]
      exact hr
end Go.Proofs.YtmcgkglmlfbijaaGreatDoor
namespace Go.Proofs.YtmcgkglmlfbijaaGreatDoor
open Go.RowKit
set_option linter.unusedVariables false
set_option linter.unusedSimpArgs false

set_option maxHeartbeats 400000 in
theorem nat_trim' (w : World) (p : Option Addr) (n c : Nat) (l : List Nat) (h : NatL w (.slice p n c) l) :
    Calls Tryz.prog 113 #[.slice p n c] w fun e w' => (∃ k, e = .returned (.slice p k k) ∧ NatL w (.slice p k k) (trimL l)) ∧ w = w' := by
  have HA := Lib.hid h
  have hn := h.len
  obtain ⟨p', c', hpc, h1, h2, h0⟩ := h.parts
  cases hpc
  have H0 := Lib.hid h0
  obtain ⟨n, hn⟩ : ∃ n, l.length = n := ⟨_, rfl⟩
  have Hn := Lib.hid hn
  rw [hn] at h1 ⊢
  rw [hn] at HA
  clear hn h0 h
  go_enter Tryz.func113, Tryz.ntmps113
  go_wp2
  go_loopw [3] (fun i w1 => ∃ k : Nat, k ≤ n ∧ i = .int .i64 k ∧ trimL (l.take k) = trimL l ∧ w1 = w) (fun i _ => (intOf i).toNat)
  case atStart => exact ⟨n, Nat.le_refl _, rfl, by rw [List.take_of_length_le (by rw [Hn.out]; exact Nat.le_refl _)], rfl⟩
  case round =>
    obtain ⟨k, hk, rfl, hp, rfl⟩ := hrel
    have Hp := Lib.hid hp; clear hp
    by_cases hk0 : k = 0
    · obtain rfl := hk0
      have ht := Lib.hid (trim_none Hp.out)
      go_wp2
      go_ret
      exact ⟨⟨0, rfl, by rw [← ht.out]; exact HA.out.take 0 0 (by omega) (Nat.le_refl _) (by omega)⟩, rfl⟩
    · obtain ⟨j, rfl⟩ : ∃ j, k = j + 1 := ⟨k - 1, by omega⟩
      obtain ⟨b, o, rfl, hc⟩ := HA.out.at j (by rw [Hn.out]; omega)
      by_cases hd : gd l j = 0
      · have e0 : ((gd l j : Int) == 0) = true := by rw [hd]; rfl
        have Hd := Lib.hid hd; clear hd
        go_wp2
        go_roundw
        case rel =>
          exact ⟨j, by omega, rfl, trim_step (by rw [Hn.out]; omega) Hp.out Hd.out, trivial⟩
        case measure => simp [intOf]
      · have e0 : ((gd l j : Int) == 0) = false := by simpa using hd
        have Hd := Lib.hid hd; clear hd
        have ht := Lib.hid (trim_last H0.out (by rw [Hn.out]; omega) Hp.out Hd.out)
        go_wp2
        go_ret
        exact ⟨⟨j + 1, rfl, by rw [← ht.out]; exact HA.out.take (j + 1) (j + 1) (by rw [Hn.out]; omega) (Nat.le_refl _) (by omega)⟩, rfl⟩

theorem nat_trim (w : World) (v : Value) (l : List Nat) (h : NatL w v l) :
    Calls Tryz.prog 113 #[v] w fun e w' => (∃ p k, e = .returned (.slice p k k) ∧ NatL w (.slice p k k) (trimL l)) ∧ w = w' := by
  obtain ⟨p, c, rfl, -⟩ := h.parts
  exact (nat_trim' w p _ c l h).mono fun e w' ⟨⟨k, h1, h2⟩, h3⟩ => ⟨⟨p, k, h1, h2⟩, h3⟩

set_option maxHeartbeats 1600000 in
theorem nat_Mul (w : World) (va vb : Value) (la lb : List Nat) (ha : NatL w va la) (hb : NatL w vb lb) (hla : la.length ≤ 8796093022208) (hlb : lb.length ≤ 8796093022208) :
    Calls Tryz.prog 106 #[va, vb] w (Ret w fun r w' => NatL w' r (digs (nval la * nval lb))) := by
  have HA := Lib.hid ha
  have HB := Lib.hid hb
  obtain ⟨p, c, rfl, a1, a2, a3⟩ := ha.parts
  obtain ⟨q, d, rfl, b1, b2, b3⟩ := hb.parts
  have A3 := Lib.hid a3
  have B3 := Lib.hid b3
  clear ha hb a3 b3
  obtain ⟨na, hna⟩ : ∃ n, la.length = n := ⟨_, rfl⟩
  obtain ⟨nb, hnb⟩ : ∃ n, lb.length = n := ⟨_, rfl⟩
  rw [hna] at HA a1 hla ⊢
  rw [hnb] at HB b1 hlb ⊢
  have Hna := Lib.hid hna
  have Hnb := Lib.hid hnb
  clear hna hnb
  obtain ⟨B0, hB0⟩ : ∃ B0, w.heap.size = B0 := ⟨_, rfl⟩
  have HB0 := Lib.hid hB0
  clear hB0
  go_enter Tryz.func106, Tryz.ntmps106
  go_wp2_with (first | (go_at_call 999) | (at_make; go_must (refine wpList_makeN rfl _ _ 23 rfl (by kernel_rfl) (na + nb) _ rfl rfl (by omega) (by omega) ?_; rw [HB0.out]; intro w1 hrow hgr1 hsz1)))
  go_loopw [20] (fun i w2 => ∃ (k : Nat) (l : List Nat), k ≤ na ∧ i = .int .i64 k ∧ RowN w2 B0 l ∧ l.length = na + nb ∧
      nval l = nval (la.take k) * nval lb ∧ (∀ j, k + nb ≤ j → gd l j = 0) ∧ Own B0 w w2) (fun i _ => na - (intOf i).toNat)
  case atStart =>
    have e0 : ∀ j, gd (List.replicate (na + nb) 0) j = 0 := fun j => by
      unfold gd; rw [List.getD_eq_getElem?_getD, List.getElem?_replicate]; split <;> rfl
    exact ⟨0, _, by omega, rfl, hrow, by simp, by rw [nval_replicate]; simp [nval], fun j _ => e0 j, Own.of_gr hgr1 (by rw [HB0.out]; exact Nat.le_refl _)⟩
  case round =>
    obtain ⟨k, l, hk, rfl, hrow2, hl, hv, hz, ho⟩ := hrel
    have Hrow := Lib.hid hrow2
    have Hl := Lib.hid hl
    have Hv := Lib.hid hv
    have Hz := Lib.hid hz
    have Ho := Lib.hid ho
    clear hrow hrow2 hl hv hz ho hgr1 hsz1
    by_cases hka : k < na
    · obtain ⟨bA, oA, rfl, cA⟩ := (HA.out.own HB0.out.symm Ho.out).at k (by rw [Hna.out]; exact hka)
      go_wp2_with fail
      obtain ⟨wo, hwo⟩ : ∃ wo : World, wo = wr := ⟨_, rfl⟩
      rw [← hwo]
      rw [← hwo] at Hrow Ho
      clear cA
      clear hwo
      go_loopw [8, 27] (fun cr i w3 => ∃ (j : Nat) (m : List Nat) (c : Nat), j ≤ nb ∧ i = .int .i64 j ∧ cr = .int .u64 c ∧ c < BB ∧ RowN w3 B0 m ∧ m.length = na + nb ∧
          nval m + BB ^ (k + j) * c = nval (la.take k) * nval lb + BB ^ k * (gd la k * nval (lb.take j)) ∧ (∀ t, k + nb ≤ t → gd m t = 0) ∧ Own B0 w w3) (fun _ i _ => nb - (intOf i).toNat)
      case atStart =>
        exact ⟨0, l, 0, by omega, rfl, rfl, BB_pos, Hrow.out, Hl.out, by simp [nval]; exact Hv.out, Hz.out, Ho.out⟩
      case round =>
        obtain ⟨j, m, c1, hj, rfl, rfl, hc1, hrow3, hm, hv3, hz3, ho3⟩ := hrel
        have Hrow3 := Lib.hid hrow3
        have Hm := Lib.hid hm
        have Hv3 := Lib.hid hv3
        have Hz3 := Lib.hid hz3
        have Ho3 := Lib.hid ho3
        have Hc1 := Lib.hid hc1
        rw [BB_eq] at hc1
        clear hrow3 hm hv3 hz3 ho3
        by_cases hjb : j < nb
        · skip
          obtain ⟨bB, oB, rfl, cB⟩ := (HB.out.own HB0.out.symm Ho3.out).at j (by rw [Hnb.out]; exact hjb)
          have cR := Hrow3.out.cell (i := k + j) (by rw [Hm.out]; omega)
          have fR := Hrow3.out.free (k + j)
          have ga := A3.out.gd k
          have gb := B3.out.gd j
          have gm := Hrow3.out.dig.gd (k + j)
          have hmul := mul_bound ga gb
          rw [BB_eq] at ga gb gm
          have hm1 : (0 : Int) ≤ (gd la k : Int) * gd lb j := by have := Int.natCast_nonneg (gd la k * gd lb j); rwa [Int.natCast_mul] at this
          have hm2 : (gd la k : Int) * gd lb j ≤ 18446744065119617025 := by have := Int.ofNat_le.2 hmul; rwa [Int.natCast_mul] at this
          clear hmul
          go_wp2_with fail
          obtain ⟨P, hP⟩ : ∃ P, gd la k * gd lb j = P := ⟨_, rfl⟩
          have hPi : (gd la k : Int) * gd lb j = (P : Int) := by rw [← hP]; exact (Int.natCast_mul _ _).symm
          obtain ⟨s, hs⟩ : ∃ s, s = P + gd m (k + j) + c1 := ⟨_, rfl⟩
          have hP2 : P ≤ 18446744065119617025 := by rw [hPi] at hm2; omega
          have hsB : s / BB < BB := by rw [hs, BB_eq]; omega
          have E2 : ((gd la k : Int) * gd lb j + gd m (k + j) + c1) / 4294967296 = ((s / BB : Nat) : Int) := by rw [hPi, hs, BB_eq]; omega
          have E1 : ((gd la k : Int) * gd lb j + gd m (k + j) + c1) % 4294967296 = ((s % BB : Nat) : Int) := by rw [hPi, hs, BB_eq]; omega
          have hst := mul_inner (l := m) (i := k) (k := j) (c := c1) (s := s) (x := gd la k) (y := gd lb j) (W := nval (lb.take j)) (by rw [Hm.out]; omega) Hv3.out (by rw [hP]; omega)
          refine ⟨⟨j + 1, m.set (k + j) (s % BB), s / BB, by omega, by go_num, by rw [E2], hsB, Hrow3.out.set (k + j) (s % BB) _ E1 (Nat.mod_lt _ BB_pos), by rw [List.length_set]; exact Hm.out, ?_, ?_, ?_⟩, by simp [intOf]; omega⟩
          · rw [nval_take_succ']; exact hst
          · intro t ht; rw [gd_set_ne (by omega)]; exact Hz3.out t ht
          · exact Ho3.out.trans (Own.setCell _ (Nat.le_refl _) _ _)
        · obtain rfl : j = nb := by omega
          have cR := Hrow3.out.cell (i := k + j) (by rw [Hm.out]; omega)
          have fR := Hrow3.out.free (k + j)
          go_wp2_with fail
          refine ⟨⟨k + 1, m.set (k + j) c1, by omega, by go_num, Hrow3.out.set (k + j) c1 _ rfl (by rw [BB_eq]; exact hc1), by rw [List.length_set]; exact Hm.out, ?_, ?_, ?_⟩, by simp [intOf]; omega⟩
          · rw [mul_outer (by rw [Hm.out]; omega) (Hz3.out _ (Nat.le_refl _)) Hv3.out, List.take_of_length_le (l := lb) (by rw [Hnb.out]; exact Nat.le_refl _), nval_take_succ', Nat.add_mul, Nat.mul_assoc]
          · intro t ht; rw [gd_set_ne (by omega)]; exact Hz3.out t (by omega)
          · exact Ho3.out.trans (Own.setCell _ (Nat.le_refl _) _ _)
    · obtain rfl : k = na := by omega
      go_wp2_with fail
      refine (nat_trim _ _ l (by rw [← Hl.out]; exact Hrow.out.read _ (Nat.le_refl _) (by rw [Hl.out]; omega))).mono ?_
      rintro _ _ ⟨⟨r, kk, rfl, hr⟩, rfl⟩
      have Hr := Lib.hid hr
      clear hr
      go_wp2
      go_ret
      refine ⟨_, rfl, (by have := Ho.out; rw [← HB0.out] at this; exact this.gr), ?_⟩
      have e : nval l = nval la * nval lb := by rw [Hv.out, List.take_of_length_le (by rw [Hna.out]; exact Nat.le_refl _)]
      rw [← e]
      exact Hr.out
end Go.Proofs.YtmcgkglmlfbijaaGreatDoor
namespace Go.Proofs.YtmcgkglmlfbijaaGreatDoor
open Go.RowKit
set_option linter.unusedVariables false
set_option linter.unusedSimpArgs false

set_option maxHeartbeats 800000 in
theorem nat_Cmp (w : World) (va vb : Value) (la lb : List Nat) (ha : NatL w va la) (hb : NatL w vb lb) (hla : la.length ≤ 35184372088832) (hlb : lb.length ≤ 35184372088832) :
    Calls Tryz.prog 65 #[va, vb] w fun e w' => e = .returned (.int .i64 (cmpZ (nval la) (nval lb))) ∧ w = w' := by
  have HA := Lib.hid ha
  have HB := Lib.hid hb
  obtain ⟨p, c, rfl, a1, a2, a3⟩ := ha.parts
  obtain ⟨q, d, rfl, b1, b2, b3⟩ := hb.parts
  have A3 := Lib.hid a3
  have B3 := Lib.hid b3
  clear ha hb a3 b3
  obtain ⟨na, hna⟩ : ∃ n, la.length = n := ⟨_, rfl⟩
  obtain ⟨nb, hnb⟩ : ∃ n, lb.length = n := ⟨_, rfl⟩
  rw [hna] at HA a1 hla ⊢
  rw [hnb] at HB b1 hlb ⊢
  have Hna := Lib.hid hna
  have Hnb := Lib.hid hnb
  clear hna hnb
  obtain ⟨m, hm1, hm2, hmm, hcase⟩ : ∃ m : Nat, na ≤ m ∧ nb ≤ m ∧ m ≤ 35184372088832 ∧ (m = nb ∧ na < nb ∨ m = na ∧ nb ≤ na) := by
    rcases Nat.lt_or_ge na nb with h | h
    · exact ⟨nb, by omega, by omega, by omega, .inl ⟨rfl, by omega⟩⟩
    · exact ⟨na, by omega, by omega, by omega, .inr ⟨rfl, h⟩⟩
  have HD0 := Lib.hid (show nval (la.drop m) = nval (lb.drop m) by rw [List.drop_eq_nil_of_le (by rw [Hna.out]; exact hm1), List.drop_eq_nil_of_le (by rw [Hnb.out]; exact hm2)])
  rcases hcase with ⟨rfl, hc⟩ | ⟨rfl, hc⟩
  all_goals
    go_enter Tryz.func65, Tryz.ntmps65
    go_wp2_with fail
    go_loopw [5] (fun i w1 => ∃ k : Nat, k ≤ m ∧ i = .int .i64 ((k : Int) - 1) ∧ nval (la.drop k) = nval (lb.drop k) ∧ w = w1) (fun i _ => ((intOf i) + 1).toNat)
    case atStart => exact ⟨m, Nat.le_refl _, rfl, HD0.out, rfl⟩
    case round =>
      obtain ⟨k, hk, rfl, hp, rfl⟩ := hrel
      have Hp := Lib.hid hp
      clear hp
      by_cases hk0 : k = 0
      · obtain rfl := hk0
        go_wp2_with fail
        go_ret
        have h0 : nval la = nval lb := by simpa using Hp.out
        rw [cmpZ_eq h0]
        exact ⟨rfl, rfl⟩
      · obtain ⟨j, rfl⟩ : ∃ j, k = j + 1 := ⟨k - 1, by omega⟩
        have e1 := Lib.hid (show ((j + 1 : Nat) : Int) - 1 = (j : Int) by omega)
        rw [e1.out]
        go_wp2_with fail
        refine (nat_digit _ _ la j HA.out (by omega)).mono ?_
        rintro _ _ ⟨rfl, rfl⟩
        go_wp2_with fail
        refine (nat_digit _ _ lb j HB.out (by omega)).mono ?_
        rintro _ _ ⟨rfl, rfl⟩
        rcases Nat.lt_trichotomy (gd la j) (gd lb j) with hd | hd | hd
        · have hv := Lib.hid (cmpZ_lt (nval_lt_of_digit A3.out B3.out Hp.out hd))
          go_wp2_with fail
          go_ret
          rw [hv.out]
          exact ⟨rfl, rfl⟩
        · have hv := Lib.hid (nval_drop_eq Hp.out hd)
          have h1 : ¬ gd la j < gd lb j := by omega
          have h2 : ¬ gd lb j < gd la j := by omega
          clear hd
          go_wp2_with fail
          exact ⟨⟨j, by omega, rfl, hv.out, trivial⟩, by simp [intOf]⟩
        · have hv := Lib.hid (cmpZ_gt (nval_lt_of_digit B3.out A3.out Hp.out.symm hd))
          have h1 : ¬ gd la j < gd lb j := by omega
          go_wp2_with fail
          go_ret
          rw [hv.out]
          exact ⟨rfl, rfl⟩

/-- what a digit-wise function computes: one digit and the carry into the next place -/
def StepFn (fn : Nat) (D C : Nat → Nat → Nat → Nat) : Prop :=
  ∀ (w : World) (x y c : Nat), x < BB → y < BB → c ≤ 1 → D x y c < BB ∧ C x y c ≤ 1 ∧
    Calls Tryz.prog fn #[.int .u64 x, .int .u64 y, .int .u64 c] w fun e w' => e = .returned (.tuple #[.int .u32 (D x y c), .int .u64 (C x y c)]) ∧ w = w'

set_option maxHeartbeats 800000 in
theorem nat_combine (w : World) (va vb : Value) (la lb : List Nat) (ha : NatL w va la) (hb : NatL w vb lb) (hla : la.length ≤ 17592186044416) (hlb : lb.length ≤ 17592186044416)
    (fn : Nat) (hfn : fn = 123 ∨ fn = 129) (D C : Nat → Nat → Nat → Nat) (hf : StepFn fn D C) (I : Nat → List Nat → Nat → Prop) (hI0 : I 0 [] 0)
    (hI : ∀ k l c, I k l c → l.length = k → c ≤ 1 → I (k + 1) (l ++ [D (gd la k) (gd lb k) c]) (C (gd la k) (gd lb k) c)) :
    Calls Tryz.prog 122 #[va, vb, .func (.func fn) #[] #[]] w (Ret w fun r w' => ∃ l c, I (max la.length lb.length + 1) l c ∧ l.length = max la.length lb.length + 1 ∧ Dig l ∧ c ≤ 1 ∧ NatL w' r (trimL l)) := by
  have HA := Lib.hid ha
  have HB := Lib.hid hb
  obtain ⟨p, c, rfl, a1, a2, a3⟩ := ha.parts
  obtain ⟨q, d, rfl, b1, b2, b3⟩ := hb.parts
  have A3 := Lib.hid a3
  have B3 := Lib.hid b3
  have HF := Lib.hid hf
  have HI0 := Lib.hid hI0
  have HI := Lib.hid hI
  clear ha hb a3 b3 hf hI hI0
  obtain ⟨na, hna⟩ : ∃ n, la.length = n := ⟨_, rfl⟩
  obtain ⟨nb, hnb⟩ : ∃ n, lb.length = n := ⟨_, rfl⟩
  rw [hna] at HA a1 hla ⊢
  rw [hnb] at HB b1 hlb ⊢
  have Hna := Lib.hid hna
  have Hnb := Lib.hid hnb
  clear hna hnb
  obtain ⟨m, hm1, hm2, hmm, hcase⟩ : ∃ m : Nat, na ≤ m ∧ nb ≤ m ∧ m ≤ 17592186044416 ∧ (m = nb ∧ na < nb ∨ m = na ∧ nb ≤ na) := by
    rcases Nat.lt_or_ge na nb with h | h
    · exact ⟨nb, by omega, by omega, by omega, .inl ⟨rfl, by omega⟩⟩
    · exact ⟨na, by omega, by omega, by omega, .inr ⟨rfl, h⟩⟩
  have hmax : max na nb = m := by omega
  rw [hmax]
  clear hmax
  rcases hcase with ⟨rfl, hc⟩ | ⟨rfl, hc⟩
  all_goals rcases hfn with rfl | rfl
  all_goals
    go_enter Tryz.func122, Tryz.ntmps122
    go_wp2_with fail
    go_loopw [7, 8, 17] (fun v cr i w1 => ∃ (k : Nat) (l : List Nat) (c : Nat), k ≤ m + 1 ∧ i = .int .i64 k ∧ OwnN w1 w.heap.size v l ∧ l.length = k ∧ cr = .int .u64 c ∧ c ≤ 1 ∧ I k l c ∧ Own w.heap.size w w1) (fun _ _ i _ => m + 1 - (intOf i).toNat)
    case atStart => exact ⟨0, [], 0, by omega, rfl, OwnN.nil w _, rfl, rfl, by omega, HI0.out, Own.refl _ _⟩
    case round =>
      obtain ⟨k, l, cr, hk, rfl, hown, hl, rfl, hcr, hi, ho⟩ := hrel
      have Hown := Lib.hid hown
      have Hl := Lib.hid hl
      have Hi := Lib.hid hi
      have Ho := Lib.hid ho
      have Hb := Lib.hid (show w.heap.size ≤ wr.heap.size from ho.size)
      clear hown hl hi ho
      by_cases hlt : k < m + 1
      · have ga := A3.out.gd k
        have gb := B3.out.gd k
        obtain ⟨d1, d2, d3⟩ := HF.out wr _ _ cr ga gb hcr
        have D3 := Lib.hid d3
        have D1 := Lib.hid d1
        clear d3 d1
        rw [BB_eq] at ga gb
        go_wp2_with fail
        refine (nat_digit _ _ la k (HA.out.own rfl Ho.out) (by omega)).mono ?_
        rintro _ _ ⟨rfl, rfl⟩
        go_wp2_with fail
        refine (nat_digit _ _ lb k (HB.out.own rfl Ho.out) (by omega)).mono ?_
        rintro _ _ ⟨rfl, rfl⟩
        go_wp2_with fail
        refine D3.out.mono ?_
        rintro _ _ ⟨rfl, rfl⟩
        go_wp2_with (at_builtin; go_must (refine wpList_appendN rfl _ _ 23 rfl (by kernel_rfl) w.heap.size _ (.slice (some ⟨wr.heap.size, 0, none⟩) 1 1) l [D (gd la k) (gd lb k) cr] rfl (Hown.out.grow ((Gr.refl wr).alloc _)) rfl (NatL.one wr _ _ rfl D1.out _) (by rw [Hl.out]; simp; omega) (Nat.le_trans Hb.out (by simp)) ?_; intro v' w' hown' hgrow hb'))
        refine ⟨⟨k + 1, l ++ [D (gd la k) (gd lb k) cr], _, by omega, by go_num, hown', by rw [List.length_append, Hl.out]; rfl, rfl, d2, HI.out k l cr Hi.out Hl.out hcr, ?_⟩, by simp [intOf]; omega⟩
        exact (Ho.out.trans (Own.of_gr ((Gr.refl wr).alloc _) Hb.out)).trans hgrow
      · obtain rfl : k = m + 1 := by omega
        go_wp2_with fail
        refine (nat_trim _ _ l Hown.out.read).mono ?_
        rintro _ _ ⟨⟨r, kk, rfl, hr⟩, rfl⟩
        have Hr := Lib.hid hr
        clear hr
        go_wp2_with fail
        go_ret
        exact ⟨_, rfl, Ho.out.gr, l, cr, Hi.out, Hl.out, Hown.out.2, hcr, Hr.out⟩

set_option maxHeartbeats 400000 in
theorem nat_Add1 : StepFn 123 (fun x y c => (x + y + c) % BB) (fun x y c => (x + y + c) / BB) := by
  intro w x y c hx hy hc
  have hx' := hx
  have hy' := hy
  rw [BB_eq] at hx' hy'
  refine ⟨Nat.mod_lt _ BB_pos, (by show (x + y + c) / BB ≤ 1; rw [BB_eq]; omega), ?_⟩
  show Calls _ _ _ _ fun e w' => e = .returned (.tuple #[.int .u32 ((x + y + c) % BB : Nat), .int .u64 ((x + y + c) / BB : Nat)]) ∧ w = w'
  have E1 := Lib.hid (show ((x : Int) + y + c) % 4294967296 = (((x + y + c) % BB : Nat) : Int) by rw [BB_eq]; omega)
  have E2 := Lib.hid (show ((x : Int) + y + c) / 4294967296 = (((x + y + c) / BB : Nat) : Int) by rw [BB_eq]; omega)
  clear hx hy
  go_enter Tryz.func123, Tryz.ntmps123
  go_wp2
  go_ret2
  exact ⟨by rw [← E1.out, ← E2.out]; rfl, rfl⟩

theorem sub1_low {x y c : Nat} (hx : x < 4294967296) (hy : y < 4294967296) (hc : c ≤ 1) (h : x < y + c) :
    IntKind.u64.wrap (IntKind.u64.wrap ((x : Int) - y) - c) % 4294967296 = (((BB + x - y - c) % BB : Nat) : Int) ∧ IntKind.u64.wrap (IntKind.u64.wrap ((x : Int) - y) - c) / 9223372036854775808 = ((1 : Nat) : Int) := by
  simp only [IntKind.wrap_u64, BB_eq]
  omega
theorem sub1_high {x y c : Nat} (hx : x < 4294967296) (hy : y < 4294967296) (hc : c ≤ 1) (h : ¬ x < y + c) :
    ((x : Int) - y - c) = (((BB + x - y - c) % BB : Nat) : Int) ∧ ((x : Int) - y - c) / 9223372036854775808 = ((0 : Nat) : Int) := by
  simp only [BB_eq]
  omega

set_option maxHeartbeats 400000 in
theorem nat_Sub1 : StepFn 129 (fun x y c => (BB + x - y - c) % BB) (fun x y c => if x < y + c then 1 else 0) := by
  intro w x y c hx hy hc
  refine ⟨Nat.mod_lt _ BB_pos, (by show (if x < y + c then 1 else 0) ≤ 1; split <;> omega), ?_⟩
  show Calls _ _ _ _ fun e w' => e = .returned (.tuple #[.int .u32 ((BB + x - y - c) % BB : Nat), .int .u64 ((if x < y + c then 1 else 0 : Nat) : Int)]) ∧ w = w'
  rw [BB_eq] at hx hy
  by_cases h : x < y + c
  · rw [if_pos h]
    go_enter Tryz.func129, Tryz.ntmps129
    go_wp2
    go_ret2
    exact ⟨by rw [← (sub1_low hx hy hc h).1, ← (sub1_low hx hy hc h).2]; rfl, rfl⟩
  · rw [if_neg h]
    go_enter Tryz.func129, Tryz.ntmps129
    go_wp2
    go_ret2
    exact ⟨by rw [← (sub1_high hx hy hc h).1, ← (sub1_high hx hy hc h).2]; rfl, rfl⟩
end Go.Proofs.YtmcgkglmlfbijaaGreatDoor
namespace Go.Proofs.YtmcgkglmlfbijaaGreatDoor
open Go.RowKit
set_option linter.unusedVariables false
set_option linter.unusedSimpArgs false

theorem two_le_BB : 2 ≤ BB := by rw [BB_eq]; omega

theorem pow_two_le (m : Nat) : BB ^ m * 2 ≤ BB ^ (m + 1) := by rw [Nat.pow_succ]; exact Nat.mul_le_mul_left _ two_le_BB
theorem add_end0 {A B L X Y c : Nat} (hY : X * 2 ≤ Y) (h1 : A < X) (h2 : B < X) (hc : c ≤ 1) (h : L + Y * c = A + B) : L = A + B := by
  rcases Nat.eq_zero_or_pos c with hc0 | hc0
  · subst hc0; simpa using h
  · have : c = 1 := by omega
    subst this
    omega

theorem add_end {la lb l : List Nat} {m c : Nat} (ha : Dig la) (hb : Dig lb) (hm1 : la.length ≤ m) (hm2 : lb.length ≤ m) (hc : c ≤ 1)
    (h : nval l + BB ^ (m + 1) * c = nval (la.take (m + 1)) + nval (lb.take (m + 1))) : nval l = nval la + nval lb := by
  rw [List.take_of_length_le (Nat.le_succ_of_le hm1), List.take_of_length_le (Nat.le_succ_of_le hm2)] at h
  exact add_end0 (pow_two_le m) (Nat.lt_of_lt_of_le (nval_lt la ha) (Nat.pow_le_pow_right BB_pos hm1)) (Nat.lt_of_lt_of_le (nval_lt lb hb) (Nat.pow_le_pow_right BB_pos hm2)) hc h

set_option maxHeartbeats 400000 in
theorem nat_Add (w : World) (va vb : Value) (la lb : List Nat) (ha : NatL w va la) (hb : NatL w vb lb) (hla : la.length ≤ 17592186044416) (hlb : lb.length ≤ 17592186044416) :
    Calls Tryz.prog 98 #[va, vb] w (Ret w fun r w' => NatL w' r (digs (nval la + nval lb))) := by
  have H := Lib.hid (nat_combine w va vb la lb ha hb hla hlb 123 (.inl rfl) _ _ nat_Add1 (fun k l c => nval l + BB ^ k * c = nval (la.take k) + nval (lb.take k)) (by simp [nval])
    (fun k l c h hl hc => add_round hl h (by omega)))
  have HA := Lib.hid ha
  have HB := Lib.hid hb
  clear ha hb
  go_enter Tryz.func98, Tryz.ntmps98
  go_wp2_with fail
  refine H.out.mono ?_
  rintro _ w1 ⟨r, rfl, g, l, c, hi, hl, hd, hc, hr⟩
  have Hr := Lib.hid (show NatL w1 r (digs (nval la + nval lb)) by
    rw [← add_end HA.out.dig HB.out.dig (Nat.le_max_left _ _) (Nat.le_max_right _ _) hc hi]; exact hr)
  clear hr hi hl hd hc
  go_wp2_with fail
  go_ret
  exact ⟨_, rfl, g, Hr.out⟩

theorem sub_round' {la lb l : List Nat} {k c : Nat} (hb : Dig lb) (ha : Dig la) (hl : l.length = k) (h : nval l + nval (lb.take k) = nval (la.take k) + BB ^ k * c) (hc : c ≤ 1) :
    nval (l ++ [(BB + gd la k - gd lb k - c) % BB]) + nval (lb.take (k + 1)) = nval (la.take (k + 1)) + BB ^ (k + 1) * (if gd la k < gd lb k + c then 1 else 0) := by
  have g1 := hb.gd k
  have g2 := ha.gd k
  have := sub_round (x := BB + gd la k - gd lb k - c) hl h (by omega) (by rw [BB_eq] at *; omega)
  rw [this]
  congr 2
  split
  · rw [Nat.div_eq_of_lt (by omega)]
  · rw [show (BB + gd la k - gd lb k - c) / BB = 1 from by rw [BB_eq] at *; omega]

theorem sub_end' {la lb l : List Nat} {m c : Nat} (ha : Dig la) (hb : Dig lb) (hdl : Dig l) (hl : l.length = m + 1) (hm1 : la.length ≤ m) (hm2 : lb.length ≤ m) (hc : c ≤ 1)
    (h : nval l + nval (lb.take (m + 1)) = nval (la.take (m + 1)) + BB ^ (m + 1) * c) (hle : nval lb ≤ nval la) : nval l = nval la - nval lb := by
  rw [List.take_of_length_le (by omega), List.take_of_length_le (by omega)] at h
  have h2 := nval_lt l hdl
  rw [hl] at h2
  generalize BB ^ (m + 1) = X at *
  rcases Nat.eq_zero_or_pos c with hc0 | hc0
  · subst hc0; rw [Nat.mul_zero] at h; omega
  · have : c = 1 := by omega
    subst this; rw [Nat.mul_one] at h
    omega

set_option maxHeartbeats 400000 in
theorem nat_Sub (w : World) (va vb : Value) (la lb : List Nat) (ha : NatL w va la) (hb : NatL w vb lb) (hla : la.length ≤ 17592186044416) (hlb : lb.length ≤ 17592186044416) (hle : nval lb ≤ nval la) :
    Calls Tryz.prog 107 #[va, vb] w (Ret w fun r w' => ∃ x, r = .tuple #[x, .int .i64 0] ∧ NatL w' x (digs (nval la - nval lb))) := by
  have H := Lib.hid (nat_combine w va vb la lb ha hb hla hlb 129 (.inr rfl) _ _ nat_Sub1 (fun k l c => nval l + nval (lb.take k) = nval (la.take k) + BB ^ k * c) (by simp [nval])
    (fun k l c h hl hc => sub_round' hb.dig ha.dig hl h hc))
  have HA := Lib.hid ha
  have HB := Lib.hid hb
  have hc0 : ¬ cmpZ (nval la) (nval lb) < 0 := by rw [cmpZ_neg_iff]; omega
  have Hle := Lib.hid hle
  clear ha hb hle
  go_enter Tryz.func107, Tryz.ntmps107
  go_wp2_with fail
  refine (nat_Cmp _ va vb la lb HA.out HB.out (by omega) (by omega)).mono ?_
  rintro _ _ ⟨rfl, rfl⟩
  go_wp2_with fail
  refine H.out.mono ?_
  rintro _ w1 ⟨r, rfl, g, l, c, hi, hl, hd, hc, hr⟩
  have Hr := Lib.hid (show NatL w1 r (digs (nval la - nval lb)) by
    rw [← sub_end' HA.out.dig HB.out.dig hd hl (Nat.le_max_left _ _) (Nat.le_max_right _ _) hc hi Hle.out]; exact hr)
  clear hr hi hl hd hc
  go_wp2_with fail
  go_ret2
  exact ⟨_, rfl, g, _, rfl, Hr.out⟩

set_option maxHeartbeats 400000 in
theorem nat_Sub_lt (w : World) (va vb : Value) (la lb : List Nat) (ha : NatL w va la) (hb : NatL w vb lb) (hla : la.length ≤ 17592186044416) (hlb : lb.length ≤ 17592186044416) (hlt : nval la < nval lb) :
    Calls Tryz.prog 107 #[va, vb] w fun e w' => e = .returned (.tuple #[.slice none 0 0, .int .i64 2]) ∧ w = w' := by
  have HA := Lib.hid ha
  have HB := Lib.hid hb
  have Hc := Lib.hid (cmpZ_lt hlt)
  clear ha hb hlt
  go_enter Tryz.func107, Tryz.ntmps107
  go_wp2_with fail
  refine (nat_Cmp _ va vb la lb HA.out HB.out (by omega) (by omega)).mono ?_
  rintro _ _ ⟨rfl, rfl⟩
  rw [Hc.out]
  go_wp2_with fail
  go_ret2
  exact ⟨rfl, rfl⟩

/-- slices.Clone at api.Nat -/
theorem nat_Clone (w : World) (v : Value) (l : List Nat) (h : NatL w v l) (hlen : l.length ≤ 17592186044416) :
    Calls Tryz.prog 124 #[v] w (Ret w fun r w' => NatL w' r l) := by
  have HA := Lib.hid h
  have hE := fun (w : World) (a : Option Addr) (n c : Nat) => Lib.run_eql_slice_nil (P := Tryz.prog) w 23 64 a n c 0 0 (by kernel_rfl)
  obtain ⟨h0, p, c, rfl, h1, h2, h3⟩ := h
  rcases h3 with ⟨rfl, rfl⟩ | ⟨b, o, rfl, -⟩
  · have hl : l = [] := List.eq_nil_of_length_eq_zero (by omega)
    subst hl
    go_enter Tryz.func124, Tryz.ntmps124
    go_wp2_with fail
    go_ret
    exact ⟨_, rfl, Gr.refl _, NatL.nil _⟩
  · obtain ⟨n, hn⟩ : ∃ n, l.length = n := ⟨_, rfl⟩
    rw [hn] at HA h1 hlen ⊢
    have Hn := Lib.hid hn
    clear hn h0
    go_enter Tryz.func124, Tryz.ntmps124
    go_wp2_with (at_builtin; go_must (refine wpList_appendN rfl _ _ 23 rfl (by kernel_rfl) w.heap.size _ (.slice (some ⟨b, o, none⟩) n c) [] l rfl (OwnN.made0 w _ (Nat.le_refl _)) rfl (HA.out.grow ((Gr.refl w).alloc _)) (by rw [Hn.out]; simp; omega) (by simp) ?_; intro v' w' hown' hgrow hb'))
    go_ret
    exact ⟨_, rfl, ((Gr.refl _).alloc _).own hgrow, hown'.read⟩

set_option maxHeartbeats 400000 in
theorem nat_fresh (w : World) (v : Value) (l : List Nat) (h : NatL w v l) (hlen : l.length ≤ 17592186044416) :
    Calls Tryz.prog 101 #[v] w (Ret w fun r w' => NatL w' r (digs (nval l))) := by
  have HA := Lib.hid h
  have HL := Lib.hid (trimL_length l h.dig)
  clear h
  go_enter Tryz.func101, Tryz.ntmps101
  go_wp2_with fail
  refine (nat_trim _ _ l HA.out).mono ?_
  rintro _ _ ⟨⟨r, kk, rfl, hr⟩, rfl⟩
  have Hr := Lib.hid hr
  clear hr
  go_wp2_with fail
  refine (nat_Clone _ _ _ Hr.out (Nat.le_trans HL.out hlen)).mono ?_
  rintro _ w1 ⟨r', rfl, g, hr'⟩
  have Hr' := Lib.hid hr'
  clear hr'
  go_wp2_with fail
  go_ret
  exact ⟨_, rfl, g, Hr'.out⟩
end Go.Proofs.YtmcgkglmlfbijaaGreatDoor

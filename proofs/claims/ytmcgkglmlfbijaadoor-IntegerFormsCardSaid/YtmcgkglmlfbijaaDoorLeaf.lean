/-
  The lower functions of the numbers: each shows what it computes.
-/
import Derived.Test.YtmcgkglmlfbijaaDoorOwn
namespace Go.Proofs.YtmcgkglmlfbijaaDoor
open Go.RowKit
set_option linter.unusedVariables false
set_option linter.unusedSimpArgs false

theorem ret_bool {a b : Bool} (h : a = b) : Ending.returned (.bool a) = .returned (.bool b) := by rw [h]
theorem ret_int {k : IntKind} {a b : Int} (h : a = b) : Ending.returned (.int k a) = .returned (.int k b) := by rw [h]

set_option maxHeartbeats 400000 in
theorem ref_digit (w : World) (v : Value) (l : List Nat) (i : Nat) (h : NatL w v l) (hi : i ≤ 140737488351232) :
    Calls Tryd.prog 50 #[v, .int .i64 i] w fun e w' => e = .returned (.int .u64 (gd l i)) ∧ w = w' := by
  obtain ⟨h0, p, c, rfl, h1, h2, h3⟩ := h
  have hd := h0.gd i
  rw [BB_eq] at hd
  by_cases hlt : i < l.length
  · rcases h3 with ⟨_, h3⟩ | ⟨b, o, rfl, hc⟩
    · omega
    have hc' := hc i hlt
    clear hc
    go_enter Tryd.func50, Tryd.ntmps50
    go_wp2
    go_ret
    exact ⟨rfl, rfl⟩
  · have h4 : gd l i = 0 := gd_none (Nat.le_of_not_lt hlt)
    rw [h4]
    clear h3 h4
    go_enter Tryd.func50, Tryd.ntmps50
    go_wp2
    go_ret
    exact ⟨rfl, rfl⟩

set_option maxHeartbeats 400000 in
theorem nat_digit (w : World) (v : Value) (l : List Nat) (i : Nat) (h : NatL w v l) (hi : i ≤ 140737488351232) :
    Calls Tryd.prog 47 #[v, .int .i64 i] w fun e w' => e = .returned (.int .u64 (gd l i)) ∧ w = w' := by
  obtain ⟨h0, p, c, rfl, h1, h2, h3⟩ := h
  have hd := h0.gd i
  rw [BB_eq] at hd
  by_cases hlt : i < l.length
  · rcases h3 with ⟨_, h3⟩ | ⟨b, o, rfl, hc⟩
    · omega
    have hc' := hc i hlt
    clear hc
    go_enter Tryd.func47, Tryd.ntmps47
    go_wp2
    go_ret
    exact ⟨rfl, rfl⟩
  · have h4 : gd l i = 0 := gd_none (Nat.le_of_not_lt hlt)
    rw [h4]
    clear h3 h4
    go_enter Tryd.func47, Tryd.ntmps47
    go_wp2
    go_ret
    exact ⟨rfl, rfl⟩

set_option maxHeartbeats 400000 in
theorem ref_Same (w : World) (va vb : Value) (la lb : List Nat) (ha : NatL w va la) (hb : NatL w vb lb) :
    Calls Tryd.prog 32 #[va, vb] w (Ret w fun r _ => r = .bool (decide (la = lb))) := by
  have HA := Lib.hid ha
  have HB := Lib.hid hb
  obtain ⟨h0, p, c, rfl, h1, h2, -⟩ := ha
  obtain ⟨k0, q, d, rfl, k1, k2, -⟩ := hb
  by_cases hn : la.length = lb.length
  · have Hn := Lib.hid hn
    obtain ⟨n, hn1⟩ : ∃ n, la.length = n := ⟨_, rfl⟩
    rw [← hn, hn1]
    rw [hn1] at h1
    have Hn1 := Lib.hid hn1
    clear hn hn1 h0 k0
    go_enter Tryd.func32, Tryd.ntmps32
    go_wp2
    go_loopw [5] (fun i w1 => ∃ k : Nat, k ≤ n ∧ i = .int .i64 k ∧ la.take k = lb.take k ∧ Gr w w1) (fun i _ => n - (intOf i).toNat)
    case atStart => exact ⟨0, Nat.zero_le _, rfl, by simp, Gr.refl w⟩
    case round =>
      obtain ⟨k, hk, rfl, hp, hg⟩ := hrel
      have Hp := Lib.hid hp; clear hp
      by_cases hlt : k < n
      · have Hka := Lib.hid (show k < la.length by rw [Hn1.out]; exact hlt)
        have Hkb := Lib.hid (show k < lb.length by rw [← Hn.out, Hn1.out]; exact hlt)
        obtain ⟨b, o, rfl, c1⟩ := (HA.out.grow hg).at k Hka.out
        obtain ⟨b', o', rfl, c2⟩ := (HB.out.grow hg).at k Hkb.out
        have Hg := Lib.hid hg; clear hg
        go_wp2
        go_quiet (fail)
        go_wp2
        · go_ret
          rename_i ht
          refine ⟨_, rfl, Hg.out.drewN nq, ?_⟩
          have h2 : ¬ la = lb := fun e => by rw [e] at ht; simp at ht
          simp [h2]
        · rename_i ht
          go_roundw
          case rel =>
            refine ⟨k + 1, by omega, by go_num, ?_, Hg.out.drewN nq⟩
            rw [take_succ_iff Hka.out Hkb.out Hp.out]
            have h3 : (gd la k : Int) = gd lb k := by simpa using ht
            omega
          case measure => simp [intOf]; omega
      · go_wp2
        go_ret
        refine ⟨_, rfl, hg, ?_⟩
        obtain rfl : k = n := by omega
        have h1 := Hp.out
        have h2 : la = lb := by
          rw [List.take_of_length_le (by rw [Hn1.out]; omega), List.take_of_length_le (by rw [← Hn.out, Hn1.out]; omega)] at h1
          exact h1
        simp [h2]
  · go_enter Tryd.func32, Tryd.ntmps32
    go_wp2
    go_ret
    refine ⟨_, rfl, Gr.refl w, ?_⟩
    have h2 : ¬ la = lb := fun e => hn (by rw [e])
    simp [h2]

theorem trim_step {l : List Nat} {k : Nat} (hk : k < l.length) (h : trimL (l.take (k + 1)) = trimL l) (h0 : gd l k = 0) : trimL (l.take k) = trimL l := by
  rw [← h, List.take_succ_eq_append_getElem hk, ← gd_get hk, h0, trimL_snoc_zero]
theorem trim_last {l : List Nat} {k : Nat} (hd : Dig l) (hk : k < l.length) (h : trimL (l.take (k + 1)) = trimL l) (h0 : gd l k ≠ 0) : l.take (k + 1) = trimL l := by
  rw [← h, List.take_succ_eq_append_getElem hk, ← gd_get hk, trimL_snoc _ _ (hd.take k) (hd.gd k) h0]
theorem trim_none {l : List Nat} (h : trimL (l.take 0) = trimL l) : l.take 0 = trimL l := by
  rw [← h]; simp [trimL, nval, digs_zero]
theorem digs_trimL (l : List Nat) : trimL l = digs (nval l) := rfl

set_option maxHeartbeats 400000 in
theorem ref_Trim (w : World) (v : Value) (l : List Nat) (h : NatL w v l) (hlen : l.length ≤ 35184372088832) :
    Calls Tryd.prog 48 #[v] w (Ret w fun r w' => NatL w' r (trimL l)) := by
  have HA := Lib.hid h
  obtain ⟨h0, p, c, rfl, h1, h2, -⟩ := h
  have H0 := Lib.hid h0
  obtain ⟨n, hn⟩ : ∃ n, l.length = n := ⟨_, rfl⟩
  have Hn := Lib.hid hn
  rw [hn] at h1 hlen ⊢
  rw [hn] at HA
  clear hn h0
  go_enter Tryd.func48, Tryd.ntmps48
  go_wp2
  go_loopw [3] (fun i w1 => ∃ k : Nat, k ≤ n ∧ i = .int .i64 k ∧ trimL (l.take k) = trimL l ∧ w1 = w) (fun i _ => (intOf i).toNat)
  case atStart => exact ⟨n, Nat.le_refl _, rfl, by rw [List.take_of_length_le (by rw [Hn.out]; exact Nat.le_refl _)], rfl⟩
  case round =>
    obtain ⟨k, hk, rfl, hp, rfl⟩ := hrel
    have Hp := Lib.hid hp; clear hp
    have hbase : wr.heap.size ≤ (wr.alloc (.cells #[] 52)).heap.size := by simp
    by_cases hk0 : k = 0
    · obtain rfl := hk0
      have ht := Lib.hid (trim_none Hp.out)
      go_wp2_with (at_builtin; refine wpList_appendN rfl _ _ 23 rfl (by kernel_rfl) wr.heap.size _ (.slice p 0 c) [] (l.take 0) rfl (OwnN.made0 wr _ (Nat.le_refl _)) rfl ((HA.out.take 0 c (by omega) (by omega) (Nat.le_refl _)).grow ((Gr.refl wr).alloc _)) (by simp) hbase ?_; intro v' w' hown' hgrow hb')
      go_ret
      refine ⟨_, rfl, ((Gr.refl _).alloc _).own hgrow, ?_⟩
      rw [← ht.out]; exact hown'.read
    · obtain ⟨j, rfl⟩ : ∃ j, k = j + 1 := ⟨k - 1, by omega⟩
      obtain ⟨b, o, rfl, hc⟩ := HA.out.at j (by rw [Hn.out]; omega)
      by_cases hd : gd l j = 0
      · have e0 : ((gd l j : Int) == 0) = true := by rw [hd]; rfl
        have Hd := Lib.hid hd; clear hd
        go_wp2
        go_roundw
        case rel =>
          exact ⟨j, by omega, rfl, trim_step (by rw [Hn.out]; omega) Hp.out Hd.out, trivial⟩
        case measure => simp [intOf]
      · have e0 : ((gd l j : Int) == 0) = false := by simpa using hd
        have Hd := Lib.hid hd; clear hd
        go_wp2_with (at_builtin; refine wpList_appendN rfl _ _ 23 rfl (by kernel_rfl) wr.heap.size _ (.slice _ (j + 1) c) [] (l.take (j + 1)) rfl (OwnN.made0 wr _ (Nat.le_refl _)) rfl ((HA.out.take (j + 1) c (by rw [Hn.out]; omega) (by omega) (Nat.le_refl _)).grow ((Gr.refl wr).alloc _)) (by rw [List.length_take]; simp; omega) hbase ?_; intro v' w' hown' hgrow hb')
        go_ret
        refine ⟨_, rfl, ((Gr.refl _).alloc _).own hgrow, ?_⟩
        rw [← trim_last H0.out (by rw [Hn.out]; omega) Hp.out Hd.out]; exact hown'.read

set_option maxHeartbeats 400000 in
theorem ref_Cmp (w : World) (va vb : Value) (la lb : List Nat) (ha : NatL w va la) (hb : NatL w vb lb) (hla : la.length ≤ 35184372088832) (hlb : lb.length ≤ 35184372088832) :
    Calls Tryd.prog 75 #[va, vb] w (Ret w fun r _ => r = .int .i64 (cmpZ (nval la) (nval lb))) := by
  have HA := Lib.hid ha
  have HB := Lib.hid hb
  have Hla := Lib.hid hla
  have Hlb := Lib.hid hlb
  have da := Lib.hid (trimL_length la ha.dig)
  have db := Lib.hid (trimL_length lb hb.dig)
  clear ha hb hla hlb
  go_enter Tryd.func75, Tryd.ntmps75
  go_wp2_with fail
  refine (ref_Trim _ va la HA.out Hla.out).mono ?_
  rintro _ w1 ⟨ra, rfl, g1, hra⟩
  have HRA := Lib.hid hra
  have G1 := Lib.hid g1
  clear hra g1
  go_wp2_with fail
  refine (ref_Trim _ vb lb (HB.out.grow G1.out) Hlb.out).mono ?_
  rintro _ w2 ⟨rb, rfl, g2, hrb⟩
  have HRA' := Lib.hid (HRA.out.grow g2)
  have HRB := Lib.hid hrb
  have G2 := Lib.hid (G1.out.trans g2)
  clear hrb g2 HRA G1
  obtain ⟨p, c, rfl, a1, a2, a3⟩ := HRA'.out.parts
  obtain ⟨q, d, rfl, b1, b2, b3⟩ := HRB.out.parts
  obtain ⟨xa, hxa⟩ : ∃ xa, trimL la = xa := ⟨_, rfl⟩
  obtain ⟨xb, hxb⟩ : ∃ xb, trimL lb = xb := ⟨_, rfl⟩
  have Va := Lib.hid (show nval la = nval xa by rw [← hxa]; exact (nval_digs _).symm)
  have Vb := Lib.hid (show nval lb = nval xb by rw [← hxb]; exact (nval_digs _).symm)
  have Da := Lib.hid (show xa = digs (nval xa) by rw [← hxa]; unfold trimL; rw [nval_digs])
  have Db := Lib.hid (show xb = digs (nval xb) by rw [← hxb]; unfold trimL; rw [nval_digs])
  rw [hxa] at HRA' a1 a3
  rw [hxb] at HRB b1 b3
  simp only [hxa, hxb]
  have A3 := Lib.hid a3
  have B3 := Lib.hid b3
  clear a3 b3 hxa hxb da db
  obtain ⟨na, hna⟩ : ∃ n, xa.length = n := ⟨_, rfl⟩
  obtain ⟨nb, hnb⟩ : ∃ n, xb.length = n := ⟨_, rfl⟩
  rw [hna] at HRA' a1
  rw [hnb] at HRB b1
  simp only [hna, hnb]
  have Hna := Lib.hid hna
  have Hnb := Lib.hid hnb
  clear hna hnb
  rcases Nat.lt_trichotomy na nb with hn | hn | hn
  · have t1 : ((na : Int) != nb) = true := by simp; omega
    have hv := Lib.hid (lt_of_digs_shorter (a := nval xa) (b := nval xb) (by rw [← Da.out, ← Db.out, Hna.out, Hnb.out]; exact hn))
    go_wp2
    go_ret
    exact ⟨_, rfl, G2.out, by rw [Va.out, Vb.out, cmpZ_lt hv.out]; rfl⟩
  · subst hn
    go_wp2
    go_loopw [5] (fun i w1 => ∃ k : Nat, k ≤ na ∧ i = .int .i64 ((k : Int) - 1) ∧ nval (xa.drop k) = nval (xb.drop k) ∧ Gr w w1 ∧ Gr w2 w1) (fun i _ => ((intOf i) + 1).toNat)
    case atStart => exact ⟨na, Nat.le_refl _, rfl, by rw [List.drop_eq_nil_of_le (by rw [Hna.out]; exact Nat.le_refl _), List.drop_eq_nil_of_le (by rw [Hnb.out]; exact Nat.le_refl _)], G2.out, Gr.refl _⟩
    case round =>
      obtain ⟨k, hk, rfl, hp, hg, hg2⟩ := hrel
      have Hp := Lib.hid hp
      have Hg := Lib.hid hg
      have Hg2 := Lib.hid hg2
      clear hp hg hg2
      by_cases hk0 : k = 0
      · obtain rfl := hk0
        go_wp2
        go_ret
        refine ⟨_, rfl, Hg.out, ?_⟩
        have h0 : nval xa = nval xb := by simpa using Hp.out
        rw [Va.out, Vb.out, cmpZ_eq h0]; rfl
      · obtain ⟨j, rfl⟩ : ∃ j, k = j + 1 := ⟨k - 1, by omega⟩
        obtain ⟨b, o, rfl, c1⟩ := (HRA'.out.grow Hg2.out).at j (by rw [Hna.out]; omega)
        obtain ⟨b', o', rfl, c2⟩ := (HRB.out.grow Hg2.out).at j (by rw [Hnb.out]; omega)
        rcases Nat.lt_trichotomy (gd xa j) (gd xb j) with hd | hd | hd
        · have t1 : ((gd xa j : Int) != gd xb j) = true := by simp; omega
          have hv := Lib.hid (nval_lt_of_digit A3.out B3.out Hp.out hd)
          go_wp2
          go_quiet (fail)
          go_wp2
          go_quiet (fail)
          go_wp2
          go_ret
          exact ⟨_, rfl, (Hg.out.drewN _).drewN _, by rw [Va.out, Vb.out, cmpZ_lt hv.out]; rfl⟩
        · have t1 : ((gd xa j : Int) != gd xb j) = false := by rw [hd]; simp
          have hv := Lib.hid (nval_drop_eq Hp.out hd)
          clear hd
          go_wp2
          go_quiet (fail)
          go_wp2
          go_roundw
          case rel => exact ⟨j, by omega, by go_num, hv.out, Hg.out.drewN _, Hg2.out.drewN _⟩
          case measure => simp [intOf]
        · have t1 : ((gd xa j : Int) != gd xb j) = true := by simp; omega
          have hv := Lib.hid (nval_lt_of_digit B3.out A3.out Hp.out.symm hd)
          go_wp2
          go_quiet (fail)
          go_wp2
          go_quiet (fail)
          go_wp2
          go_ret
          exact ⟨_, rfl, (Hg.out.drewN _).drewN _, by rw [Va.out, Vb.out, cmpZ_gt hv.out]; rfl⟩
  · have t1 : ((na : Int) != nb) = true := by simp; omega
    have hv := Lib.hid (lt_of_digs_shorter (a := nval xb) (b := nval xa) (by rw [← Da.out, ← Db.out, Hna.out, Hnb.out]; exact hn))
    go_wp2
    go_ret
    exact ⟨_, rfl, G2.out, by rw [Va.out, Vb.out, cmpZ_gt hv.out]; rfl⟩
end Go.Proofs.YtmcgkglmlfbijaaDoor

/- Texts: LeafL. -/
import Derived.Lib.ItoaNum
import Derived.Test.YtcjgimlcefhhmaaGreatDoorW5
set_option linter.unusedVariables false
set_option linter.unusedSimpArgs false
set_option maxRecDepth 100000
set_option maxHeartbeats 12800000
namespace Go.Proofs.YtcjgimlcefhhmaaGreatDoor
open Go.RowKit
theorem ξ6f {x : Nat} (h : x ≠ 0) (hx : x < BB) : 1 ≤ Lib.bitLen x ∧ Lib.bitLen x ≤ 32 ∧ 2 ^ (Lib.bitLen x - 1) ≤ x ∧ x < 2 ^ Lib.bitLen x := by
 have h1 := Lib.bitLenAux_bounds 64 x (by rw [ξ5] at hx; omega) h
 exact ⟨h1.1, ξ4r hx, h1.2.1, h1.2.2⟩
theorem ξ99 {B k : Nat} (hk : (digs B).length = k + 2) :
  ∃ s : Nat, s ≤ 31 ∧ (32 - (Lib.bitLen (gd (digs B) (k + 1)) : Int) = (s : Int)) ∧ (digs (B * 2 ^ s)).length = k + 2 ∧ 2147483648 ≤ gd (digs (B * 2 ^ s)) (k + 1) := by
 obtain ⟨t, ht⟩ : ∃ t, gd (digs B) (k + 1) = t := ⟨_, rfl⟩
 have ht0 : t ≠ 0 := by
  have := ξ3I (n := B) (fun e => by rw [e, ξF] at hk; cases hk)
  rw [hk] at this
  rw [← ht]; exact this
 have htB : t < BB := by rw [← ht]; exact (Dig.digs B).gd _
 obtain ⟨b1, b2, b3, b4⟩ := ξ6f ht0 htB
 rw [ht]
 obtain ⟨c, hc⟩ : ∃ c, Lib.bitLen t = c := ⟨_, rfl⟩
 rw [hc] at b1 b2 b3 b4 ⊢
 have hT : 2 ^ c * 2 ^ (32 - c) = BB := by rw [← Nat.pow_add, show c + (32 - c) = 32 from by omega, ξ5]
 have hT2 : 2 ^ (c - 1) * 2 ^ (32 - c) = 2147483648 := by rw [← Nat.pow_add, show c - 1 + (32 - c) = 31 from by omega]
 have htop := ξ2I (digs B) (k + 1) hk
 rw [ξ4, ht] at htop
 have htk := ξ0r (Dig.digs B) (k + 1)
 have hX : 0 < BB ^ (k + 1) := Nat.pow_pos ξv
 generalize nval ((digs B).take (k + 1)) = R at *
 obtain ⟨X, hXe⟩ : ∃ X, BB ^ (k + 1) = X := ⟨_, rfl⟩
 obtain ⟨S, hS⟩ : ∃ S, 2 ^ (32 - c) = S := ⟨_, rfl⟩
 have hS0 : 1 ≤ S := by rw [← hS]; exact Nat.one_le_two_pow
 rw [hS] at hT hT2
 rw [hXe] at htop htk hX
 have h1 : 2147483648 ≤ t * S := by rw [← hT2]; exact Nat.mul_le_mul_right _ b3
 have h2 : (t + 1) * S ≤ BB := by rw [← hT]; exact Nat.mul_le_mul_right _ b4
 have hBS : B * S = R * S + X * (t * S) := by rw [htop, Nat.add_mul, Nat.mul_assoc]
 have hlow : X * 2147483648 ≤ B * S := by rw [hBS]; have := Nat.mul_le_mul_left X h1; omega
 have hup : B * S < X * BB := by
  have h3 := Nat.mul_le_mul_left X h2
  rw [Nat.add_mul, Nat.one_mul, Nat.mul_add] at h3
  have h4 : (R + 1) * S ≤ X * S := Nat.mul_le_mul_right _ htk
  rw [Nat.add_mul, Nat.one_mul] at h4
  rw [hBS]; omega
 have hlen : (digs (B * S)).length = k + 2 := by
  refine ξ2S (k := k + 1) ?_ ?_
  ·rw [hXe]
   have : X * 1 ≤ X * 2147483648 := Nat.mul_le_mul_left _ (by omega)
   omega
  ·rw [Nat.pow_succ, hXe]; exact hup
 refine ⟨32 - c, by omega, by omega, by rw [hS]; exact hlen, ?_⟩
 rw [hS]
 have e := ξ2I (digs (B * S)) (k + 1) hlen
 rw [ξ4] at e
 have e2 := ξ0r (Dig.digs (B * S)) (k + 1)
 rw [hXe] at e e2
 rw [e] at hlow
 clear e hup hBS
 generalize gd (digs (B * S)) (k + 1) = f at *
 generalize nval ((digs (B * S)).take (k + 1)) = R' at *
 refine Nat.le_of_lt_succ (Nat.lt_of_mul_lt_mul_left (a := X) ?_)
 show X * 2147483648 < X * (f + 1)
 rw [Nat.mul_add, Nat.mul_one]
 omega
theorem ξ8K {ul vl : List Nat} {k i : Nat} (hu : Dig ul) (hv : Dig vl) (hvl : vl.length = k + 2) (hf : 2147483648 ≤ gd vl (k + 1)) (hN : nval ul < BB ^ (i + 1) * nval vl) :
  gd ul (i + k + 2) ≤ gd vl (k + 1) ∧ nval ul < BB ^ (i + (k + 2 + 1)) ∧
  (qhat (gd ul (i + k + 2)) (gd ul (i + k + 1)) (gd ul (i + k)) (gd vl (k + 1)) (gd vl k) = 0 ∨ BB ^ i * ((qhat (gd ul (i + k + 2)) (gd ul (i + k + 1)) (gd ul (i + k)) (gd vl (k + 1)) (gd vl k) - 1) * nval vl) ≤ nval ul) ∧
  nval ul < BB ^ i * ((qhat (gd ul (i + k + 2)) (gd ul (i + k + 1)) (gd ul (i + k)) (gd vl (k + 1)) (gd vl k) + 1) * nval vl) := by
 have hV := ξ9v vl k hvl
 have hVl := ξ0r hv k
 have hVlt := ξ1a vl hv
 rw [hvl] at hVlt
 have hN2 : nval ul < BB ^ (i + (k + 2 + 1)) := by
  refine Nat.lt_of_lt_of_le hN ?_
  rw [show i + (k + 2 + 1) = (i + 1) + (k + 2) from by omega, Nat.pow_add BB (i + 1)]
  exact Nat.mul_le_mul_left _ (Nat.le_of_lt hVlt)
 have hU := ξ9n hu (i + k) (by rw [show i + k + 3 = i + (k + 2 + 1) from by omega]; exact hN2)
 have hUl := ξ0r hu (i + k)
 have hsp := ξa1 (I := BB ^ i) (P := BB ^ k) (N := nval ul) (Nl := nval (ul.take (i + k))) (V := nval vl) (Vl := nval (vl.take k)) (x := gd ul (i + k + 2)) (y := gd ul (i + k + 1)) (z := gd ul (i + k)) (f := gd vl (k + 1)) (s := gd vl k)
  (by rw [← Nat.pow_add]; exact hU) (by rw [← Nat.pow_add]; exact hUl) hV hVl (by omega) (by rw [← Nat.mul_assoc, ← Nat.pow_succ]; exact hN)
 refine ⟨?_, hN2, .inr hsp.1, hsp.2⟩
 refine Nat.le_of_not_lt fun hlt => ?_
 -- x ≥ f + 1
 have h1 : nval vl < BB ^ (k + 1) * (gd vl (k + 1) + 1) := by
  rw [ξ2I vl (k + 1) hvl, Nat.mul_add]
  have := ξ0r hv (k + 1)
  omega
 have h2 : BB ^ (i + 1) * nval vl ≤ BB ^ (i + 1) * (BB ^ (k + 1) * (gd vl (k + 1) + 1)) := Nat.mul_le_mul_left _ (Nat.le_of_lt h1)
 have h3 : BB ^ (i + 1) * (BB ^ (k + 1) * (gd vl (k + 1) + 1)) ≤ BB ^ (i + k + 2) * gd ul (i + k + 2) := by
  rw [← Nat.mul_assoc, ← Nat.pow_add, show i + 1 + (k + 1) = i + k + 2 from by omega]
  exact Nat.mul_le_mul_left _ hlt
 have h4 : BB ^ (i + k + 2) * gd ul (i + k + 2) ≤ nval ul := by
  have a := ξ0B ul (i + k + 2)
  rw [ξV, Nat.mul_add] at a
  omega
 omega
theorem ξ5d (w : World) (va vb : Value) (la lb : List Nat) (ha : NatL w va la) (hb : NatL w vb lb) (hla : la.length ≤ 1099511627776) (hlb : lb.length ≤ 1099511627776) (hle : nval lb ≤ nval la) (k : Nat) (hk : (digs (nval lb)).length = k + 2) :
  Calls Tryz.prog 233 #[va, vb] w (Ret w fun r w' => ∃ x y, r = .tuple #[x, y, .int .i64 0] ∧ NatL w' x (digs (nval la / nval lb)) ∧ NatL w' y (digs (nval la % nval lb))) := by
 have HA := ξ ha
 have HB := ξ hb
 have Hle := ξ hle
 have HLa := ξ (ξN la ha.dig)
 have HLb := ξ (ξN lb hb.dig)
 obtain ⟨cz, hcz⟩ : ∃ cz, cmpZ (nval la) (nval lb) = cz := ⟨_, rfl⟩
 have hc0 : ¬ cz < 0 := by rw [← hcz, ξ1K]; omega
 have Hcz := ξ hcz
 obtain ⟨s, hs31, hs, hVlen, hVtop⟩ := ξ99 hk
 obtain ⟨na, hna⟩ : ∃ n, (digs (nval la)).length = n := ⟨_, rfl⟩
 have hkn : k + 2 ≤ na := by
  rw [← hna, ← hk]
  refine Nat.le_of_not_lt fun h => ?_
  have := ξ3L h
  omega
 have hna2 : na ≤ 1099511627776 := by rw [← hna]; exact Nat.le_trans HLa.out hla
 have Hna := ξ hna
 have Hk := ξ hk
 have Hs := ξ hs
 have HVlen := ξ hVlen
 have HVtop := ξ hVtop
 have htop := (Dig.digs (nval lb)).gd (k + 1)
 obtain ⟨top, htp⟩ : ∃ top, gd (digs (nval lb)) (k + 1) = top := ⟨_, rfl⟩
 rw [htp, ξ5] at htop
 have Htp := ξ htp
 clear ha hb hle hcz hna hk hs hVlen hVtop hla hlb htp
 go_enter Tryz.func233, Tryz.ntmps233
 go_wp2_with fail
 refine (ξ09 _ _ la HA.out).mono ?_
 rintro _ _ ⟨⟨p, na', rfl, hr⟩, rfl⟩
 obtain rfl : na = na' := by rw [← hr.len, ← Hna.out]; rfl
 have Hr := ξ hr
 clear hr
 go_wp2_with fail
 refine (ξ09 _ _ lb HB.out).mono ?_
 rintro _ _ ⟨⟨q, nb, rfl, hr2⟩, rfl⟩
 obtain rfl : nb = k + 2 := by rw [← hr2.len, ← Hk.out]; rfl
 have Hr2 := ξ hr2
 clear hr2
 go_wp2_with fail
 refine (ξ1R _ _ _ _ _ Hr.out Hr2.out (by rw [trimL, Hna.out]; omega) (by rw [trimL, Hk.out]; omega)).mono ?_
 rintro _ _ ⟨rfl, rfl⟩
 have e1 : cmpZ (nval (trimL la)) (nval (trimL lb)) = cz := by rw [← Hcz.out, trimL, trimL, ξ4, ξ4]
 rw [e1]
 clear e1
 obtain ⟨b, o, rfl, hc⟩ := Hr2.out.at (k + 1) (by rw [trimL, Hk.out]; omega)
 rw [show gd (trimL lb) (k + 1) = top from Htp.out] at hc
 go_wp2_with fail
 have hs' : 32 - (Lib.bitLen top : Int) = s := by rw [← Htp.out]; exact Hs.out
 refine (Tryz.bits_LeadingZeros32 _ _ (by omega) (by omega)).mono ?_
 rintro _ w0 ⟨rfl, hw0⟩
 obtain rfl : w = w0 := hw0.symm
 rw [Int.toNat_natCast, hs']
 clear hs'
 go_wp2_with fail
 refine (ξ5Q _ _ (trimL la) s Hr.out (by rw [trimL, Hna.out]; omega) hs31).mono ?_
 rintro _ w1 ⟨rfl, g1, ul, hu1, hu2, hu3⟩
 have G1 := ξ g1
 have Hrow1 := ξ hu1
 have hla' : (trimL la).length = na := Hna.out
 rw [hla'] at hu2 ⊢
 have Hul := ξ hu2
 have Huv := ξ (show nval ul = nval la * 2 ^ s by rw [hu3, trimL, ξ4])
 have Hr2' := ξ (Hr2.out.grow g1)
 clear g1 hu1 hu2 hu3 hla'
 go_wp2_with fail
 refine (ξ5Q _ _ (trimL lb) s Hr2'.out (by rw [trimL, Hk.out]; omega) hs31).mono ?_
 rintro _ w2 ⟨rfl, g2, vx, hv1, hv2, hv3⟩
 have G2 := ξ (G1.out.trans g2)
 have Hrow1' := ξ (Hrow1.out.grow g2)
 have hlb' : (trimL lb).length = k + 2 := Hk.out
 rw [hlb'] at hv2 ⊢
 have hread := hv1.read (k + 2 + 1) (by rw [hv2]; exact Nat.le_refl _) (by omega)
 rw [hv2] at hread
 have Hlt1 := ξ (Hrow1.out.lt)
 have HVblk := ξ (hv1.lt)
 go_wp2_with fail
 refine (ξ3O _ _ _ _ vx hread).mono ?_
 rintro _ _ ⟨⟨kk, rfl, hv⟩, rfl⟩
 have hvx : trimL vx = digs (nval lb * 2 ^ s) := by rw [trimL, hv3, trimL, ξ4]
 rw [hvx] at hv
 obtain rfl : kk = k + 2 := by rw [← hv.len]; exact HVlen.out
 have HV := ξ hv
 obtain ⟨gu, hgu⟩ : ∃ gu, w.heap.size = gu := ⟨_, rfl⟩
 obtain ⟨gv, hgv⟩ : ∃ gv, w1.heap.size = gv := ⟨_, rfl⟩
 rw [hgu] at Hrow1' Hlt1
 rw [hgv] at HV Hlt1 HVblk
 rw [hgu, hgv]
 have Hgu := ξ hgu
 clear hread hv1 hv2 hv3 hlb' hv hvx Hrow1 Hr2' g2 hgu hgv
 have hgne : gu < gv := Hlt1.out
 have hgvlt : gv < w2.heap.size := HVblk.out
 obtain ⟨M, hM⟩ : ∃ M, M + (k + 2) = na + 1 := ⟨na - k - 1, by omega⟩
 obtain ⟨gq, hgq⟩ : ∃ gq, w2.heap.size = gq := ⟨_, rfl⟩
 have Hgq := ξ hgq
 have hgvq : gv < gq := by omega
 clear hgq hgvlt hw0
 go_wp2_with (at_make; go_must (refine ξ2M rfl _ _ 64 rfl (by kernel_rfl) M _ rfl rfl (by omega) (by omega) ?_; rw [Hgq.out]; intro w3 hq3 hgr3 hsz3))
 obtain ⟨V, hV⟩ : ∃ V, nval lb * 2 ^ s = V := ⟨_, rfl⟩
 have HVe := ξ hV
 rw [hV] at HV HVlen HVtop
 obtain ⟨vl, hvl⟩ : ∃ vl, digs V = vl := ⟨_, rfl⟩
 rw [hvl] at HV HVlen HVtop
 have Hnv := ξ (show nval vl = V by rw [← hvl, ξ4])
 have HVd := ξ (show Dig vl by rw [← hvl]; exact Dig.digs V)
 have Hrow3 := ξ (Hrow1'.out.grow hgr3)
 have HV3 := ξ (HV.out.grow hgr3)
 have Hq3 := ξ hq3
 have G3 := ξ (G2.out.trans hgr3)
 have hsz : w.heap.size ≤ gu := by rw [Hgu.out]; exact Nat.le_refl _
 have HG0 := ξ (show w.heap.size ≤ w3.heap.size from G3.out.size)
 have Hinit := ξ (show nval ul < V * BB ^ M by
  have h1 : nval la < BB ^ na := by have := ξc (n := nval la) (k := na) (by rw [Hna.out]; exact Nat.le_refl _); exact this
  have h2 : 2 ^ s ≤ 2147483648 := Nat.pow_le_pow_right (by omega) hs31
  have h3 := ξ2I vl (k + 1) HVlen.out
  rw [Hnv.out] at h3
  have h4 : BB ^ (k + 1) * 2147483648 ≤ V := by have := Nat.mul_le_mul_left (BB ^ (k + 1)) HVtop.out; omega
  have h5 : na = (k + 1) + M := by omega
  have h6 : nval la * 2 ^ s < BB ^ na * 2147483648 := by
   have a := Nat.mul_le_mul_left (nval la) h2
   have b := Nat.mul_lt_mul_of_pos_right (k := 2147483648) h1 (by omega)
   omega
  have h7 := Nat.mul_le_mul_right (BB ^ M) h4
  rw [Huv.out]
  refine Nat.lt_of_lt_of_le h6 (Nat.le_trans ?_ h7)
  rw [h5, Nat.pow_add, Nat.mul_right_comm]
  exact Nat.le_refl _)
 clear hq3 hgr3 hsz3 hV hvl
 go_loopw [14] (fun i w4 => ∃ (j : Nat) (um ql : List Nat), j ≤ M ∧ i = .int .i64 ((j : Int) - 1) ∧ RowN w4 gu um ∧ um.length = na + 1 ∧ RowN w4 gq ql ∧ ql.length = M ∧ nval um + V * nval ql = nval ul ∧ nval um < V * BB ^ j ∧
   (∀ t, t < j → gd ql t = 0) ∧ NatL w4 (.slice (some ⟨gv, 0, none⟩) (k + 2) (k + 2)) vl ∧ Own w.heap.size w3 w4) (fun i _ => ((intOf i) + 1).toNat)
 case atStart =>
  refine ⟨M, ul, _, Nat.le_refl _, ?_, Hrow3.out, Hul.out, Hq3.out, by simp, by rw [ξ1V]; simp, Hinit.out, fun t _ => ?_, HV3.out, Own.refl _ _⟩
  ·rw [show ((na : Int) + 1 - ((k : Int) + 2) - 1) = ((M : Int) - 1) from by omega]
  ·unfold gd; rw [List.getD_eq_getElem?_getD, List.getElem?_replicate]; split <;> rfl
 case round =>
  obtain ⟨j, um, ql, hj, rfl, hum, huml, hql, hqll, hinv, hbound, hz, hvr, ho⟩ := hrel
  have Hum := ξ hum
  have Huml := ξ huml
  have Hql := ξ hql
  have Hqll := ξ hqll
  have Hinv := ξ hinv
  have Hbound := ξ hbound
  have Hz := ξ hz
  have Hvr := ξ hvr
  have Ho := ξ ho
  clear hum huml hql hqll hinv hbound hz hvr ho hc
  by_cases hj0 : j = 0
  ·obtain rfl := hj0
   rw [show (((0 : Nat) : Int) - 1) = -1 from rfl]
   have Hb0 := ξ (show nval um < V by have := Hbound.out; rwa [Nat.pow_zero, Nat.mul_one] at this)
   have HVB := ξ (show V < BB ^ (k + 2) by have := ξ1a vl HVd.out; rwa [Hnv.out, HVlen.out] at this)
   clear Hbound Hz
   go_wp2_with fail
   obtain ⟨wo, hwo⟩ : ∃ wo : World, wo = wr := ⟨_, rfl⟩
   rw [← hwo]
   rw [← hwo] at Hum Hql Hvr Ho
   clear hwo
   go_loopw [124] (fun i w5 => ∃ (j : Nat) (um2 : List Nat), j ≤ k + 2 ∧ i = .int .i64 j ∧ RowN w5 gu um2 ∧ um2.length = na + 1 ∧ (∀ t, j ≤ t → gd um2 t = gd um t) ∧
    (∀ t, t < j → gd um2 t = (gd um (t + 1) * BB + gd um t) / 2 ^ s % BB) ∧ RowN w5 gq ql ∧ Own w.heap.size wo w5) (fun i _ => k + 2 - (intOf i).toNat)
   case atStart => exact ⟨0, um, by omega, rfl, Hum.out, Huml.out, fun _ _ => rfl, fun _ h => absurd h (by omega), Hql.out, Own.refl _ _⟩
   case round =>
    obtain ⟨j, um2, hj2, rfl, hum2, huml2, hs1, hs2, hql2, ho2⟩ := hrel
    have Hum2 := ξ hum2
    have Huml2 := ξ huml2
    have Hs1 := ξ hs1
    have Hs2 := ξ hs2
    have Hql2 := ξ hql2
    have Ho2 := ξ ho2
    clear hum2 huml2 hs1 hs2 hql2 ho2
    by_cases hjk : j < k + 2
    ·have hread := Hum2.out.read (na + 1) (by rw [Huml2.out]; exact Nat.le_refl _) (by omega)
     rw [Huml2.out] at hread
     have Hread := ξ hread
     clear hread
     have c1 := Hum2.out.cell (i := j) (by rw [Huml2.out]; omega)
     have f1 := Hum2.out.free j
     have u1 := Hum2.out.dig.gd j
     have u2 := Hum2.out.dig.gd (j + 1)
     go_wp2_with fail
     refine (ξ0c _ _ um2 (j + 1) Hread.out (by omega)).mono ?_
     rintro _ _ ⟨rfl, rfl⟩
     have hor := ξ1h u2 u1
     rw [Hs1.out (j + 1) (by omega), Hs1.out j (Nat.le_refl _)] at hor
     obtain ⟨X, hX⟩ : ∃ X, gd um (j + 1) * BB + gd um j = X := ⟨_, rfl⟩
     obtain ⟨d1, hd1⟩ : ∃ d, gd um2 (j + 1) = d := ⟨_, rfl⟩
     obtain ⟨d0, hd0⟩ : ∃ d, gd um2 j = d := ⟨_, rfl⟩
     rw [hX, ← Hs1.out (j + 1) (by omega), ← Hs1.out j (Nat.le_refl _), hd1, hd0] at hor
     rw [hd1] at u2 ⊢
     rw [hd0] at u1 c1
     have hX64 : X ≤ 18446744073709551615 := by
      rw [← hX, ← Hs1.out (j + 1) (by omega), ← Hs1.out j (Nat.le_refl _), hd1, hd0]
      rw [ξ5] at *
      omega
     have HX := ξ hX
     have Hd0 := ξ hd0
     rw [ξ5] at u1 u2
     clear hX hd1
     go_wp2_with fail
     refine (ξ0c _ _ um2 j Hread.out (by omega)).mono ?_
     rintro _ _ ⟨rfl, rfl⟩
     rw [Hd0.out]
     clear hd0
     go_wp2_with fail
     have hTX : (X : Int) / 2 ^ s = ((X / 2 ^ s : Nat) : Int) := by rw [Int.natCast_ediv, Int.natCast_pow]; rfl
     have E1 : (X : Int) / 2 ^ s % 4294967296 = ((X / 2 ^ s % BB : Nat) : Int) := by rw [hTX, ξ5]; rfl
     refine ⟨⟨j + 1, um2.set j (X / 2 ^ s % BB), by omega, by go_num, Hum2.out.set j _ _ E1 (Nat.mod_lt _ ξv), by rw [List.length_set]; exact Huml2.out, ?_, ?_, Hql2.out.keep (by omega) (ξg.set _ _ _ _), ?_⟩, by simp [intOf]; omega⟩
     ·intro t' ht'; rw [ξ0l (by omega)]; exact Hs1.out t' (by omega)
     ·intro t' ht'
      by_cases htj : t' = j
      ·subst htj; rw [ξ5M (by rw [Huml2.out]; omega), HX.out]
      ·rw [ξ0l (by omega)]; exact Hs2.out t' (by omega)
     ·exact Ho2.out.trans (Own.setCell _ hsz _ _)
    ·obtain rfl : j = k + 2 := by omega
     go_wp2_with fail
     have y9 : (0 : Int) ≤ (k : Int) + 2 := by omega
     have y10 : (k : Int) + 2 ≤ (na : Int) + 1 := by omega
     have n6 : ((k : Int) + 2).toNat = k + 2 := by omega
     refine ξL [(0, true), (2, true), (3, true), (4, true), (1, false), (5, false), (6, true), (7, true), (8, true)] (by kernel_rfl) (by kernel_rfl) rfl (by kernel_rfl) (fun _ _ d _ _ h => by cases d <;> exact h) ?_
     repeat (refine ξ4C rfl rfl (fun K hK => ?_); go_simp; refine ⟨_, fun _ _ => rfl, hK _ _ ?_⟩; clear hK K)
     refine ξi rfl rfl (fun K hK => ?_)
     go_simp
     have hr1 := Hql2.out.read M (by rw [Hqll.out]; exact Nat.le_refl _) (by omega)
     rw [Hqll.out] at hr1
     refine (ξ09 _ _ ql (hr1.grow (Gr.refl wr).drew)).mono ?_
     rintro _ _ ⟨⟨rq, kq, rfl, hrq⟩, rfl⟩
     refine ⟨fun _ => Gr.refl _, hK _ _ ?_⟩
     clear hK K hr1
     have Hrq := ξ hrq
     clear hrq
     refine ξi rfl rfl (fun K hK => ?_)
     go_simp
     have hr2 := Hum2.out.read (na + 1) (by rw [Huml2.out]; exact Nat.le_refl _) (by omega)
     rw [Huml2.out] at hr2
     refine (ξ2R _ _ (um2.take (k + 2)) ((hr2.take (k + 2) (na + 1) (by rw [Huml2.out]; omega) (by omega) (Nat.le_refl _)).grow (Gr.refl wr).drew) (by rw [List.length_take]; omega)).mono ?_
     rintro _ w6 ⟨rr, rfl, g6, hrr⟩
     refine ⟨fun _ => g6, hK _ _ ?_⟩
     clear hK K hr2
     have Hrr := ξ hrr
     have G6 := ξ g6
     clear hrr g6
     repeat (refine ξ4C rfl rfl (fun K hK => ?_); go_simp; refine ⟨_, fun _ _ => rfl, hK _ _ ?_⟩; clear hK K)
     refine ξ9 ?_
     go_wp2_with fail
     go_ret3
     have hT0 : 0 < 2 ^ s := Nat.pow_pos (by omega)
     obtain ⟨dq, dr⟩ := ξcB Hinv.out Hb0.out
     rw [Huv.out, ← HVe.out, Nat.mul_div_mul_right _ _ hT0] at dq
     rw [Huv.out, ← HVe.out, Nat.mul_mod_mul_right] at dr
     have hz0 : nval (um.drop (0 + (k + 2))) = 0 := by
      have := ξ0B um (k + 2)
      rw [Nat.zero_add]
      refine Nat.eq_zero_of_not_pos fun hp => ?_
      have h1 := Nat.mul_le_mul_left (BB ^ (k + 2)) hp
      have h2 := Hb0.out
      have h3 := HVB.out
      generalize BB ^ (k + 2) = Y at *
      omega
     have hsh := ξ8F (ξ9I (s := s) (by omega)) um um2 Hum.out.dig (k + 2) 0 (fun t _ h => Hs2.out t (by omega)) hz0
     rw [List.drop_zero, List.drop_zero, ← dr, Nat.mul_div_cancel _ hT0] at hsh
     refine ⟨_, rfl, ?_, _, _, rfl, ?_, ?_⟩
     ·exact Gr.trans (Below.trans G3.out (Below.trans Ho.out Ho2.out)) ((Gr.refl wr).drew.trans G6.out)
     ·have := Hrq.out.grow G6.out
      rw [trimL, ← dq] at this
      exact this
     ·have := Hrr.out
      rw [hsh] at this
      exact this
  ·obtain ⟨i, rfl⟩ : ∃ i, j = i + 1 := ⟨j - 1, by omega⟩
   have e1 := ξ (show ((i + 1 : Nat) : Int) - 1 = (i : Int) by omega)
   rw [e1.out]
   have c1 := Hum.out.cell (i := i + k + 2) (by rw [Huml.out]; omega)
   have c2 := Hum.out.cell (i := i + k + 1) (by rw [Huml.out]; omega)
   have c3 := Hum.out.cell (i := i + k) (by rw [Huml.out]; omega)
   obtain ⟨bv, ov, hbv, d1⟩ := Hvr.out.at (k + 1) (by rw [HVlen.out]; omega)
   obtain ⟨bv2, ov2, hbv2, d2⟩ := Hvr.out.at k (by rw [HVlen.out]; omega)
   cases hbv
   cases hbv2
   rw [Nat.zero_add] at d1 d2
   have u1 := Hum.out.dig.gd (i + k + 2)
   have u2 := Hum.out.dig.gd (i + k + 1)
   have u3 := Hum.out.dig.gd (i + k)
   have v1 := HVd.out.gd (k + 1)
   have v2 := HVd.out.gd k
   have GS := ξ (ξ8K (i := i) Hum.out.dig HVd.out HVlen.out HVtop.out (by rw [Hnv.out, Nat.mul_comm]; exact Hbound.out))
   obtain ⟨x, hx⟩ : ∃ x, gd um (i + k + 2) = x := ⟨_, rfl⟩
   obtain ⟨y, hy⟩ : ∃ y, gd um (i + k + 1) = y := ⟨_, rfl⟩
   obtain ⟨z, hz⟩ : ∃ z, gd um (i + k) = z := ⟨_, rfl⟩
   obtain ⟨f, hf⟩ : ∃ f, gd vl (k + 1) = f := ⟨_, rfl⟩
   obtain ⟨t, ht⟩ : ∃ t, gd vl k = t := ⟨_, rfl⟩
   rw [hx] at c1 u1 GS
   rw [hy] at c2 u2 GS
   rw [hz] at c3 u3 GS
   rw [hf] at d1 v1 GS HVtop
   rw [ht] at d2 v2 GS
   have Hx := ξ u1
   have Hy := ξ u2
   have Hzz := ξ u3
   have Hf := ξ v1
   have Ht := ξ v2
   rw [ξ5] at u1 u2 u3 v1 v2
   clear hx hy hz hf ht
   go_wp2_with fail
   have i1 : IntKind.i64.wrap ((i : Int) + ((k : Int) + 2)) = (i : Int) + ((k : Int) + 2) := IntWalk.i64_in _ (by omega)
   have i2 : IntKind.i64.wrap ((i : Int) + ((k : Int) + 2) - 1) = (i : Int) + ((k : Int) + 2) - 1 := IntWalk.i64_in _ (by omega)
   have i3 : IntKind.i64.wrap ((i : Int) + ((k : Int) + 2) - 2) = (i : Int) + ((k : Int) + 2) - 2 := IntWalk.i64_in _ (by omega)
   have i4 : IntKind.i64.wrap ((k : Int) + 2 - 1) = (k : Int) + 2 - 1 := IntWalk.i64_in _ (by omega)
   have i5 : IntKind.i64.wrap ((k : Int) + 2 - 2) = (k : Int) + 2 - 2 := IntWalk.i64_in _ (by omega)
   have n1 : ((i : Int) + ((k : Int) + 2)).toNat = i + k + 2 := by omega
   have n2 : ((i : Int) + ((k : Int) + 2) - 1).toNat = i + k + 1 := by omega
   have n3 : ((i : Int) + ((k : Int) + 2) - 2).toNat = i + k := by omega
   have n4 : ((k : Int) + 2 - 1).toNat = k + 1 := by omega
   have n5 : ((k : Int) + 2 - 2).toNat = k := by omega
   have z1 : (0 : Int) ≤ (i : Int) + ((k : Int) + 2) := by omega
   have z2 : (0 : Int) ≤ (i : Int) + ((k : Int) + 2) - 1 := by omega
   have z3 : (0 : Int) ≤ (i : Int) + ((k : Int) + 2) - 2 := by omega
   have z4 : (0 : Int) ≤ (k : Int) + 2 - 1 := by omega
   have z5 : (0 : Int) ≤ (k : Int) + 2 - 2 := by omega
   have y1 : (i : Int) + ((k : Int) + 2) < (na : Int) + 1 := by omega
   have y2 : (i : Int) + ((k : Int) + 2) - 1 < (na : Int) + 1 := by omega
   have y3 : (i : Int) + ((k : Int) + 2) - 2 < (na : Int) + 1 := by omega
   have y4 : (k : Int) + 2 - 1 < (k : Int) + 2 := by omega
   have y5 : (k : Int) + 2 - 2 < (k : Int) + 2 := by omega
   have s2 : (1 : Int) ≤ (i : Int) + ((k : Int) + 2) := by omega
   have s3 : (2 : Int) ≤ (i : Int) + ((k : Int) + 2) := by omega
   have s4 : (1 : Int) ≤ (k : Int) + 2 := by omega
   have s5 : (2 : Int) ≤ (k : Int) + 2 := by omega
   have x1 : IntKind.u64.wrap (x : Int) = (x : Int) := by rw [IntKind.wrap_u64]; omega
   have x2 : IntKind.u64.wrap (y : Int) = (y : Int) := by rw [IntKind.wrap_u64]; omega
   have x3 : IntKind.u64.wrap (z : Int) = (z : Int) := by rw [IntKind.wrap_u64]; omega
   have x4 : IntKind.u64.wrap (f : Int) = (f : Int) := by rw [IntKind.wrap_u64]; omega
   have x5 : IntKind.u64.wrap (t : Int) = (t : Int) := by rw [IntKind.wrap_u64]; omega
   have i6 : IntKind.i64.wrap (k : Int) = (k : Int) := IntWalk.i64_in _ (by omega)
   have y6 : (k : Int) < (k : Int) + 2 := by omega
   have y7 : k < k + 2 := by omega
   have y8 : (0 : Int) ≤ (k : Int) := by omega
   go_quiet ((go_at_call 276; exact Calls.quiet_of (ξ7a _ x y z f t Hx.out Hy.out Hzz.out Hf.out Ht.out HVtop.out GS.out.1)))
   clear i1 i2 i3 i4 i5 i6 n1 n2 n3 n4 n5 z1 z2 z3 z4 z5 y1 y2 y3 y4 y5 y6 y7 y8 s2 s3 s4 s5 x1 x2 x3 x4 x5 c1 c2 c3 d1 d2
   obtain ⟨G, hG⟩ : ∃ G, qhat x y z f t = G := ⟨_, rfl⟩
   have HG := ξ hG
   rw [hG] at GS
   rw [hG]
   have hGB := ξ (show G < BB by rw [← hG]; exact ξ90 _ _ _ _ _)
   clear hG
   go_wp2_with fail
   refine (ξ8C _ gu (na + 1) i G _ um vl (Hum.out.grow ((Gr.refl wr).drewN nq)) Huml.out (Hvr.out.grow ((Gr.refl wr).drewN nq)) (by intro b o n c h; cases h; omega) hGB.out (by omega) (by rw [HVlen.out]; omega) (by rw [HVlen.out]; exact GS.out.2.1) GS.out.2.2.1 GS.out.2.2.2).mono ?_
   rintro _ w5 ⟨q', um', rfl, ho5, hum5, huml5, hm5, hlt5, hqB⟩
   have HO5 := ξ ho5
   have Hum5 := ξ hum5
   have Huml5 := ξ huml5
   have Hm5 := ξ hm5
   have Hlt5 := ξ hlt5
   have HqB := ξ hqB
   rw [ξ5] at hqB
   have Hql5 := ξ ((Hql.out.grow ((Gr.refl wr).drewN nq)).keep (show gq ≠ gu by omega) ho5)
   have hcq := Hql5.out.cell (i := i) (by rw [Hqll.out]; omega)
   have hfq := Hql5.out.free i
   clear ho5 hum5 huml5 hm5 hlt5
   go_wp2_with fail
   have hnotu : ξ4d gu (.slice (some ⟨gv, 0, none⟩) (k + 2) (k + 2)) := by intro b o n c h; cases h; omega
   have hnotq : ξ4d gq (.slice (some ⟨gv, 0, none⟩) (k + 2) (k + 2)) := by intro b o n c h; cases h; omega
   have hset := ξg.set gq w5 i (.int .u32 q')
   have hgw := HG0.out
   have hsw := Ho.out.size
   refine ⟨⟨i, um', ql.set i q', by omega, rfl, Hum5.out.keep (by omega) hset, Huml5.out, Hql5.out.set i q' _ rfl HqB.out, by rw [List.length_set]; exact Hqll.out, ?_, ?_, ?_, ?_, ?_⟩, by simp [intOf]⟩
   ·have h1 := ξ1Q (l := ql) (i := i) q' (by rw [Hqll.out]; omega)
    rw [Hz.out i (by omega), Nat.mul_zero, Nat.add_zero] at h1
    rw [h1, Nat.mul_add, ← Hinv.out, ← Hm5.out, Hnv.out, Nat.mul_comm q' V, Nat.mul_left_comm V]
    omega
   ·have h2 := Hlt5.out
    rw [Hnv.out, Nat.mul_comm] at h2
    exact h2
   ·intro t' ht'; rw [ξ0l (by omega)]; exact Hz.out t' (by omega)
   ·exact ((Hvr.out.grow ((Gr.refl wr).drewN nq)).keep hnotu HO5.out).keep hnotq hset
   ·refine Ho.out.trans ((Own.drewN _ wr nq).trans ((HO5.out.own ?_ hsz).trans (hset.own ?_ (by omega))))
    ·show w.heap.size ≤ wr.heap.size; omega
    ·have := HO5.out.size; show w.heap.size ≤ w5.heap.size; have h3 : wr.heap.size ≤ w5.heap.size := this; omega
theorem ξ5a (w : World) (va vb : Value) (la lb : List Nat) (ha : NatL w va la) (hb : NatL w vb lb) (hla : la.length ≤ 1099511627776) (hlb : lb.length ≤ 1099511627776) (h0 : nval lb ≠ 0) :
  Calls Tryz.prog 233 #[va, vb] w (Ret w fun r w' => ∃ x y, r = .tuple #[x, y, .int .i64 0] ∧ NatL w' x (digs (nval la / nval lb)) ∧ NatL w' y (digs (nval la % nval lb))) := by
 rcases Nat.lt_or_ge (nval la) (nval lb) with hlt | hge
 ·exact ξ4P w va vb la lb ha hb (by omega) (by omega) hlt
 ·match hk : (digs (nval lb)).length with
  | 0 => exact absurd (ξs.1 (List.eq_nil_of_length_eq_zero hk)) h0
  | 1 => exact ξ4t w va vb la lb ha hb (by omega) (by omega) hge hk
  | k + 2 => exact ξ5d w va vb la lb ha hb hla hlb hge k hk
end Go.Proofs.YtcjgimlcefhhmaaGreatDoor

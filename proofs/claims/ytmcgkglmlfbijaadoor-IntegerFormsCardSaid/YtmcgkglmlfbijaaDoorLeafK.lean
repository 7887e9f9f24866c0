/-
  The program's division: DivMod, the easy cases.
-/
import Derived.Test.YtmcgkglmlfbijaaDoorLeafJ
namespace Go.Proofs.YtmcgkglmlfbijaaDoor
open Go.RowKit
set_option linter.unusedVariables false
set_option linter.unusedSimpArgs false

set_option maxHeartbeats 800000 in
theorem nat_DivMod_zero (w : World) (va vb : Value) (la lb : List Nat) (ha : NatL w va la) (hb : NatL w vb lb) (h0 : nval lb = 0) :
    Calls Tryd.prog 63 #[va, vb] w fun e w' => e = .returned (.tuple #[.slice none 0 0, .slice none 0 0, .int .i64 2]) ∧ w = w' := by
  have HA := Lib.hid ha
  have HB := Lib.hid hb
  have H0 := Lib.hid h0
  clear ha hb h0
  go_enter Tryd.func63, Tryd.ntmps63
  go_wp2_with fail
  refine (nat_trim _ _ la HA.out).mono ?_
  rintro _ _ ⟨⟨p, na, rfl, hr⟩, rfl⟩
  go_wp2_with fail
  refine (nat_trim _ _ lb HB.out).mono ?_
  rintro _ _ ⟨⟨q, nb, rfl, hr2⟩, rfl⟩
  have : nb = 0 := by rw [← hr2.len, trimL, H0.out, digs_zero]; rfl
  subst this
  clear hr hr2
  go_wp2_with fail
  go_ret3
  exact ⟨rfl, rfl⟩

set_option maxHeartbeats 800000 in
theorem nat_DivMod_less (w : World) (va vb : Value) (la lb : List Nat) (ha : NatL w va la) (hb : NatL w vb lb) (hla : la.length ≤ 8796093022208) (hlb : lb.length ≤ 8796093022208) (hlt : nval la < nval lb) :
    Calls Tryd.prog 63 #[va, vb] w (Ret w fun r w' => ∃ x y, r = .tuple #[x, y, .int .i64 0] ∧ NatL w' x (digs (nval la / nval lb)) ∧ NatL w' y (digs (nval la % nval lb))) := by
  have HA := Lib.hid ha
  have HB := Lib.hid hb
  have Hlt := Lib.hid hlt
  have HLa := Lib.hid (trimL_length la ha.dig)
  have HLb := Lib.hid (trimL_length lb hb.dig)
  clear ha hb hlt
  go_enter Tryd.func63, Tryd.ntmps63
  go_wp2_with fail
  refine (nat_trim _ _ la HA.out).mono ?_
  rintro _ _ ⟨⟨p, na, rfl, hr⟩, rfl⟩
  have Hr := Lib.hid hr
  clear hr
  go_wp2_with fail
  refine (nat_trim _ _ lb HB.out).mono ?_
  rintro _ _ ⟨⟨q, nb, rfl, hr2⟩, rfl⟩
  have hnb : nb ≠ 0 := by
    intro h
    have := hr2.len
    rw [h, trimL] at this
    have := digs_eq_nil.1 (List.eq_nil_of_length_eq_zero this)
    have := Hlt.out
    omega
  have t1 : ((nb : Int) == 0) = false := by simp; omega
  have Hr2 := Lib.hid hr2
  clear hr2 hnb
  go_wp2_with fail
  refine (nat_Cmp _ _ _ _ _ Hr.out Hr2.out (Nat.le_trans HLa.out (by omega)) (Nat.le_trans HLb.out (by omega))).mono ?_
  rintro _ _ ⟨rfl, rfl⟩
  rw [trimL, trimL, nval_digs, nval_digs, cmpZ_lt Hlt.out]
  go_wp2_with fail
  refine (nat_Clone _ _ _ Hr.out (Nat.le_trans HLa.out (by omega))).mono ?_
  rintro _ w1 ⟨r, rfl, g1, hr⟩
  have G1 := Lib.hid g1
  have Hr3 := Lib.hid hr
  clear hr g1
  go_wp2_with fail
  go_ret3
  refine ⟨_, rfl, G1.out, _, _, rfl, ?_, ?_⟩
  · rw [Nat.div_eq_of_lt Hlt.out, digs_zero]; exact NatL.nil _
  · rw [Nat.mod_eq_of_lt Hlt.out]; exact Hr3.out

set_option maxHeartbeats 800000 in
theorem nat_DivMod_short (w : World) (va vb : Value) (la lb : List Nat) (ha : NatL w va la) (hb : NatL w vb lb) (hla : la.length ≤ 8796093022208) (hlb : lb.length ≤ 8796093022208) (hle : nval lb ≤ nval la) (h1 : (digs (nval lb)).length = 1) :
    Calls Tryd.prog 63 #[va, vb] w (Ret w fun r w' => ∃ x y, r = .tuple #[x, y, .int .i64 0] ∧ NatL w' x (digs (nval la / nval lb)) ∧ NatL w' y (digs (nval la % nval lb))) := by
  have HA := Lib.hid ha
  have HB := Lib.hid hb
  have Hle := Lib.hid hle
  have HLa := Lib.hid (trimL_length la ha.dig)
  have HLb := Lib.hid (trimL_length lb hb.dig)
  obtain ⟨cz, hcz⟩ : ∃ cz, cmpZ (nval la) (nval lb) = cz := ⟨_, rfl⟩
  have hc0 : ¬ cz < 0 := by rw [← hcz, cmpZ_neg_iff]; omega
  have Hcz := Lib.hid hcz
  have hB : nval lb < BB := by have := lt_of_digs_length (n := nval lb) (k := 1) (by omega); rwa [Nat.pow_one] at this
  have hB0 : 0 < nval lb := by
    rcases Nat.eq_zero_or_pos (nval lb) with h | h
    · rw [h, digs_zero] at h1; cases h1
    · exact h
  obtain ⟨d, hd⟩ : ∃ d, nval lb = d := ⟨_, rfl⟩
  have Hd := Lib.hid hd
  have hdd : digs (nval lb) = [d] := by
    rw [hd] at hB hB0 ⊢
    rw [show d = d + BB * 0 from by omega, digs_cons hB (.inl (by omega)), digs_zero]; rfl
  have Hdd := Lib.hid hdd
  rw [hd] at hB hB0 ⊢
  have HBd := Lib.hid hB
  clear ha hb hle h1 hcz hd hdd hB
  go_enter Tryd.func63, Tryd.ntmps63
  go_wp2_with fail
  refine (nat_trim _ _ la HA.out).mono ?_
  rintro _ _ ⟨⟨p, na, rfl, hr⟩, rfl⟩
  have Hr := Lib.hid hr
  clear hr
  go_wp2_with fail
  refine (nat_trim _ _ lb HB.out).mono ?_
  rintro _ _ ⟨⟨q, nb, rfl, hr2⟩, rfl⟩
  rw [trimL, Hdd.out] at hr2
  have hnb : nb = 1 := hr2.len.symm
  subst hnb
  have Hr2 := Lib.hid hr2
  clear hr2
  go_wp2_with fail
  refine (nat_Cmp _ _ _ _ _ Hr.out Hr2.out (Nat.le_trans HLa.out (by omega)) (by simp)).mono ?_
  rintro _ _ ⟨rfl, rfl⟩
  have e1 : cmpZ (nval (trimL la)) (nval [d]) = cz := by rw [← Hcz.out, trimL, nval_digs, Hd.out]; simp [nval]
  rw [e1]
  clear e1
  obtain ⟨b, o, rfl, hc⟩ := Hr2.out.at 0 (by simp)
  have hg : gd [d] 0 = d := rfl
  rw [hg, Nat.add_zero] at hc
  have hd32 : d < 4294967296 := by have := HBd.out; rwa [BB_eq] at this
  clear hg
  go_wp2_with fail
  have hne : trimL la ≠ [] := fun e => by
    have := digs_eq_nil.1 e
    have h2 := Hle.out
    rw [Hd.out] at h2; omega
  refine (nat_short _ _ (trimL la) d Hr.out (Nat.le_trans HLa.out (by omega)) hne hB0 HBd.out).mono ?_
  rintro _ w1 ⟨_, rfl, g1, x, rfl, hx⟩
  have G1 := Lib.hid g1
  have Hx := Lib.hid hx
  have hm : nval (trimL la) % d < 18446744073709551616 := by have := Nat.mod_lt (nval (trimL la)) hB0; omega
  have Hm := Lib.hid hm
  clear hx g1 hne hm
  go_wp2_with fail
  refine (nat_From _ _ Hm.out).mono ?_
  rintro _ w2 ⟨y, rfl, g2, hy⟩
  have G2 := Lib.hid g2
  have Hy := Lib.hid hy
  clear hy g2
  go_wp2_with fail
  go_ret3
  have e : nval (trimL la) = nval la := nval_digs _
  refine ⟨_, rfl, G1.out.trans G2.out, _, _, rfl, ?_, ?_⟩
  · have := Hx.out.grow G2.out; rwa [e] at this
  · have := Hy.out; rwa [e] at this
end Go.Proofs.YtmcgkglmlfbijaaDoor

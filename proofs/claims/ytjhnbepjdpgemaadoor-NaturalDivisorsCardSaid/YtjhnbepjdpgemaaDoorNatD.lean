/-
  NaturalQuotients: the walk (printed by natgen.py).
-/
import Derived.Test.YtjhnbepjdpgemaaDoorNatC
namespace Go.Proofs.YtjhnbepjdpgemaaDoor
open Go.RowKit Go.Lib
set_option linter.unusedVariables false
set_option linter.unusedSimpArgs false

theorem valid_digs (x : Nat) : decide (trimL (digs x) = digs x) = true := by
  rw [digs_trimL, nval_digs]; simp
theorem n_Valid (w : World) (va : Value) (x L : Nat) (hx : NatR w va x L) (hL : L ≤ 1000000) :
    Calls Tryd.prog 14 #[va] w (Ret w fun r w' => r = .bool true) := by
  refine (ref_Valid w va _ hx.1 (Nat.le_trans hx.2.len (by omega))).mono ?_
  rintro e w' ⟨he, hw⟩
  exact ⟨_, he, hw ▸ Gr.refl _, by rw [valid_digs]⟩
theorem n_DivMod (w : World) (va vb : Value) (x y q r L M : Nat) (hx : NatV w va x L) (hy : NatV w vb y M) (h : y ≠ 0) (hq : x / y = q) (hr : x % y = r) (hL : L ≤ 1000000) (hM : M ≤ 1000000) :
    Calls Tryd.prog 12 #[va, vb] w (Ret w fun e w' => ∃ a b, e = .tuple #[a, b, .int .i64 0] ∧ NatR w' a q L ∧ NatR w' b r M) := by
  subst hq hr
  have hl := Nat.le_trans (digs_mono_len (Nat.div_le_self x y)) hx.len
  have hm := Nat.le_trans (digs_mono_len (Nat.le_of_lt (Nat.mod_lt x (show 0 < y by omega)))) hy.len
  obtain ⟨l, h1, rfl, h3⟩ := hx
  obtain ⟨m, k1, rfl, k3⟩ := hy
  exact (nat_DivMod w va vb l m h1 k1 (by omega) (by omega) h).mono fun e w' ⟨r, he, g, a, b, hr, ha, hb⟩ => ⟨r, he, g, a, b, hr, NatR.of ha hl, NatR.of hb hm⟩
theorem n_DivMod0 (w : World) (va vb : Value) (x L M : Nat) (hx : NatV w va x L) (hy : NatV w vb 0 M) :
    Calls Tryd.prog 12 #[va, vb] w (Ret w fun r w' => r = .tuple #[.slice none 0 0, .slice none 0 0, .int .i64 2]) := by
  obtain ⟨l, h1, rfl, h3⟩ := hx
  obtain ⟨m, k1, k2, k3⟩ := hy
  exact (nat_DivMod_zero w va vb l m h1 k1 k2).mono fun e w' ⟨he, hw⟩ => ⟨_, he, hw ▸ Gr.refl _, rfl⟩
theorem cmp_lt {x y : Nat} (h : x < y) : cmpZ x y = -1 := cmpZ_lt h
theorem r_TrimS (w : World) (va : Value) (x L : Nat) (hx : NatV w va x L) (hL : L ≤ 1000000) :
    Calls Tryd.prog 13 #[va] w (Ret w fun r w' => ∃ p k c, r = .slice p k c ∧ k = (digs x).length) := by
  refine (n_Trim w va x L hx hL).mono ?_
  rintro e w' ⟨r, he, g, h⟩
  obtain ⟨p, k, c, rfl, hk⟩ := h.1.slice
  exact ⟨_, he, g, p, k, c, rfl, hk⟩

set_option maxRecDepth 100000 in
set_option maxHeartbeats 6400000 in
theorem law_NaturalQuotients (w : World) (htab : Tab w) (va : Value) (l0 : List Nat) (i0 : NatL w va l0) (vb : Value) (l1 : List Nat) (i1 : NatL w vb l1) :
    Calls Tryd.prog 3 #[va, vb] w (Ret w fun r w' => r = .bool true) := by
  have HT := Lib.hid htab
  clear htab
  have HA0 := Lib.hid i0
  obtain ⟨p0, k0, c0, rfl, hk0⟩ := i0.slice
  have HK0 := Lib.hid hk0
  clear i0 hk0
  have HA1 := Lib.hid i1
  obtain ⟨p1, k1, c1, rfl, hk1⟩ := i1.slice
  have HK1 := Lib.hid hk1
  clear i1 hk1
  go_enter Tryd.func3, Tryd.ntmps3
  go_wp2_with fail
  refine (law_awake w HT.out).mono ?_
  rintro _ w1 ⟨_, rfl, g1, rfl⟩
  have G1 := Lib.hid g1
  clear g1
  go_wp2_with fail
  obtain ⟨t, ht⟩ : ∃ t, decide (∀ i, i < 2 → (if i = 0 then k0 else k1) ≤ 12) = t := ⟨_, rfl⟩
  refine (law_few _ _ 2 2 (fun i => if i = 0 then p0 else p1) (fun i => if i = 0 then k0 else k1) (fun i => if i = 0 then c0 else c1) (by decide) (by decide) t ht (fun i hi => ?_)).mono ?_
  · match i, hi with
    | 0, _ => exact cell_newA _ _ _ _
    | 1, _ => exact cell_newA _ _ _ _
  rintro _ w3 ⟨_, rfl, g3, rfl⟩
  have G := Lib.hid (G1.out.trans (((Gr.refl w1).alloc _).trans g3))
  clear g3 G1
  cases t
  · clear ht
    go_wp2_with fail
    refine (law_awake w3 (HT.out.grow G.out)).mono ?_
    rintro _ w4 ⟨_, rfl, g4, rfl⟩
    have G4 := Lib.hid g4
    clear g4
    go_wp2_with fail
    go_ret
    exact ⟨_, rfl, G.out.trans G4.out, rfl⟩
  · have hh := of_decide_eq_true ht
    have m0 : k0 ≤ 12 := hh 0 (by decide)
    obtain ⟨x0, hx0⟩ : ∃ x, nval l0 = x := ⟨_, rfl⟩
    have IA0 := Lib.hid (show NatV w3 _ x0 12 from ⟨l0, HA0.out.grow G.out, hx0, by rw [← HK0.out]; exact m0⟩)
    have m1 : k1 ≤ 12 := hh 1 (by decide)
    obtain ⟨x1, hx1⟩ : ∃ x, nval l1 = x := ⟨_, rfl⟩
    have IA1 := Lib.hid (show NatV w3 _ x1 12 from ⟨l1, HA1.out.grow G.out, hx1, by rw [← HK1.out]; exact m1⟩)
    clear hh ht m0 hx0 m1 hx1
    go_wp2_with fail
    by_cases hy : x1 = 0
    · subst hy
      refine (n_DivMod0 _ _ _ _ 12 12 IA0.out IA1.out).mono ?_
      rintro _ w4 ⟨_, rfl, gn, rfl⟩
      have IA0 := Lib.hid (IA0.out.grow gn)
      have IA1 := Lib.hid (IA1.out.grow gn)
      have G := Lib.hid (G.out.trans gn)
      clear gn
      go_wp2_with fail
      refine (r_TrimS _ _ 0 12 IA1.out (by decide)).mono ?_
      rintro _ w5 ⟨_, rfl, gn, pt, kt, ct, rfl, hkt⟩
      have IA0 := Lib.hid (IA0.out.grow gn)
      have IA1 := Lib.hid (IA1.out.grow gn)
      have G := Lib.hid (G.out.trans gn)
      clear gn
      obtain rfl : kt = 0 := by rw [hkt, digs_eq_nil.2 rfl]; rfl
      clear hkt
      go_wp2_with fail
      go_ret
      exact ⟨_, rfl, G.out, rfl⟩
    · have hmod := Nat.mod_lt x0 (show 0 < x1 by omega)
      have hdm := Nat.div_add_mod x0 x1
      rw [Nat.mul_comm] at hdm
      obtain ⟨q, hq⟩ : ∃ q, x0 / x1 = q := ⟨_, rfl⟩
      obtain ⟨r, hr⟩ : ∃ r, x0 % x1 = r := ⟨_, rfl⟩
      rw [hr] at hmod hdm
      rw [hq] at hdm
      have HM := Lib.hid hmod
      have HD := Lib.hid hdm
      have HQ := Lib.hid hq
      have HR := Lib.hid hr
      clear hmod hdm hq hr
      refine (n_DivMod _ _ _ x0 x1 q r 12 12 IA0.out IA1.out hy HQ.out HR.out (by decide) (by decide)).mono ?_
      rintro _ w4 ⟨_, rfl, gn, vq, vr, rfl, hq, hr⟩
      have IA0 := Lib.hid (IA0.out.grow gn)
      have IA1 := Lib.hid (IA1.out.grow gn)
      have G := Lib.hid (G.out.trans gn)
      have DQ := Lib.hid hq
      have DR := Lib.hid hr
      clear gn hq hr
      go_wp2_with fail
      refine (r_TrimS _ _ x1 12 IA1.out (by decide)).mono ?_
      rintro _ w5 ⟨_, rfl, gn, pt, kt, ct, rfl, hkt⟩
      have IA0 := Lib.hid (IA0.out.grow gn)
      have IA1 := Lib.hid (IA1.out.grow gn)
      have DQ := Lib.hid (DQ.out.grow gn)
      have DR := Lib.hid (DR.out.grow gn)
      have G := Lib.hid (G.out.trans gn)
      clear gn
      have hk0 : kt ≠ 0 := by rw [hkt]; exact fun e => hy (digs_eq_nil.1 (List.eq_nil_of_length_eq_zero e))
      clear hkt
      go_wp2_with fail
      refine (n_Valid _ _ q 12 DQ.out (by decide)).mono ?_
      rintro _ w6 ⟨_, rfl, gn, rfl⟩
      have IA0 := Lib.hid (IA0.out.grow gn)
      have IA1 := Lib.hid (IA1.out.grow gn)
      have DQ := Lib.hid (DQ.out.grow gn)
      have DR := Lib.hid (DR.out.grow gn)
      have G := Lib.hid (G.out.trans gn)
      clear gn
      go_wp2_with fail
      refine (n_Valid _ _ r 12 DR.out (by decide)).mono ?_
      rintro _ w7 ⟨_, rfl, gn, rfl⟩
      have IA0 := Lib.hid (IA0.out.grow gn)
      have IA1 := Lib.hid (IA1.out.grow gn)
      have DQ := Lib.hid (DQ.out.grow gn)
      have DR := Lib.hid (DR.out.grow gn)
      have G := Lib.hid (G.out.trans gn)
      clear gn
      go_wp2_with fail
      refine (r_Cmp _ _ _ _ _ 12 12 _ DR.out.2 IA1.out (cmp_lt HM.out) (by decide) (by decide)).mono ?_
      rintro _ w8 ⟨_, rfl, gn, rfl⟩
      have IA0 := Lib.hid (IA0.out.grow gn)
      have IA1 := Lib.hid (IA1.out.grow gn)
      have DQ := Lib.hid (DQ.out.grow gn)
      have DR := Lib.hid (DR.out.grow gn)
      have G := Lib.hid (G.out.trans gn)
      clear gn
      go_wp2_with fail
      refine (r_Mul _ _ _ _ _ (q * x1) 12 12 DQ.out.2 IA1.out rfl (by decide) (by decide)).mono ?_
      rintro _ w9 ⟨rR1, rfl, gn, hr⟩
      have IA0 := Lib.hid (IA0.out.grow gn)
      have IA1 := Lib.hid (IA1.out.grow gn)
      have DQ := Lib.hid (DQ.out.grow gn)
      have DR := Lib.hid (DR.out.grow gn)
      have G := Lib.hid (G.out.trans gn)
      have R1 := Lib.hid hr
      clear gn hr
      go_wp2_with fail
      refine (r_Add _ _ _ _ _ x0 25 12 R1.out.2 DR.out.2 HD.out (by decide) (by decide)).mono ?_
      rintro _ w10 ⟨rR2, rfl, gn, hr⟩
      have IA0 := Lib.hid (IA0.out.grow gn)
      have IA1 := Lib.hid (IA1.out.grow gn)
      have DQ := Lib.hid (DQ.out.grow gn)
      have DR := Lib.hid (DR.out.grow gn)
      have R1 := Lib.hid (R1.out.grow gn)
      have G := Lib.hid (G.out.trans gn)
      have R2 := Lib.hid hr
      clear gn hr
      go_wp2_with fail
      refine (n_Trim _ _ x0 12 IA0.out (by decide)).mono ?_
      rintro _ w11 ⟨rR3, rfl, gn, hr⟩
      have IA0 := Lib.hid (IA0.out.grow gn)
      have IA1 := Lib.hid (IA1.out.grow gn)
      have DQ := Lib.hid (DQ.out.grow gn)
      have DR := Lib.hid (DR.out.grow gn)
      have R1 := Lib.hid (R1.out.grow gn)
      have R2 := Lib.hid (R2.out.grow gn)
      have G := Lib.hid (G.out.trans gn)
      have R3 := Lib.hid hr
      clear gn hr
      go_wp2_with fail
      refine (n_Same _ _ _ _ _ R2.out.1 R3.out.1 rfl).mono ?_
      rintro _ w12 ⟨_, rfl, gn, rfl⟩
      have IA0 := Lib.hid (IA0.out.grow gn)
      have IA1 := Lib.hid (IA1.out.grow gn)
      have DQ := Lib.hid (DQ.out.grow gn)
      have DR := Lib.hid (DR.out.grow gn)
      have R1 := Lib.hid (R1.out.grow gn)
      have R2 := Lib.hid (R2.out.grow gn)
      have R3 := Lib.hid (R3.out.grow gn)
      have G := Lib.hid (G.out.trans gn)
      clear gn
      go_wp2_with fail
      go_ret
      exact ⟨_, rfl, G.out, rfl⟩
end Go.Proofs.YtjhnbepjdpgemaaDoor

/-
  NaturalDivisors: the walk.
-/
import Derived.Test.YtjhnbepjdpgemaaDoorNatD
import Derived.Test.YtjhnbepjdpgemaaDoorNumK
namespace Go.Proofs.YtjhnbepjdpgemaaDoor
open Go.RowKit Go.Lib
set_option linter.unusedVariables false
set_option linter.unusedSimpArgs false

theorem gcd_le_add (x y : Nat) : Nat.gcd x y ≤ x + y := by
  by_cases h : x = 0
  · subst h; simp
  · exact Nat.le_trans (Nat.gcd_le_left y (by omega)) (Nat.le_add_right _ _)
theorem n_Gcd (w : World) (va vb : Value) (x y z L M : Nat) (hx : NatV w va x L) (hy : NatV w vb y M) (hz : Nat.gcd x y = z) (hL : L ≤ 1000000) (hM : M ≤ 1000000) :
    Calls Tryd.prog 36 #[va, vb] w (Ret w fun r w' => NatR w' r z (L + M + 1)) := by
  subst hz
  refine nr_of (Nat.le_trans (digs_mono_len (gcd_le_add x y)) (add_len hx.len hy.len)) ?_
  obtain ⟨l, h1, rfl, h3⟩ := hx
  obtain ⟨m, k1, rfl, k3⟩ := hy
  exact nat_Gcd w va vb l m _ _ h1 k1 rfl rfl (by omega) (by omega)
theorem r_DivMod (w : World) (va vb : Value) (x y q L M : Nat) (hx : NatV w va x L) (hy : NatV w vb y M) (h : 0 < y) (hq : x / y = q) (hr : x % y = 0) (hL : L ≤ 1000000) (hM : M ≤ 1000000) :
    Calls Tryd.prog 37 #[va, vb] w (Ret w fun e w' => ∃ a p c, e = .tuple #[a, .slice p 0 c, .int .i64 0] ∧ NatR w' a q L) := by
  subst hq
  have hl := Nat.le_trans (digs_mono_len (Nat.div_le_self x y)) hx.len
  obtain ⟨l, h1, rfl, h3⟩ := hx
  obtain ⟨m, k1, rfl, k3⟩ := hy
  refine (ref_DivMod w va vb l m h1 k1 (by omega) (by omega) h).mono ?_
  rintro e w' ⟨r, he, g, a, b, hr', ha, hb⟩
  rw [hr] at hb
  obtain ⟨p, k, c, rfl, hk⟩ := hb.slice
  obtain rfl : k = 0 := by rw [hk, digs_eq_nil.2 rfl]; rfl
  exact ⟨r, he, g, a, p, c, hr', NatR.of ha hl⟩
theorem zeroN (w : World) : NatV w (.slice none 0 0) 0 0 := ⟨[], NatL.nil w, rfl, Nat.le_refl _⟩
theorem cmp_zero {x : Nat} (h : x ≠ 0) : cmpZ (x : Int) ((0 : Nat) : Int) = 1 := cmpZ_gt (by omega)

set_option maxRecDepth 100000 in
set_option maxHeartbeats 6400000 in
theorem law_NaturalDivisors (w : World) (htab : Tab w) (va : Value) (l0 : List Nat) (i0 : NatL w va l0) (vb : Value) (l1 : List Nat) (i1 : NatL w vb l1) (vc : Value) (l2 : List Nat) (i2 : NatL w vc l2) :
    Calls Tryd.prog 9 #[va, vb, vc] w (Ret w fun r w' => r = .bool true) := by
  have HT := Lib.hid htab
  clear htab
  have HA0 := Lib.hid i0
  obtain ⟨p0, k0, c0, rfl, hk0⟩ := i0.slice
  have HK0 := Lib.hid hk0
  have HA1 := Lib.hid i1
  obtain ⟨p1, k1, c1, rfl, hk1⟩ := i1.slice
  have HK1 := Lib.hid hk1
  have HA2 := Lib.hid i2
  obtain ⟨p2, k2, c2, rfl, hk2⟩ := i2.slice
  have HK2 := Lib.hid hk2
  clear i0 i1 i2 hk0 hk1 hk2
  go_enter Tryd.func9, Tryd.ntmps9
  go_wp2_with fail
  refine (law_awake w HT.out).mono ?_
  rintro _ w1 ⟨_, rfl, g1, rfl⟩
  have G := Lib.hid g1
  clear g1
  by_cases hm : k0 ≤ 6 ∧ k1 ≤ 6 ∧ k2 ≤ 6
  · obtain ⟨m0, m1, m2⟩ := hm
    obtain ⟨x0, hx0⟩ : ∃ x, nval l0 = x := ⟨_, rfl⟩
    obtain ⟨x1, hx1⟩ : ∃ x, nval l1 = x := ⟨_, rfl⟩
    obtain ⟨x2, hx2⟩ : ∃ x, nval l2 = x := ⟨_, rfl⟩
    have IA0 := Lib.hid (show NatV w1 _ x0 6 from ⟨l0, HA0.out.grow G.out, hx0, by rw [← HK0.out]; exact m0⟩)
    have IA1 := Lib.hid (show NatV w1 _ x1 6 from ⟨l1, HA1.out.grow G.out, hx1, by rw [← HK1.out]; exact m1⟩)
    have IA2 := Lib.hid (show NatV w1 _ x2 6 from ⟨l2, HA2.out.grow G.out, hx2, by rw [← HK2.out]; exact m2⟩)
    clear hx0 hx1 hx2
    obtain ⟨gg, hgg⟩ : ∃ g, Nat.gcd x0 x1 = g := ⟨_, rfl⟩
    have Hgg := Lib.hid hgg
    clear hgg
    go_wp2_with fail
    refine (n_Gcd _ _ _ _ _ gg 6 6 IA0.out IA1.out Hgg.out (by decide) (by decide)).mono ?_
    rintro _ w2 ⟨rg, rfl, gn, hr⟩
    have IA0 := Lib.hid (IA0.out.grow gn)
    have IA1 := Lib.hid (IA1.out.grow gn)
    have IA2 := Lib.hid (IA2.out.grow gn)
    have G := Lib.hid (G.out.trans gn)
    have RG := Lib.hid hr
    clear gn hr
    go_wp2_with fail
    by_cases h0 : x0 = 0
    · subst h0
      refine (r_Cmp _ _ _ 0 0 6 0 0 IA0.out (zeroN _) rfl (by decide) (by decide)).mono ?_
      rintro _ w3 ⟨_, rfl, gn, rfl⟩
      have IA0 := Lib.hid (IA0.out.grow gn)
      have IA1 := Lib.hid (IA1.out.grow gn)
      have IA2 := Lib.hid (IA2.out.grow gn)
      have RG := Lib.hid (RG.out.grow gn)
      have G := Lib.hid (G.out.trans gn)
      clear gn
      go_wp2_with fail
      refine (r_Add _ _ _ _ _ _ 6 6 IA0.out IA1.out rfl (by decide) (by decide)).mono ?_
      rintro _ w4 ⟨rs, rfl, gn, hr⟩
      have IA0 := Lib.hid (IA0.out.grow gn)
      have IA1 := Lib.hid (IA1.out.grow gn)
      have IA2 := Lib.hid (IA2.out.grow gn)
      have RG := Lib.hid (RG.out.grow gn)
      have G := Lib.hid (G.out.trans gn)
      have RS := Lib.hid hr
      clear gn hr
      go_wp2_with fail
      refine (n_Trim _ _ _ 13 RS.out.2 (by decide)).mono ?_
      rintro _ w5 ⟨rt, rfl, gn, hr⟩
      have IA0 := Lib.hid (IA0.out.grow gn)
      have IA1 := Lib.hid (IA1.out.grow gn)
      have IA2 := Lib.hid (IA2.out.grow gn)
      have RG := Lib.hid (RG.out.grow gn)
      have RS := Lib.hid (RS.out.grow gn)
      have G := Lib.hid (G.out.trans gn)
      have RT := Lib.hid hr
      clear gn hr
      go_wp2_with fail
      refine (n_Same _ _ _ _ _ RG.out.1 RT.out.1 (by rw [← Hgg.out]; simp)).mono ?_
      rintro _ w6 ⟨_, rfl, gn, rfl⟩
      have IA0 := Lib.hid (IA0.out.grow gn)
      have IA1 := Lib.hid (IA1.out.grow gn)
      have IA2 := Lib.hid (IA2.out.grow gn)
      have RG := Lib.hid (RG.out.grow gn)
      have RS := Lib.hid (RS.out.grow gn)
      have RT := Lib.hid (RT.out.grow gn)
      have G := Lib.hid (G.out.trans gn)
      clear gn
      go_wp2_with fail
      go_ret
      exact ⟨_, rfl, G.out, rfl⟩
    · by_cases h1 : x1 = 0
      · subst h1
        refine (r_Cmp _ _ _ x0 0 6 0 1 IA0.out (zeroN _) (cmp_zero h0) (by decide) (by decide)).mono ?_
        rintro _ w3 ⟨_, rfl, gn, rfl⟩
        have IA0 := Lib.hid (IA0.out.grow gn)
        have IA1 := Lib.hid (IA1.out.grow gn)
        have IA2 := Lib.hid (IA2.out.grow gn)
        have RG := Lib.hid (RG.out.grow gn)
        have G := Lib.hid (G.out.trans gn)
        clear gn
        go_wp2_with fail
        refine (r_Cmp _ _ _ 0 0 6 0 0 IA1.out (zeroN _) rfl (by decide) (by decide)).mono ?_
        rintro _ w4 ⟨_, rfl, gn, rfl⟩
        have IA0 := Lib.hid (IA0.out.grow gn)
        have IA1 := Lib.hid (IA1.out.grow gn)
        have IA2 := Lib.hid (IA2.out.grow gn)
        have RG := Lib.hid (RG.out.grow gn)
        have G := Lib.hid (G.out.trans gn)
        clear gn
        go_wp2_with fail
        refine (r_Add _ _ _ _ _ _ 6 6 IA0.out IA1.out rfl (by decide) (by decide)).mono ?_
        rintro _ w5 ⟨rs, rfl, gn, hr⟩
        have IA0 := Lib.hid (IA0.out.grow gn)
        have IA1 := Lib.hid (IA1.out.grow gn)
        have IA2 := Lib.hid (IA2.out.grow gn)
        have RG := Lib.hid (RG.out.grow gn)
        have G := Lib.hid (G.out.trans gn)
        have RS := Lib.hid hr
        clear gn hr
        go_wp2_with fail
        refine (n_Trim _ _ _ 13 RS.out.2 (by decide)).mono ?_
        rintro _ w6 ⟨rt, rfl, gn, hr⟩
        have IA0 := Lib.hid (IA0.out.grow gn)
        have IA1 := Lib.hid (IA1.out.grow gn)
        have IA2 := Lib.hid (IA2.out.grow gn)
        have RG := Lib.hid (RG.out.grow gn)
        have RS := Lib.hid (RS.out.grow gn)
        have G := Lib.hid (G.out.trans gn)
        have RT := Lib.hid hr
        clear gn hr
        go_wp2_with fail
        refine (n_Same _ _ _ _ _ RG.out.1 RT.out.1 (by rw [← Hgg.out]; simp)).mono ?_
        rintro _ w7 ⟨_, rfl, gn, rfl⟩
        have IA0 := Lib.hid (IA0.out.grow gn)
        have IA1 := Lib.hid (IA1.out.grow gn)
        have IA2 := Lib.hid (IA2.out.grow gn)
        have RG := Lib.hid (RG.out.grow gn)
        have RS := Lib.hid (RS.out.grow gn)
        have RT := Lib.hid (RT.out.grow gn)
        have G := Lib.hid (G.out.trans gn)
        clear gn
        go_wp2_with fail
        go_ret
        exact ⟨_, rfl, G.out, rfl⟩
      · have hpos : 0 < gg := by rw [← Hgg.out]; exact Nat.gcd_pos_of_pos_left _ (by omega)
        have e0 := Lib.hid (show x0 % gg = 0 by rw [← Hgg.out]; exact Nat.mod_eq_zero_of_dvd (Nat.gcd_dvd_left _ _))
        have e1 := Lib.hid (show x1 % gg = 0 by rw [← Hgg.out]; exact Nat.mod_eq_zero_of_dvd (Nat.gcd_dvd_right _ _))
        have e2 := Lib.hid (show Nat.gcd (x0 / gg) (x1 / gg) = 1 by rw [← Hgg.out, Nat.gcd_div (Nat.gcd_dvd_left _ _) (Nat.gcd_dvd_right _ _)]; exact Nat.div_self (by rw [Hgg.out]; exact hpos))
        have e3 := Lib.hid (show Nat.gcd (x0 * x2) (x1 * x2) = gg * x2 by rw [Nat.gcd_mul_right, Hgg.out])
        refine (r_Cmp _ _ _ x0 0 6 0 1 IA0.out (zeroN _) (cmp_zero h0) (by decide) (by decide)).mono ?_
        rintro _ w3 ⟨_, rfl, gn, rfl⟩
        have IA0 := Lib.hid (IA0.out.grow gn)
        have IA1 := Lib.hid (IA1.out.grow gn)
        have IA2 := Lib.hid (IA2.out.grow gn)
        have RG := Lib.hid (RG.out.grow gn)
        have G := Lib.hid (G.out.trans gn)
        clear gn
        go_wp2_with fail
        refine (r_Cmp _ _ _ x1 0 6 0 1 IA1.out (zeroN _) (cmp_zero h1) (by decide) (by decide)).mono ?_
        rintro _ w4 ⟨_, rfl, gn, rfl⟩
        have IA0 := Lib.hid (IA0.out.grow gn)
        have IA1 := Lib.hid (IA1.out.grow gn)
        have IA2 := Lib.hid (IA2.out.grow gn)
        have RG := Lib.hid (RG.out.grow gn)
        have G := Lib.hid (G.out.trans gn)
        clear gn
        go_wp2_with fail
        refine (r_DivMod _ _ _ x0 gg _ 6 13 IA0.out RG.out.2 hpos rfl e0.out (by decide) (by decide)).mono ?_
        rintro _ w5 ⟨_, rfl, gn, dq, dp, dc, rfl, hr⟩
        have IA0 := Lib.hid (IA0.out.grow gn)
        have IA1 := Lib.hid (IA1.out.grow gn)
        have IA2 := Lib.hid (IA2.out.grow gn)
        have RG := Lib.hid (RG.out.grow gn)
        have G := Lib.hid (G.out.trans gn)
        have DQ := Lib.hid hr
        clear gn hr
        go_wp2_with fail
        refine (r_DivMod _ _ _ x1 gg _ 6 13 IA1.out RG.out.2 hpos rfl e1.out (by decide) (by decide)).mono ?_
        rintro _ w6 ⟨_, rfl, gn, eq, ep, ec, rfl, hr⟩
        have IA0 := Lib.hid (IA0.out.grow gn)
        have IA1 := Lib.hid (IA1.out.grow gn)
        have IA2 := Lib.hid (IA2.out.grow gn)
        have RG := Lib.hid (RG.out.grow gn)
        have DQ := Lib.hid (DQ.out.grow gn)
        have G := Lib.hid (G.out.trans gn)
        have EQ := Lib.hid hr
        clear gn hr
        go_wp2_with fail
        refine (n_Gcd _ _ _ _ _ 1 6 6 DQ.out.2 EQ.out.2 e2.out (by decide) (by decide)).mono ?_
        rintro _ w7 ⟨r1, rfl, gn, hr⟩
        clear DQ
        clear EQ
        have IA0 := Lib.hid (IA0.out.grow gn)
        have IA1 := Lib.hid (IA1.out.grow gn)
        have IA2 := Lib.hid (IA2.out.grow gn)
        have RG := Lib.hid (RG.out.grow gn)
        have G := Lib.hid (G.out.trans gn)
        have R1 := Lib.hid hr
        clear gn hr
        go_wp2_with fail
        have g1b := Lib.hid ((Gr.refl w7).alloc (.cells #[.int .u32 1] 46))
        have h1b := Lib.hid (NatL.one w7 1 1 rfl (by rw [BB_eq]; decide) 46)
        have IA0 := Lib.hid (IA0.out.grow g1b.out)
        have IA1 := Lib.hid (IA1.out.grow g1b.out)
        have IA2 := Lib.hid (IA2.out.grow g1b.out)
        have RG := Lib.hid (RG.out.grow g1b.out)
        have R1 := Lib.hid (R1.out.grow g1b.out)
        have G := Lib.hid (G.out.trans g1b.out)
        refine (n_Same _ _ _ 1 1 R1.out.1 (by rw [digs_one1 (by rw [BB_eq]; decide) (by decide)]; exact h1b.out) rfl).mono ?_
        rintro _ w8 ⟨_, rfl, gn, rfl⟩
        clear R1
        have IA0 := Lib.hid (IA0.out.grow gn)
        have IA1 := Lib.hid (IA1.out.grow gn)
        have IA2 := Lib.hid (IA2.out.grow gn)
        have RG := Lib.hid (RG.out.grow gn)
        have G := Lib.hid (G.out.trans gn)
        clear gn
        go_wp2_with fail
        refine (r_Mul _ _ _ _ _ (x0 * x2) 6 6 IA0.out IA2.out rfl (by decide) (by decide)).mono ?_
        rintro _ w9 ⟨rM0, rfl, gn, hr⟩
        have IA0 := Lib.hid (IA0.out.grow gn)
        have IA1 := Lib.hid (IA1.out.grow gn)
        have IA2 := Lib.hid (IA2.out.grow gn)
        have RG := Lib.hid (RG.out.grow gn)
        have G := Lib.hid (G.out.trans gn)
        have M0 := Lib.hid hr
        clear gn hr
        go_wp2_with fail
        refine (r_Mul _ _ _ _ _ (x1 * x2) 6 6 IA1.out IA2.out rfl (by decide) (by decide)).mono ?_
        rintro _ w10 ⟨rM1, rfl, gn, hr⟩
        have IA0 := Lib.hid (IA0.out.grow gn)
        have IA1 := Lib.hid (IA1.out.grow gn)
        have IA2 := Lib.hid (IA2.out.grow gn)
        have RG := Lib.hid (RG.out.grow gn)
        have M0 := Lib.hid (M0.out.grow gn)
        have G := Lib.hid (G.out.trans gn)
        have M1 := Lib.hid hr
        clear gn hr
        go_wp2_with fail
        refine (n_Gcd _ _ _ _ _ (gg * x2) 13 13 M0.out.2 M1.out.2 e3.out (by decide) (by decide)).mono ?_
        rintro _ w11 ⟨r2, rfl, gn, hr⟩
        clear M0
        clear M1
        have IA0 := Lib.hid (IA0.out.grow gn)
        have IA1 := Lib.hid (IA1.out.grow gn)
        have IA2 := Lib.hid (IA2.out.grow gn)
        have RG := Lib.hid (RG.out.grow gn)
        have G := Lib.hid (G.out.trans gn)
        have R2 := Lib.hid hr
        clear gn hr
        go_wp2_with fail
        refine (r_Mul _ _ _ _ _ (gg * x2) 13 6 RG.out.2 IA2.out rfl (by decide) (by decide)).mono ?_
        rintro _ w12 ⟨rR3, rfl, gn, hr⟩
        have IA0 := Lib.hid (IA0.out.grow gn)
        have IA1 := Lib.hid (IA1.out.grow gn)
        have IA2 := Lib.hid (IA2.out.grow gn)
        have RG := Lib.hid (RG.out.grow gn)
        have R2 := Lib.hid (R2.out.grow gn)
        have G := Lib.hid (G.out.trans gn)
        have R3 := Lib.hid hr
        clear gn hr
        go_wp2_with fail
        refine (n_Same _ _ _ _ _ R2.out.1 R3.out.1 rfl).mono ?_
        rintro _ w13 ⟨_, rfl, gn, rfl⟩
        have IA0 := Lib.hid (IA0.out.grow gn)
        have IA1 := Lib.hid (IA1.out.grow gn)
        have IA2 := Lib.hid (IA2.out.grow gn)
        have RG := Lib.hid (RG.out.grow gn)
        have R2 := Lib.hid (R2.out.grow gn)
        have R3 := Lib.hid (R3.out.grow gn)
        have G := Lib.hid (G.out.trans gn)
        clear gn
        go_wp2_with fail
        go_ret
        exact ⟨_, rfl, G.out, rfl⟩
  · by_cases n0 : k0 ≤ 6
    · by_cases n1 : k1 ≤ 6
      · have n2 : ¬ k2 ≤ 6 := fun e => hm ⟨n0, n1, e⟩
        clear hm
        go_wp2_with fail
        refine (law_awake w1 (HT.out.grow G.out)).mono ?_
        rintro _ w2 ⟨_, rfl, g2, rfl⟩
        go_wp2_with fail
        go_ret
        exact ⟨_, rfl, G.out.trans g2, rfl⟩
      · clear hm
        go_wp2_with fail
        refine (law_awake w1 (HT.out.grow G.out)).mono ?_
        rintro _ w2 ⟨_, rfl, g2, rfl⟩
        go_wp2_with fail
        go_ret
        exact ⟨_, rfl, G.out.trans g2, rfl⟩
    · clear hm
      go_wp2_with fail
      refine (law_awake w1 (HT.out.grow G.out)).mono ?_
      rintro _ w2 ⟨_, rfl, g2, rfl⟩
      go_wp2_with fail
      go_ret
      exact ⟨_, rfl, G.out.trans g2, rfl⟩
end Go.Proofs.YtjhnbepjdpgemaaDoor

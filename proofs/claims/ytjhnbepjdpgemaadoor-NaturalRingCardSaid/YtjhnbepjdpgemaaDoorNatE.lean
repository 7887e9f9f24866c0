/-
  NaturalRing: the walk (printed by natgen.py).
-/
import Derived.Test.YtjhnbepjdpgemaaDoorNatC
namespace Go.Proofs.YtjhnbepjdpgemaaDoor
open Go.RowKit Go.Lib
set_option linter.unusedVariables false
set_option linter.unusedSimpArgs false

theorem cmp_self (x : Nat) : cmpZ x x = 0 := cmpZ_eq rfl
set_option maxHeartbeats 800000 in
theorem law_Ring1 (w : World) (va vb : Value) (x y L M : Nat) (hx : NatR w va x L) (hy : NatR w vb y M) (h : x = y) (hL : L ≤ 1000000) (hM : M ≤ 1000000) :
    Calls Tryd.prog 28 #[va, vb] w (Ret w fun r w' => r = .bool true) := by
  subst h
  have HX := Lib.hid hx
  have HY := Lib.hid hy
  clear hx hy
  go_enter Tryd.func28, Tryd.ntmps28
  go_wp2_with fail
  refine (n_Cmp _ _ _ x x L M 0 HX.out.2 HY.out.2 (cmp_self x) hL hM).mono ?_
  rintro _ w1 ⟨_, rfl, g1, rfl⟩
  go_wp2_with fail
  refine (n_Same _ _ _ x x (HX.out.grow g1).1 (HY.out.grow g1).1 rfl).mono ?_
  rintro _ w2 ⟨_, rfl, g2, rfl⟩
  go_wp2_with fail
  go_ret
  exact ⟨_, rfl, g1.trans g2, rfl⟩

set_option maxRecDepth 100000 in
set_option maxHeartbeats 6400000 in
theorem law_NaturalRing (w : World) (htab : Tab w) (va : Value) (l0 : List Nat) (i0 : NatL w va l0) (vb : Value) (l1 : List Nat) (i1 : NatL w vb l1) (vc : Value) (l2 : List Nat) (i2 : NatL w vc l2) :
    Calls Tryd.prog 7 #[va, vb, vc] w (Ret w fun r w' => r = .bool true) := by
  have HT := Lib.hid htab
  clear htab
  have HA0 := Lib.hid i0
  obtain ⟨p0, k0, c0, rfl, hk0⟩ := i0.slice
  have HK0 := Lib.hid hk0
  clear i0 hk0
  have HA1 := Lib.hid i1
  obtain ⟨p1, k1, c1, rfl, hk1⟩ := i1.slice
  have HK1 := Lib.hid hk1
  clear i1 hk1
  have HA2 := Lib.hid i2
  obtain ⟨p2, k2, c2, rfl, hk2⟩ := i2.slice
  have HK2 := Lib.hid hk2
  clear i2 hk2
  go_enter Tryd.func7, Tryd.ntmps7
  go_wp2_with fail
  refine (law_awake w HT.out).mono ?_
  rintro _ w1 ⟨_, rfl, g1, rfl⟩
  have G1 := Lib.hid g1
  clear g1
  go_wp2_with fail
  obtain ⟨t, ht⟩ : ∃ t, decide (∀ i, i < 3 → (if i = 0 then k0 else if i = 1 then k1 else k2) ≤ 12) = t := ⟨_, rfl⟩
  refine (law_few _ _ 3 3 (fun i => if i = 0 then p0 else if i = 1 then p1 else p2) (fun i => if i = 0 then k0 else if i = 1 then k1 else k2) (fun i => if i = 0 then c0 else if i = 1 then c1 else c2) (by decide) (by decide) t ht (fun i hi => ?_)).mono ?_
  · match i, hi with
    | 0, _ => exact cell_newA _ _ _ _
    | 1, _ => exact cell_newA _ _ _ _
    | 2, _ => exact cell_newA _ _ _ _
  rintro _ w3 ⟨_, rfl, g3, rfl⟩
  have G := Lib.hid (G1.out.trans (((Gr.refl w1).alloc _).trans g3))
  clear g3 G1
  cases t
  · clear ht
    go_wp2_with fail
    refine (law_awake w3 (HT.out.grow G.out)).mono ?_
    rintro _ w4 ⟨_, rfl, g4, rfl⟩
    have G4 := Lib.hid g4
    clear g4
    go_wp2_with fail
    go_ret
    exact ⟨_, rfl, G.out.trans G4.out, rfl⟩
  · have hh := of_decide_eq_true ht
    have m0 : k0 ≤ 12 := hh 0 (by decide)
    obtain ⟨x0, hx0⟩ : ∃ x, nval l0 = x := ⟨_, rfl⟩
    have IA0 := Lib.hid (show NatV w3 _ x0 12 from ⟨l0, HA0.out.grow G.out, hx0, by rw [← HK0.out]; exact m0⟩)
    have m1 : k1 ≤ 12 := hh 1 (by decide)
    obtain ⟨x1, hx1⟩ : ∃ x, nval l1 = x := ⟨_, rfl⟩
    have IA1 := Lib.hid (show NatV w3 _ x1 12 from ⟨l1, HA1.out.grow G.out, hx1, by rw [← HK1.out]; exact m1⟩)
    have m2 : k2 ≤ 12 := hh 2 (by decide)
    obtain ⟨x2, hx2⟩ : ∃ x, nval l2 = x := ⟨_, rfl⟩
    have IA2 := Lib.hid (show NatV w3 _ x2 12 from ⟨l2, HA2.out.grow G.out, hx2, by rw [← HK2.out]; exact m2⟩)
    clear hh ht m0 hx0 m1 hx1 m2 hx2
    go_wp2_with fail
    refine (n_Add _ _ _ _ _ (x0 + x1) 12 12 IA0.out IA1.out rfl (by decide) (by decide)).mono ?_
    rintro _ w4 ⟨rR1, rfl, gn, hr⟩
    have IA0 := Lib.hid (IA0.out.grow gn)
    have IA1 := Lib.hid (IA1.out.grow gn)
    have IA2 := Lib.hid (IA2.out.grow gn)
    have G := Lib.hid (G.out.trans gn)
    have R1 := Lib.hid hr
    clear gn hr
    go_wp2_with fail
    refine (n_Sub _ _ _ _ _ x0 25 12 R1.out.2 IA1.out (Nat.le_add_left _ _) (Nat.add_sub_cancel _ _) (by decide) (by decide)).mono ?_
    rintro _ w5 ⟨_, rfl, gn, dd, rfl, hd⟩
    clear R1
    have IA0 := Lib.hid (IA0.out.grow gn)
    have IA1 := Lib.hid (IA1.out.grow gn)
    have IA2 := Lib.hid (IA2.out.grow gn)
    have G := Lib.hid (G.out.trans gn)
    have DD := Lib.hid hd
    clear gn hd
    go_wp2_with fail
    refine (n_Add _ _ _ _ _ (x0 + x1) 12 12 IA0.out IA1.out rfl (by decide) (by decide)).mono ?_
    rintro _ w6 ⟨rR1, rfl, gn, hr⟩
    have IA0 := Lib.hid (IA0.out.grow gn)
    have IA1 := Lib.hid (IA1.out.grow gn)
    have IA2 := Lib.hid (IA2.out.grow gn)
    have DD := Lib.hid (DD.out.grow gn)
    have G := Lib.hid (G.out.trans gn)
    have R1 := Lib.hid hr
    clear gn hr
    go_wp2_with fail
    refine (n_Add _ _ _ _ _ (x1 + x0) 12 12 IA1.out IA0.out rfl (by decide) (by decide)).mono ?_
    rintro _ w7 ⟨rR2, rfl, gn, hr⟩
    have IA0 := Lib.hid (IA0.out.grow gn)
    have IA1 := Lib.hid (IA1.out.grow gn)
    have IA2 := Lib.hid (IA2.out.grow gn)
    have DD := Lib.hid (DD.out.grow gn)
    have R1 := Lib.hid (R1.out.grow gn)
    have G := Lib.hid (G.out.trans gn)
    have R2 := Lib.hid hr
    clear gn hr
    go_wp2_with fail
    refine (law_Ring1 _ _ _ _ _ 25 25 R1.out R2.out (Nat.add_comm _ _) (by decide) (by decide)).mono ?_
    rintro _ w8 ⟨_, rfl, gn, rfl⟩
    clear R1
    clear R2
    have IA0 := Lib.hid (IA0.out.grow gn)
    have IA1 := Lib.hid (IA1.out.grow gn)
    have IA2 := Lib.hid (IA2.out.grow gn)
    have DD := Lib.hid (DD.out.grow gn)
    have G := Lib.hid (G.out.trans gn)
    clear gn
    go_wp2_with fail
    refine (n_Mul _ _ _ _ _ (x0 * x1) 12 12 IA0.out IA1.out rfl (by decide) (by decide)).mono ?_
    rintro _ w9 ⟨rR1, rfl, gn, hr⟩
    have IA0 := Lib.hid (IA0.out.grow gn)
    have IA1 := Lib.hid (IA1.out.grow gn)
    have IA2 := Lib.hid (IA2.out.grow gn)
    have DD := Lib.hid (DD.out.grow gn)
    have G := Lib.hid (G.out.trans gn)
    have R1 := Lib.hid hr
    clear gn hr
    go_wp2_with fail
    refine (n_Mul _ _ _ _ _ (x1 * x0) 12 12 IA1.out IA0.out rfl (by decide) (by decide)).mono ?_
    rintro _ w10 ⟨rR2, rfl, gn, hr⟩
    have IA0 := Lib.hid (IA0.out.grow gn)
    have IA1 := Lib.hid (IA1.out.grow gn)
    have IA2 := Lib.hid (IA2.out.grow gn)
    have DD := Lib.hid (DD.out.grow gn)
    have R1 := Lib.hid (R1.out.grow gn)
    have G := Lib.hid (G.out.trans gn)
    have R2 := Lib.hid hr
    clear gn hr
    go_wp2_with fail
    refine (law_Ring1 _ _ _ _ _ 25 25 R1.out R2.out (Nat.mul_comm _ _) (by decide) (by decide)).mono ?_
    rintro _ w11 ⟨_, rfl, gn, rfl⟩
    clear R1
    clear R2
    have IA0 := Lib.hid (IA0.out.grow gn)
    have IA1 := Lib.hid (IA1.out.grow gn)
    have IA2 := Lib.hid (IA2.out.grow gn)
    have DD := Lib.hid (DD.out.grow gn)
    have G := Lib.hid (G.out.trans gn)
    clear gn
    go_wp2_with fail
    refine (n_Add _ _ _ _ _ (x0 + x1) 12 12 IA0.out IA1.out rfl (by decide) (by decide)).mono ?_
    rintro _ w12 ⟨rR1, rfl, gn, hr⟩
    have IA0 := Lib.hid (IA0.out.grow gn)
    have IA1 := Lib.hid (IA1.out.grow gn)
    have IA2 := Lib.hid (IA2.out.grow gn)
    have DD := Lib.hid (DD.out.grow gn)
    have G := Lib.hid (G.out.trans gn)
    have R1 := Lib.hid hr
    clear gn hr
    go_wp2_with fail
    refine (n_Add _ _ _ _ _ (x0 + x1 + x2) 25 12 R1.out.2 IA2.out rfl (by decide) (by decide)).mono ?_
    rintro _ w13 ⟨rR2, rfl, gn, hr⟩
    clear R1
    have IA0 := Lib.hid (IA0.out.grow gn)
    have IA1 := Lib.hid (IA1.out.grow gn)
    have IA2 := Lib.hid (IA2.out.grow gn)
    have DD := Lib.hid (DD.out.grow gn)
    have G := Lib.hid (G.out.trans gn)
    have R2 := Lib.hid hr
    clear gn hr
    go_wp2_with fail
    refine (n_Add _ _ _ _ _ (x1 + x2) 12 12 IA1.out IA2.out rfl (by decide) (by decide)).mono ?_
    rintro _ w14 ⟨rR3, rfl, gn, hr⟩
    have IA0 := Lib.hid (IA0.out.grow gn)
    have IA1 := Lib.hid (IA1.out.grow gn)
    have IA2 := Lib.hid (IA2.out.grow gn)
    have DD := Lib.hid (DD.out.grow gn)
    have R2 := Lib.hid (R2.out.grow gn)
    have G := Lib.hid (G.out.trans gn)
    have R3 := Lib.hid hr
    clear gn hr
    go_wp2_with fail
    refine (n_Add _ _ _ _ _ (x0 + (x1 + x2)) 12 25 IA0.out R3.out.2 rfl (by decide) (by decide)).mono ?_
    rintro _ w15 ⟨rR4, rfl, gn, hr⟩
    clear R3
    have IA0 := Lib.hid (IA0.out.grow gn)
    have IA1 := Lib.hid (IA1.out.grow gn)
    have IA2 := Lib.hid (IA2.out.grow gn)
    have DD := Lib.hid (DD.out.grow gn)
    have R2 := Lib.hid (R2.out.grow gn)
    have G := Lib.hid (G.out.trans gn)
    have R4 := Lib.hid hr
    clear gn hr
    go_wp2_with fail
    refine (law_Ring1 _ _ _ _ _ 38 38 R2.out R4.out (Nat.add_assoc _ _ _) (by decide) (by decide)).mono ?_
    rintro _ w16 ⟨_, rfl, gn, rfl⟩
    clear R2
    clear R4
    have IA0 := Lib.hid (IA0.out.grow gn)
    have IA1 := Lib.hid (IA1.out.grow gn)
    have IA2 := Lib.hid (IA2.out.grow gn)
    have DD := Lib.hid (DD.out.grow gn)
    have G := Lib.hid (G.out.trans gn)
    clear gn
    go_wp2_with fail
    refine (n_Mul _ _ _ _ _ (x0 * x1) 12 12 IA0.out IA1.out rfl (by decide) (by decide)).mono ?_
    rintro _ w17 ⟨rR1, rfl, gn, hr⟩
    have IA0 := Lib.hid (IA0.out.grow gn)
    have IA1 := Lib.hid (IA1.out.grow gn)
    have IA2 := Lib.hid (IA2.out.grow gn)
    have DD := Lib.hid (DD.out.grow gn)
    have G := Lib.hid (G.out.trans gn)
    have R1 := Lib.hid hr
    clear gn hr
    go_wp2_with fail
    refine (n_Mul _ _ _ _ _ (x0 * x1 * x2) 25 12 R1.out.2 IA2.out rfl (by decide) (by decide)).mono ?_
    rintro _ w18 ⟨rR2, rfl, gn, hr⟩
    clear R1
    have IA0 := Lib.hid (IA0.out.grow gn)
    have IA1 := Lib.hid (IA1.out.grow gn)
    have IA2 := Lib.hid (IA2.out.grow gn)
    have DD := Lib.hid (DD.out.grow gn)
    have G := Lib.hid (G.out.trans gn)
    have R2 := Lib.hid hr
    clear gn hr
    go_wp2_with fail
    refine (n_Mul _ _ _ _ _ (x1 * x2) 12 12 IA1.out IA2.out rfl (by decide) (by decide)).mono ?_
    rintro _ w19 ⟨rR3, rfl, gn, hr⟩
    have IA0 := Lib.hid (IA0.out.grow gn)
    have IA1 := Lib.hid (IA1.out.grow gn)
    have IA2 := Lib.hid (IA2.out.grow gn)
    have DD := Lib.hid (DD.out.grow gn)
    have R2 := Lib.hid (R2.out.grow gn)
    have G := Lib.hid (G.out.trans gn)
    have R3 := Lib.hid hr
    clear gn hr
    go_wp2_with fail
    refine (n_Mul _ _ _ _ _ (x0 * (x1 * x2)) 12 25 IA0.out R3.out.2 rfl (by decide) (by decide)).mono ?_
    rintro _ w20 ⟨rR4, rfl, gn, hr⟩
    clear R3
    have IA0 := Lib.hid (IA0.out.grow gn)
    have IA1 := Lib.hid (IA1.out.grow gn)
    have IA2 := Lib.hid (IA2.out.grow gn)
    have DD := Lib.hid (DD.out.grow gn)
    have R2 := Lib.hid (R2.out.grow gn)
    have G := Lib.hid (G.out.trans gn)
    have R4 := Lib.hid hr
    clear gn hr
    go_wp2_with fail
    refine (law_Ring1 _ _ _ _ _ 38 38 R2.out R4.out (Nat.mul_assoc _ _ _) (by decide) (by decide)).mono ?_
    rintro _ w21 ⟨_, rfl, gn, rfl⟩
    clear R2
    clear R4
    have IA0 := Lib.hid (IA0.out.grow gn)
    have IA1 := Lib.hid (IA1.out.grow gn)
    have IA2 := Lib.hid (IA2.out.grow gn)
    have DD := Lib.hid (DD.out.grow gn)
    have G := Lib.hid (G.out.trans gn)
    clear gn
    go_wp2_with fail
    refine (n_Add _ _ _ _ _ (x1 + x2) 12 12 IA1.out IA2.out rfl (by decide) (by decide)).mono ?_
    rintro _ w22 ⟨rR1, rfl, gn, hr⟩
    have IA0 := Lib.hid (IA0.out.grow gn)
    have IA1 := Lib.hid (IA1.out.grow gn)
    have IA2 := Lib.hid (IA2.out.grow gn)
    have DD := Lib.hid (DD.out.grow gn)
    have G := Lib.hid (G.out.trans gn)
    have R1 := Lib.hid hr
    clear gn hr
    go_wp2_with fail
    refine (n_Mul _ _ _ _ _ (x0 * (x1 + x2)) 12 25 IA0.out R1.out.2 rfl (by decide) (by decide)).mono ?_
    rintro _ w23 ⟨rR2, rfl, gn, hr⟩
    clear R1
    have IA0 := Lib.hid (IA0.out.grow gn)
    have IA1 := Lib.hid (IA1.out.grow gn)
    have IA2 := Lib.hid (IA2.out.grow gn)
    have DD := Lib.hid (DD.out.grow gn)
    have G := Lib.hid (G.out.trans gn)
    have R2 := Lib.hid hr
    clear gn hr
    go_wp2_with fail
    refine (n_Mul _ _ _ _ _ (x0 * x1) 12 12 IA0.out IA1.out rfl (by decide) (by decide)).mono ?_
    rintro _ w24 ⟨rR3, rfl, gn, hr⟩
    have IA0 := Lib.hid (IA0.out.grow gn)
    have IA1 := Lib.hid (IA1.out.grow gn)
    have IA2 := Lib.hid (IA2.out.grow gn)
    have DD := Lib.hid (DD.out.grow gn)
    have R2 := Lib.hid (R2.out.grow gn)
    have G := Lib.hid (G.out.trans gn)
    have R3 := Lib.hid hr
    clear gn hr
    go_wp2_with fail
    refine (n_Mul _ _ _ _ _ (x0 * x2) 12 12 IA0.out IA2.out rfl (by decide) (by decide)).mono ?_
    rintro _ w25 ⟨rR4, rfl, gn, hr⟩
    have IA0 := Lib.hid (IA0.out.grow gn)
    have IA1 := Lib.hid (IA1.out.grow gn)
    have IA2 := Lib.hid (IA2.out.grow gn)
    have DD := Lib.hid (DD.out.grow gn)
    have R2 := Lib.hid (R2.out.grow gn)
    have R3 := Lib.hid (R3.out.grow gn)
    have G := Lib.hid (G.out.trans gn)
    have R4 := Lib.hid hr
    clear gn hr
    go_wp2_with fail
    refine (n_Add _ _ _ _ _ (x0 * x1 + x0 * x2) 25 25 R3.out.2 R4.out.2 rfl (by decide) (by decide)).mono ?_
    rintro _ w26 ⟨rR5, rfl, gn, hr⟩
    clear R3
    clear R4
    have IA0 := Lib.hid (IA0.out.grow gn)
    have IA1 := Lib.hid (IA1.out.grow gn)
    have IA2 := Lib.hid (IA2.out.grow gn)
    have DD := Lib.hid (DD.out.grow gn)
    have R2 := Lib.hid (R2.out.grow gn)
    have G := Lib.hid (G.out.trans gn)
    have R5 := Lib.hid hr
    clear gn hr
    go_wp2_with fail
    refine (law_Ring1 _ _ _ _ _ 38 51 R2.out R5.out (Nat.mul_add _ _ _) (by decide) (by decide)).mono ?_
    rintro _ w27 ⟨_, rfl, gn, rfl⟩
    clear R2
    clear R5
    have IA0 := Lib.hid (IA0.out.grow gn)
    have IA1 := Lib.hid (IA1.out.grow gn)
    have IA2 := Lib.hid (IA2.out.grow gn)
    have DD := Lib.hid (DD.out.grow gn)
    have G := Lib.hid (G.out.trans gn)
    clear gn
    go_wp2_with fail
    refine (n_Cmp _ _ _ _ _ 25 12 _ DD.out.2 IA0.out (cmp_self x0) (by decide) (by decide)).mono ?_
    rintro _ w28 ⟨_, rfl, gn, rfl⟩
    have IA0 := Lib.hid (IA0.out.grow gn)
    have IA1 := Lib.hid (IA1.out.grow gn)
    have IA2 := Lib.hid (IA2.out.grow gn)
    have DD := Lib.hid (DD.out.grow gn)
    have G := Lib.hid (G.out.trans gn)
    clear gn
    go_wp2_with fail
    go_ret
    exact ⟨_, rfl, G.out, rfl⟩
end Go.Proofs.YtjhnbepjdpgemaaDoor

/-
  NaturalOrder: the walk (printed by natgen.py).
-/
import Derived.Test.YtjhnbepjdpgemaaDoorNatC
namespace Go.Proofs.YtjhnbepjdpgemaaDoor
open Go.RowKit Go.Lib
set_option linter.unusedVariables false
set_option linter.unusedSimpArgs false

theorem ncmp_spec {x y : Nat} {c : Int} (h : cmpZ x y = c) : (x < y ∧ c = -1) ∨ (x = y ∧ c = 0) ∨ (y < x ∧ c = 1) := by
  unfold cmpZ at h
  split at h
  · exact .inl ⟨by omega, h.symm⟩
  · split at h
    · exact .inr (.inl ⟨by omega, h.symm⟩)
    · exact .inr (.inr ⟨by omega, h.symm⟩)
theorem ncmp3 {x y : Nat} {c : Int} (h : cmpZ x y = c) : c = -1 ∨ c = 0 ∨ c = 1 := by
  rcases ncmp_spec h with h | h | h <;> simp [h.2]
theorem norder_cases {x y z : Nat} {c1 c2 c3 : Int} (h1 : cmpZ x y = c1) (h2 : cmpZ y z = c2) (h3 : cmpZ x z = c3) :
    (c1 = -1 ∧ (c2 = -1 ∨ c2 = 0) ∧ c3 = -1) ∨ (c1 = -1 ∧ c2 = 1) ∨ (c1 = 0 ∧ c2 = c3) ∨ c1 = 1 := by
  have h1 := ncmp_spec h1
  have h2 := ncmp_spec h2
  have h3 := ncmp_spec h3
  omega
theorem ncmp_swap (x y : Nat) {c : Int} (h : cmpZ x y = c) : cmpZ y x = -c := by
  have h := ncmp_spec h
  have h' := ncmp_spec (x := y) (y := x) rfl
  omega
theorem ncmp_add (x y z : Nat) : cmpZ ((x + z : Nat) : Int) ((y + z : Nat) : Int) = cmpZ x y := by
  have h := ncmp_spec (x := x) (y := y) rfl
  have h' := ncmp_spec (x := x + z) (y := y + z) rfl
  omega
theorem bitLenAux_mono : ∀ (f x y : Nat), x ≤ y → Lib.bitLenAux f x ≤ Lib.bitLenAux f y
  | 0, _, _, _ => Nat.le_refl _
  | f + 1, x, y, h => by
    unfold Lib.bitLenAux
    by_cases hx : x = 0
    · rw [if_pos hx]; exact Nat.zero_le _
    · rw [if_neg hx, if_neg (by omega)]
      have := bitLenAux_mono f (x / 2) (y / 2) (Nat.div_le_div_right h)
      omega
theorem top_digit {x k : Nat} (h : (digs x).length = k + 1) : ∃ a, a < BB ^ k ∧ x = a + BB ^ k * gd (digs x) k := by
  have h1 := nval_split (digs x) k
  rw [nval_digs, h, Nat.min_eq_left (by omega), nval_drop, List.drop_eq_nil_of_le (by omega), show nval [] = 0 from rfl, Nat.mul_zero, Nat.add_zero] at h1
  refine ⟨_, ?_, h1⟩
  have h2 := nval_lt ((digs x).take k) (Dig.take (Dig.digs x) k)
  rwa [List.length_take, h, Nat.min_eq_left (by omega)] at h2
theorem bits_le {x y : Nat} (h : x ≤ y) : bitsN x ≤ bitsN y := by
  by_cases hx : x = 0
  · subst hx; exact Nat.zero_le _
  have hl := digs_mono_len h
  unfold bitsN
  rw [if_neg hx, if_neg (by omega)]
  obtain ⟨j, hj⟩ : ∃ j, (digs x).length = j + 1 := ⟨(digs x).length - 1, by
    have := List.length_pos_iff.2 (fun e => hx (digs_eq_nil.1 e)); omega⟩
  obtain ⟨k, hk⟩ : ∃ k, (digs y).length = k + 1 := ⟨(digs y).length - 1, by omega⟩
  rw [hj, hk, Nat.add_sub_cancel, Nat.add_sub_cancel]
  have hb := bitLen_le32 ((Dig.digs x).gd j)
  by_cases hjk : j = k
  · subst hjk
    obtain ⟨a, ha, e1⟩ := top_digit hj
    obtain ⟨b, hb, e2⟩ := top_digit hk
    have hg : gd (digs x) j ≤ gd (digs y) j := by
      rcases Nat.lt_or_ge (gd (digs y) j) (gd (digs x) j) with h' | h'
      · exfalso
        have h3 := Nat.mul_le_mul_left (BB ^ j) (show gd (digs y) j + 1 ≤ gd (digs x) j from h')
        rw [Nat.mul_add, Nat.mul_one] at h3
        generalize BB ^ j * gd (digs y) j = Y at *
        generalize BB ^ j * gd (digs x) j = X at *
        generalize BB ^ j = P at *
        omega
      · exact h'
    have := bitLenAux_mono 64 _ _ hg
    unfold Lib.bitLen
    omega
  · have : Lib.bitLen (gd (digs x) j) ≤ 32 := hb
    omega
theorem bits_mono {x y : Nat} {c : Int} (h : cmpZ x y = c) (hc : c ≤ 0) : bitsN x ≤ bitsN y := by
  have h := ncmp_spec h
  exact bits_le (by omega)
theorem n_Bits (w : World) (va : Value) (x L : Nat) (z : Int) (hx : NatV w va x L) (hz : (bitsN x : Int) = z) (hL : L ≤ 1000000) :
    Calls Tryd.prog 24 #[va] w (Ret w fun r w' => r = .int .i64 z) := by
  subst hz
  obtain ⟨l, h1, rfl, h3⟩ := hx
  exact (nat_Bits w va l h1 (by omega)).mono fun e w' ⟨he, hw⟩ => ⟨_, he, hw ▸ Gr.refl _, rfl⟩

set_option maxRecDepth 100000 in
set_option maxHeartbeats 6400000 in
theorem law_NaturalOrder (w : World) (htab : Tab w) (va : Value) (l0 : List Nat) (i0 : NatL w va l0) (vb : Value) (l1 : List Nat) (i1 : NatL w vb l1) (vc : Value) (l2 : List Nat) (i2 : NatL w vc l2) :
    Calls Tryd.prog 5 #[va, vb, vc] w (Ret w fun r w' => r = .bool true) := by
  have HT := Lib.hid htab
  clear htab
  have HA0 := Lib.hid i0
  obtain ⟨p0, k0, c0, rfl, hk0⟩ := i0.slice
  have HK0 := Lib.hid hk0
  clear i0 hk0
  have HA1 := Lib.hid i1
  obtain ⟨p1, k1, c1, rfl, hk1⟩ := i1.slice
  have HK1 := Lib.hid hk1
  clear i1 hk1
  have HA2 := Lib.hid i2
  obtain ⟨p2, k2, c2, rfl, hk2⟩ := i2.slice
  have HK2 := Lib.hid hk2
  clear i2 hk2
  go_enter Tryd.func5, Tryd.ntmps5
  go_wp2_with fail
  refine (law_awake w HT.out).mono ?_
  rintro _ w1 ⟨_, rfl, g1, rfl⟩
  have G1 := Lib.hid g1
  clear g1
  go_wp2_with fail
  obtain ⟨t, ht⟩ : ∃ t, decide (∀ i, i < 3 → (if i = 0 then k0 else if i = 1 then k1 else k2) ≤ 12) = t := ⟨_, rfl⟩
  refine (law_few _ _ 3 3 (fun i => if i = 0 then p0 else if i = 1 then p1 else p2) (fun i => if i = 0 then k0 else if i = 1 then k1 else k2) (fun i => if i = 0 then c0 else if i = 1 then c1 else c2) (by decide) (by decide) t ht (fun i hi => ?_)).mono ?_
  · match i, hi with
    | 0, _ => exact cell_newA _ _ _ _
    | 1, _ => exact cell_newA _ _ _ _
    | 2, _ => exact cell_newA _ _ _ _
  rintro _ w3 ⟨_, rfl, g3, rfl⟩
  have G := Lib.hid (G1.out.trans (((Gr.refl w1).alloc _).trans g3))
  clear g3 G1
  cases t
  · clear ht
    go_wp2_with fail
    refine (law_awake w3 (HT.out.grow G.out)).mono ?_
    rintro _ w4 ⟨_, rfl, g4, rfl⟩
    have G4 := Lib.hid g4
    clear g4
    go_wp2_with fail
    go_ret
    exact ⟨_, rfl, G.out.trans G4.out, rfl⟩
  · have hh := of_decide_eq_true ht
    have m0 : k0 ≤ 12 := hh 0 (by decide)
    obtain ⟨x0, hx0⟩ : ∃ x, nval l0 = x := ⟨_, rfl⟩
    have IA0 := Lib.hid (show NatV w3 _ x0 12 from ⟨l0, HA0.out.grow G.out, hx0, by rw [← HK0.out]; exact m0⟩)
    have m1 : k1 ≤ 12 := hh 1 (by decide)
    obtain ⟨x1, hx1⟩ : ∃ x, nval l1 = x := ⟨_, rfl⟩
    have IA1 := Lib.hid (show NatV w3 _ x1 12 from ⟨l1, HA1.out.grow G.out, hx1, by rw [← HK1.out]; exact m1⟩)
    have m2 : k2 ≤ 12 := hh 2 (by decide)
    obtain ⟨x2, hx2⟩ : ∃ x, nval l2 = x := ⟨_, rfl⟩
    have IA2 := Lib.hid (show NatV w3 _ x2 12 from ⟨l2, HA2.out.grow G.out, hx2, by rw [← HK2.out]; exact m2⟩)
    clear hh ht m0 hx0 m1 hx1 m2 hx2
    obtain ⟨z0, hz0⟩ : ∃ c, cmpZ x0 x1 = c := ⟨_, rfl⟩
    have C0 := Lib.hid hz0
    clear hz0
    obtain ⟨z1, hz1⟩ : ∃ c, cmpZ x1 x2 = c := ⟨_, rfl⟩
    have C1 := Lib.hid hz1
    clear hz1
    obtain ⟨z2, hz2⟩ : ∃ c, cmpZ x0 x2 = c := ⟨_, rfl⟩
    have C2 := Lib.hid hz2
    clear hz2
    go_wp2_with fail
    refine (n_Cmp _ _ _ _ _ 12 12 _ IA0.out IA1.out C0.out (by decide) (by decide)).mono ?_
    rintro _ w4 ⟨_, rfl, gn, rfl⟩
    have IA0 := Lib.hid (IA0.out.grow gn)
    have IA1 := Lib.hid (IA1.out.grow gn)
    have IA2 := Lib.hid (IA2.out.grow gn)
    have G := Lib.hid (G.out.trans gn)
    clear gn
    go_wp2_with fail
    refine (n_Cmp _ _ _ _ _ 12 12 _ IA1.out IA2.out C1.out (by decide) (by decide)).mono ?_
    rintro _ w5 ⟨_, rfl, gn, rfl⟩
    have IA0 := Lib.hid (IA0.out.grow gn)
    have IA1 := Lib.hid (IA1.out.grow gn)
    have IA2 := Lib.hid (IA2.out.grow gn)
    have G := Lib.hid (G.out.trans gn)
    clear gn
    go_wp2_with fail
    refine (n_Cmp _ _ _ _ _ 12 12 _ IA0.out IA2.out C2.out (by decide) (by decide)).mono ?_
    rintro _ w6 ⟨_, rfl, gn, rfl⟩
    have IA0 := Lib.hid (IA0.out.grow gn)
    have IA1 := Lib.hid (IA1.out.grow gn)
    have IA2 := Lib.hid (IA2.out.grow gn)
    have G := Lib.hid (G.out.trans gn)
    clear gn
    go_wp2_with fail
    have HS := Lib.hid (ncmp_swap x0 x1 C0.out)
    rcases norder_cases C0.out C1.out C2.out with ⟨rfl, h2, rfl⟩ | ⟨rfl, rfl⟩ | ⟨rfl, rfl⟩ | rfl
    · have hl : z1 ≤ 0 := by omega
      refine (n_Cmp _ _ _ _ _ 12 12 _ IA1.out IA0.out HS.out (by decide) (by decide)).mono ?_
      rintro _ w7 ⟨_, rfl, gn, rfl⟩
      have IA0 := Lib.hid (IA0.out.grow gn)
      have IA1 := Lib.hid (IA1.out.grow gn)
      have IA2 := Lib.hid (IA2.out.grow gn)
      have G := Lib.hid (G.out.trans gn)
      clear gn
      go_wp2_with fail
      refine (n_Add _ _ _ _ _ (x0 + x2) 12 12 IA0.out IA2.out rfl (by decide) (by decide)).mono ?_
      rintro _ w8 ⟨rR1, rfl, gn, hr⟩
      have IA0 := Lib.hid (IA0.out.grow gn)
      have IA1 := Lib.hid (IA1.out.grow gn)
      have IA2 := Lib.hid (IA2.out.grow gn)
      have G := Lib.hid (G.out.trans gn)
      have R1 := Lib.hid hr
      clear gn hr
      go_wp2_with fail
      refine (n_Add _ _ _ _ _ (x1 + x2) 12 12 IA1.out IA2.out rfl (by decide) (by decide)).mono ?_
      rintro _ w9 ⟨rR2, rfl, gn, hr⟩
      have IA0 := Lib.hid (IA0.out.grow gn)
      have IA1 := Lib.hid (IA1.out.grow gn)
      have IA2 := Lib.hid (IA2.out.grow gn)
      have R1 := Lib.hid (R1.out.grow gn)
      have G := Lib.hid (G.out.trans gn)
      have R2 := Lib.hid hr
      clear gn hr
      go_wp2_with fail
      refine (n_Cmp _ _ _ _ _ 25 25 _ R1.out.2 R2.out.2 ((ncmp_add _ _ _).trans C0.out) (by decide) (by decide)).mono ?_
      rintro _ w10 ⟨_, rfl, gn, rfl⟩
      clear R1
      clear R2
      have IA0 := Lib.hid (IA0.out.grow gn)
      have IA1 := Lib.hid (IA1.out.grow gn)
      have IA2 := Lib.hid (IA2.out.grow gn)
      have G := Lib.hid (G.out.trans gn)
      clear gn
      go_wp2_with fail
      refine (n_Bits _ _ x0 12 _ IA0.out rfl (by decide)).mono ?_
      rintro _ w11 ⟨_, rfl, gn, rfl⟩
      have IA0 := Lib.hid (IA0.out.grow gn)
      have IA1 := Lib.hid (IA1.out.grow gn)
      have IA2 := Lib.hid (IA2.out.grow gn)
      have G := Lib.hid (G.out.trans gn)
      clear gn
      go_wp2_with fail
      refine (n_Bits _ _ x1 12 _ IA1.out rfl (by decide)).mono ?_
      rintro _ w12 ⟨_, rfl, gn, rfl⟩
      have IA0 := Lib.hid (IA0.out.grow gn)
      have IA1 := Lib.hid (IA1.out.grow gn)
      have IA2 := Lib.hid (IA2.out.grow gn)
      have G := Lib.hid (G.out.trans gn)
      clear gn
      have hb : (bitsN x0 : Int) ≤ (bitsN x1 : Int) := by exact_mod_cast bits_mono C0.out (by decide)
      go_wp2_with fail
      go_ret
      exact ⟨_, rfl, G.out, by first | rfl | (simp [hb])⟩
    · have hl : (1 : Int) ≤ 1 := by decide
      refine (n_Cmp _ _ _ _ _ 12 12 _ IA1.out IA0.out HS.out (by decide) (by decide)).mono ?_
      rintro _ w7 ⟨_, rfl, gn, rfl⟩
      have IA0 := Lib.hid (IA0.out.grow gn)
      have IA1 := Lib.hid (IA1.out.grow gn)
      have IA2 := Lib.hid (IA2.out.grow gn)
      have G := Lib.hid (G.out.trans gn)
      clear gn
      go_wp2_with fail
      refine (n_Add _ _ _ _ _ (x0 + x2) 12 12 IA0.out IA2.out rfl (by decide) (by decide)).mono ?_
      rintro _ w8 ⟨rR1, rfl, gn, hr⟩
      have IA0 := Lib.hid (IA0.out.grow gn)
      have IA1 := Lib.hid (IA1.out.grow gn)
      have IA2 := Lib.hid (IA2.out.grow gn)
      have G := Lib.hid (G.out.trans gn)
      have R1 := Lib.hid hr
      clear gn hr
      go_wp2_with fail
      refine (n_Add _ _ _ _ _ (x1 + x2) 12 12 IA1.out IA2.out rfl (by decide) (by decide)).mono ?_
      rintro _ w9 ⟨rR2, rfl, gn, hr⟩
      have IA0 := Lib.hid (IA0.out.grow gn)
      have IA1 := Lib.hid (IA1.out.grow gn)
      have IA2 := Lib.hid (IA2.out.grow gn)
      have R1 := Lib.hid (R1.out.grow gn)
      have G := Lib.hid (G.out.trans gn)
      have R2 := Lib.hid hr
      clear gn hr
      go_wp2_with fail
      refine (n_Cmp _ _ _ _ _ 25 25 _ R1.out.2 R2.out.2 ((ncmp_add _ _ _).trans C0.out) (by decide) (by decide)).mono ?_
      rintro _ w10 ⟨_, rfl, gn, rfl⟩
      clear R1
      clear R2
      have IA0 := Lib.hid (IA0.out.grow gn)
      have IA1 := Lib.hid (IA1.out.grow gn)
      have IA2 := Lib.hid (IA2.out.grow gn)
      have G := Lib.hid (G.out.trans gn)
      clear gn
      go_wp2_with fail
      refine (n_Bits _ _ x0 12 _ IA0.out rfl (by decide)).mono ?_
      rintro _ w11 ⟨_, rfl, gn, rfl⟩
      have IA0 := Lib.hid (IA0.out.grow gn)
      have IA1 := Lib.hid (IA1.out.grow gn)
      have IA2 := Lib.hid (IA2.out.grow gn)
      have G := Lib.hid (G.out.trans gn)
      clear gn
      go_wp2_with fail
      refine (n_Bits _ _ x1 12 _ IA1.out rfl (by decide)).mono ?_
      rintro _ w12 ⟨_, rfl, gn, rfl⟩
      have IA0 := Lib.hid (IA0.out.grow gn)
      have IA1 := Lib.hid (IA1.out.grow gn)
      have IA2 := Lib.hid (IA2.out.grow gn)
      have G := Lib.hid (G.out.trans gn)
      clear gn
      have hb : (bitsN x0 : Int) ≤ (bitsN x1 : Int) := by exact_mod_cast bits_mono C0.out (by decide)
      go_wp2_with fail
      go_ret
      exact ⟨_, rfl, G.out, by first | rfl | (simp [hb])⟩
    · rcases ncmp3 C1.out with rfl | rfl | rfl
      · have hl : (1 : Int) ≤ 1 := by decide
        refine (n_Cmp _ _ _ _ _ 12 12 _ IA1.out IA0.out HS.out (by decide) (by decide)).mono ?_
        rintro _ w7 ⟨_, rfl, gn, rfl⟩
        have IA0 := Lib.hid (IA0.out.grow gn)
        have IA1 := Lib.hid (IA1.out.grow gn)
        have IA2 := Lib.hid (IA2.out.grow gn)
        have G := Lib.hid (G.out.trans gn)
        clear gn
        go_wp2_with fail
        refine (n_Add _ _ _ _ _ (x0 + x2) 12 12 IA0.out IA2.out rfl (by decide) (by decide)).mono ?_
        rintro _ w8 ⟨rR1, rfl, gn, hr⟩
        have IA0 := Lib.hid (IA0.out.grow gn)
        have IA1 := Lib.hid (IA1.out.grow gn)
        have IA2 := Lib.hid (IA2.out.grow gn)
        have G := Lib.hid (G.out.trans gn)
        have R1 := Lib.hid hr
        clear gn hr
        go_wp2_with fail
        refine (n_Add _ _ _ _ _ (x1 + x2) 12 12 IA1.out IA2.out rfl (by decide) (by decide)).mono ?_
        rintro _ w9 ⟨rR2, rfl, gn, hr⟩
        have IA0 := Lib.hid (IA0.out.grow gn)
        have IA1 := Lib.hid (IA1.out.grow gn)
        have IA2 := Lib.hid (IA2.out.grow gn)
        have R1 := Lib.hid (R1.out.grow gn)
        have G := Lib.hid (G.out.trans gn)
        have R2 := Lib.hid hr
        clear gn hr
        go_wp2_with fail
        refine (n_Cmp _ _ _ _ _ 25 25 _ R1.out.2 R2.out.2 ((ncmp_add _ _ _).trans C0.out) (by decide) (by decide)).mono ?_
        rintro _ w10 ⟨_, rfl, gn, rfl⟩
        clear R1
        clear R2
        have IA0 := Lib.hid (IA0.out.grow gn)
        have IA1 := Lib.hid (IA1.out.grow gn)
        have IA2 := Lib.hid (IA2.out.grow gn)
        have G := Lib.hid (G.out.trans gn)
        clear gn
        go_wp2_with fail
        refine (n_Bits _ _ x0 12 _ IA0.out rfl (by decide)).mono ?_
        rintro _ w11 ⟨_, rfl, gn, rfl⟩
        have IA0 := Lib.hid (IA0.out.grow gn)
        have IA1 := Lib.hid (IA1.out.grow gn)
        have IA2 := Lib.hid (IA2.out.grow gn)
        have G := Lib.hid (G.out.trans gn)
        clear gn
        go_wp2_with fail
        refine (n_Bits _ _ x1 12 _ IA1.out rfl (by decide)).mono ?_
        rintro _ w12 ⟨_, rfl, gn, rfl⟩
        have IA0 := Lib.hid (IA0.out.grow gn)
        have IA1 := Lib.hid (IA1.out.grow gn)
        have IA2 := Lib.hid (IA2.out.grow gn)
        have G := Lib.hid (G.out.trans gn)
        clear gn
        have hb : (bitsN x0 : Int) ≤ (bitsN x1 : Int) := by exact_mod_cast bits_mono C0.out (by decide)
        go_wp2_with fail
        go_ret
        exact ⟨_, rfl, G.out, by first | rfl | (simp [hb])⟩
      · have hl : (1 : Int) ≤ 1 := by decide
        refine (n_Cmp _ _ _ _ _ 12 12 _ IA1.out IA0.out HS.out (by decide) (by decide)).mono ?_
        rintro _ w7 ⟨_, rfl, gn, rfl⟩
        have IA0 := Lib.hid (IA0.out.grow gn)
        have IA1 := Lib.hid (IA1.out.grow gn)
        have IA2 := Lib.hid (IA2.out.grow gn)
        have G := Lib.hid (G.out.trans gn)
        clear gn
        go_wp2_with fail
        refine (n_Add _ _ _ _ _ (x0 + x2) 12 12 IA0.out IA2.out rfl (by decide) (by decide)).mono ?_
        rintro _ w8 ⟨rR1, rfl, gn, hr⟩
        have IA0 := Lib.hid (IA0.out.grow gn)
        have IA1 := Lib.hid (IA1.out.grow gn)
        have IA2 := Lib.hid (IA2.out.grow gn)
        have G := Lib.hid (G.out.trans gn)
        have R1 := Lib.hid hr
        clear gn hr
        go_wp2_with fail
        refine (n_Add _ _ _ _ _ (x1 + x2) 12 12 IA1.out IA2.out rfl (by decide) (by decide)).mono ?_
        rintro _ w9 ⟨rR2, rfl, gn, hr⟩
        have IA0 := Lib.hid (IA0.out.grow gn)
        have IA1 := Lib.hid (IA1.out.grow gn)
        have IA2 := Lib.hid (IA2.out.grow gn)
        have R1 := Lib.hid (R1.out.grow gn)
        have G := Lib.hid (G.out.trans gn)
        have R2 := Lib.hid hr
        clear gn hr
        go_wp2_with fail
        refine (n_Cmp _ _ _ _ _ 25 25 _ R1.out.2 R2.out.2 ((ncmp_add _ _ _).trans C0.out) (by decide) (by decide)).mono ?_
        rintro _ w10 ⟨_, rfl, gn, rfl⟩
        clear R1
        clear R2
        have IA0 := Lib.hid (IA0.out.grow gn)
        have IA1 := Lib.hid (IA1.out.grow gn)
        have IA2 := Lib.hid (IA2.out.grow gn)
        have G := Lib.hid (G.out.trans gn)
        clear gn
        go_wp2_with fail
        refine (n_Bits _ _ x0 12 _ IA0.out rfl (by decide)).mono ?_
        rintro _ w11 ⟨_, rfl, gn, rfl⟩
        have IA0 := Lib.hid (IA0.out.grow gn)
        have IA1 := Lib.hid (IA1.out.grow gn)
        have IA2 := Lib.hid (IA2.out.grow gn)
        have G := Lib.hid (G.out.trans gn)
        clear gn
        go_wp2_with fail
        refine (n_Bits _ _ x1 12 _ IA1.out rfl (by decide)).mono ?_
        rintro _ w12 ⟨_, rfl, gn, rfl⟩
        have IA0 := Lib.hid (IA0.out.grow gn)
        have IA1 := Lib.hid (IA1.out.grow gn)
        have IA2 := Lib.hid (IA2.out.grow gn)
        have G := Lib.hid (G.out.trans gn)
        clear gn
        have hb : (bitsN x0 : Int) ≤ (bitsN x1 : Int) := by exact_mod_cast bits_mono C0.out (by decide)
        go_wp2_with fail
        go_ret
        exact ⟨_, rfl, G.out, by first | rfl | (simp [hb])⟩
      · have hl : (1 : Int) ≤ 1 := by decide
        refine (n_Cmp _ _ _ _ _ 12 12 _ IA1.out IA0.out HS.out (by decide) (by decide)).mono ?_
        rintro _ w7 ⟨_, rfl, gn, rfl⟩
        have IA0 := Lib.hid (IA0.out.grow gn)
        have IA1 := Lib.hid (IA1.out.grow gn)
        have IA2 := Lib.hid (IA2.out.grow gn)
        have G := Lib.hid (G.out.trans gn)
        clear gn
        go_wp2_with fail
        refine (n_Add _ _ _ _ _ (x0 + x2) 12 12 IA0.out IA2.out rfl (by decide) (by decide)).mono ?_
        rintro _ w8 ⟨rR1, rfl, gn, hr⟩
        have IA0 := Lib.hid (IA0.out.grow gn)
        have IA1 := Lib.hid (IA1.out.grow gn)
        have IA2 := Lib.hid (IA2.out.grow gn)
        have G := Lib.hid (G.out.trans gn)
        have R1 := Lib.hid hr
        clear gn hr
        go_wp2_with fail
        refine (n_Add _ _ _ _ _ (x1 + x2) 12 12 IA1.out IA2.out rfl (by decide) (by decide)).mono ?_
        rintro _ w9 ⟨rR2, rfl, gn, hr⟩
        have IA0 := Lib.hid (IA0.out.grow gn)
        have IA1 := Lib.hid (IA1.out.grow gn)
        have IA2 := Lib.hid (IA2.out.grow gn)
        have R1 := Lib.hid (R1.out.grow gn)
        have G := Lib.hid (G.out.trans gn)
        have R2 := Lib.hid hr
        clear gn hr
        go_wp2_with fail
        refine (n_Cmp _ _ _ _ _ 25 25 _ R1.out.2 R2.out.2 ((ncmp_add _ _ _).trans C0.out) (by decide) (by decide)).mono ?_
        rintro _ w10 ⟨_, rfl, gn, rfl⟩
        clear R1
        clear R2
        have IA0 := Lib.hid (IA0.out.grow gn)
        have IA1 := Lib.hid (IA1.out.grow gn)
        have IA2 := Lib.hid (IA2.out.grow gn)
        have G := Lib.hid (G.out.trans gn)
        clear gn
        go_wp2_with fail
        refine (n_Bits _ _ x0 12 _ IA0.out rfl (by decide)).mono ?_
        rintro _ w11 ⟨_, rfl, gn, rfl⟩
        have IA0 := Lib.hid (IA0.out.grow gn)
        have IA1 := Lib.hid (IA1.out.grow gn)
        have IA2 := Lib.hid (IA2.out.grow gn)
        have G := Lib.hid (G.out.trans gn)
        clear gn
        go_wp2_with fail
        refine (n_Bits _ _ x1 12 _ IA1.out rfl (by decide)).mono ?_
        rintro _ w12 ⟨_, rfl, gn, rfl⟩
        have IA0 := Lib.hid (IA0.out.grow gn)
        have IA1 := Lib.hid (IA1.out.grow gn)
        have IA2 := Lib.hid (IA2.out.grow gn)
        have G := Lib.hid (G.out.trans gn)
        clear gn
        have hb : (bitsN x0 : Int) ≤ (bitsN x1 : Int) := by exact_mod_cast bits_mono C0.out (by decide)
        go_wp2_with fail
        go_ret
        exact ⟨_, rfl, G.out, by first | rfl | (simp [hb])⟩
    · have hl : (1 : Int) ≤ 1 := by decide
      refine (n_Cmp _ _ _ _ _ 12 12 _ IA1.out IA0.out HS.out (by decide) (by decide)).mono ?_
      rintro _ w7 ⟨_, rfl, gn, rfl⟩
      have IA0 := Lib.hid (IA0.out.grow gn)
      have IA1 := Lib.hid (IA1.out.grow gn)
      have IA2 := Lib.hid (IA2.out.grow gn)
      have G := Lib.hid (G.out.trans gn)
      clear gn
      go_wp2_with fail
      refine (n_Add _ _ _ _ _ (x0 + x2) 12 12 IA0.out IA2.out rfl (by decide) (by decide)).mono ?_
      rintro _ w8 ⟨rR1, rfl, gn, hr⟩
      have IA0 := Lib.hid (IA0.out.grow gn)
      have IA1 := Lib.hid (IA1.out.grow gn)
      have IA2 := Lib.hid (IA2.out.grow gn)
      have G := Lib.hid (G.out.trans gn)
      have R1 := Lib.hid hr
      clear gn hr
      go_wp2_with fail
      refine (n_Add _ _ _ _ _ (x1 + x2) 12 12 IA1.out IA2.out rfl (by decide) (by decide)).mono ?_
      rintro _ w9 ⟨rR2, rfl, gn, hr⟩
      have IA0 := Lib.hid (IA0.out.grow gn)
      have IA1 := Lib.hid (IA1.out.grow gn)
      have IA2 := Lib.hid (IA2.out.grow gn)
      have R1 := Lib.hid (R1.out.grow gn)
      have G := Lib.hid (G.out.trans gn)
      have R2 := Lib.hid hr
      clear gn hr
      go_wp2_with fail
      refine (n_Cmp _ _ _ _ _ 25 25 _ R1.out.2 R2.out.2 ((ncmp_add _ _ _).trans C0.out) (by decide) (by decide)).mono ?_
      rintro _ w10 ⟨_, rfl, gn, rfl⟩
      clear R1
      clear R2
      have IA0 := Lib.hid (IA0.out.grow gn)
      have IA1 := Lib.hid (IA1.out.grow gn)
      have IA2 := Lib.hid (IA2.out.grow gn)
      have G := Lib.hid (G.out.trans gn)
      clear gn
      go_wp2_with fail
      go_ret
      exact ⟨_, rfl, G.out, rfl⟩
end Go.Proofs.YtjhnbepjdpgemaaDoor

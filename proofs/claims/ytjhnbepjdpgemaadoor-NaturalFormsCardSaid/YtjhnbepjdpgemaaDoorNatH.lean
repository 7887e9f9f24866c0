/-
  NaturalForms: the walk (printed by natgen.py).
-/
import Derived.Test.YtjhnbepjdpgemaaDoorNatC
import Derived.Test.YtjhnbepjdpgemaaDoorNumI
namespace Go.Proofs.YtjhnbepjdpgemaaDoor
open Go.RowKit Go.Lib
set_option linter.unusedVariables false
set_option linter.unusedSimpArgs false

theorem n_Uint (w : World) (va : Value) (x L : Nat) (t : Bool) (hx : NatV w va x L) (ht : decide ((digs x).length ≤ 2) = t) :
    Calls Tryd.prog 29 #[va] w (Ret w fun r w' => r = .tuple #[.int .u64 ((if t then x else 0 : Nat) : Int), .bool t]) := by
  obtain ⟨l, h1, rfl, h3⟩ := hx
  refine (nat_Uint w va l t h1 ht).mono ?_
  rintro e w' ⟨he, hw⟩
  exact ⟨_, he, hw ▸ Gr.refl _, by cases t <;> rfl⟩
theorem r_Uint (w : World) (va : Value) (x L : Nat) (t : Bool) (hx : NatV w va x L) (ht : decide ((digs x).length ≤ 2) = t) (hL : L ≤ 1000000) :
    Calls Tryd.prog 30 #[va] w (Ret w fun r w' => r = .tuple #[.int .u64 ((if t then x else 0 : Nat) : Int), .bool t]) := by
  obtain ⟨l, h1, rfl, h3⟩ := hx
  refine (ref_Uint w va l t h1 (by omega) ht).mono ?_
  rintro e w' ⟨r, he, g, hr⟩
  exact ⟨r, he, g, by rw [hr]; cases t <;> rfl⟩
theorem n_From (w : World) (n : Nat) (h : n < 18446744073709551616) :
    Calls Tryd.prog 31 #[.int .u64 n] w (Ret w fun r w' => NatR w' r n 2) :=
  nr_of (digs_two.2 h) (nat_From w n h)
theorem r_From (w : World) (n : Nat) (h : n < 18446744073709551616) :
    Calls Tryd.prog 33 #[.int .u64 n] w (Ret w fun r w' => NatR w' r n 2) :=
  nr_of (digs_two.2 h) (ref_From w n h)
theorem a_Valid (w : World) (va : Value) (l : List Nat) (t : Bool) (hx : NatL w va l) (hl : l.length ≤ 1000000) (ht : decide (trimL l = l) = t) :
    Calls Tryd.prog 32 #[va] w (Ret w fun r w' => r = .bool t) := by
  subst ht
  exact (nat_Valid w va l hx (by omega)).mono fun e w' ⟨he, hw⟩ => ⟨_, he, hw ▸ Gr.refl _, rfl⟩
theorem b_Valid (w : World) (va : Value) (l : List Nat) (t : Bool) (hx : NatL w va l) (hl : l.length ≤ 1000000) (ht : decide (trimL l = l) = t) :
    Calls Tryd.prog 14 #[va] w (Ret w fun r w' => r = .bool t) := by
  subst ht
  exact (ref_Valid w va l hx (by omega)).mono fun e w' ⟨he, hw⟩ => ⟨_, he, hw ▸ Gr.refl _, rfl⟩
theorem n_Bits (w : World) (va : Value) (x L : Nat) (z : Int) (hx : NatV w va x L) (hz : (bitsN x : Int) = z) (hL : L ≤ 1000000) :
    Calls Tryd.prog 24 #[va] w (Ret w fun r w' => r = .int .i64 z) := by
  subst hz
  obtain ⟨l, h1, rfl, h3⟩ := hx
  exact (nat_Bits w va l h1 (by omega)).mono fun e w' ⟨he, hw⟩ => ⟨_, he, hw ▸ Gr.refl _, rfl⟩
theorem r_Bits (w : World) (va : Value) (x L : Nat) (z : Int) (hx : NatV w va x L) (hz : (bitsN x : Int) = z) (hL : L ≤ 1000000) :
    Calls Tryd.prog 34 #[va] w (Ret w fun r w' => r = .int .i64 z) := by
  subst hz
  obtain ⟨l, h1, rfl, h3⟩ := hx
  exact ref_Bits w va l h1 (by omega)
theorem n_Text (w : World) (va : Value) (x L : Nat) (s : List UInt8) (hx : NatV w va x L) (hs : Lib.decDigits x = s) (ht : Tab w) (hL : L ≤ 900000) :
    Calls Tryd.prog 21 #[va] w (Ret w fun r w' => r = .string ⟨s.toArray⟩) := by
  subst hs
  obtain ⟨l, h1, rfl, h3⟩ := hx
  exact nat_Text w va l h1 (by omega) ht
theorem r_Text (w : World) (va : Value) (x L : Nat) (s : List UInt8) (hx : NatV w va x L) (hs : Lib.decDigits x = s) (hL : L ≤ 900000) :
    Calls Tryd.prog 35 #[va] w (Ret w fun r w' => r = .string ⟨s.toArray⟩) := by
  subst hs
  obtain ⟨l, h1, rfl, h3⟩ := hx
  exact ref_Text w va l h1 (by omega)

set_option maxRecDepth 100000 in
set_option maxHeartbeats 6400000 in
theorem law_NaturalForms (w : World) (htab : Tab w) (va : Value) (l0 : List Nat) (i0 : NatL w va l0) (z1 : Int) (y0 : 0 ≤ z1) (y1 : z1 ≤ 18446744073709551615) :
    Calls Tryd.prog 8 #[va, .int .u64 z1] w (Ret w fun r w' => r = .bool true) := by
  have HT := Lib.hid htab
  clear htab
  obtain ⟨nn, rfl⟩ : ∃ n : Nat, z1 = n := ⟨z1.toNat, by omega⟩
  have hnn : nn < 18446744073709551616 := by omega
  have HA0 := Lib.hid i0
  obtain ⟨p0, k0, c0, rfl, hk0⟩ := i0.slice
  have HK0 := Lib.hid hk0
  clear i0 hk0
  go_enter Tryd.func8, Tryd.ntmps8
  go_wp2_with fail
  refine (law_awake w HT.out).mono ?_
  rintro _ w1 ⟨_, rfl, g1, rfl⟩
  have G1 := Lib.hid g1
  clear g1
  go_wp2_with fail
  obtain ⟨t, ht⟩ : ∃ t, decide (∀ i, i < 1 → (k0) ≤ 12) = t := ⟨_, rfl⟩
  refine (law_few _ _ 1 1 (fun i => p0) (fun i => k0) (fun i => c0) (by decide) (by decide) t ht (fun i hi => ?_)).mono ?_
  · match i, hi with
    | 0, _ => exact cell_newA _ _ _ _
  rintro _ w3 ⟨_, rfl, g3, rfl⟩
  have G := Lib.hid (G1.out.trans (((Gr.refl w1).alloc _).trans g3))
  clear g3 G1
  cases t
  · clear ht
    go_wp2_with fail
    refine (law_awake w3 (HT.out.grow G.out)).mono ?_
    rintro _ w4 ⟨_, rfl, g4, rfl⟩
    have G4 := Lib.hid g4
    clear g4
    go_wp2_with fail
    go_ret
    exact ⟨_, rfl, G.out.trans G4.out, rfl⟩
  · have hh := of_decide_eq_true ht
    have m0 : k0 ≤ 12 := hh 0 (by decide)
    obtain ⟨x0, hx0⟩ : ∃ x, nval l0 = x := ⟨_, rfl⟩
    have IA0 := Lib.hid (show NatV w3 _ x0 12 from ⟨l0, HA0.out.grow G.out, hx0, by rw [← HK0.out]; exact m0⟩)
    clear hh ht hx0
    obtain ⟨u, hu⟩ : ∃ u, decide ((digs x0).length ≤ 2) = u := ⟨_, rfl⟩
    have HU := Lib.hid hu
    have HUn := Lib.hid (show decide ((digs nn).length ≤ 2) = true from decide_eq_true (digs_two.2 hnn))
    obtain ⟨X, hX⟩ : ∃ X : Int, ((if u then x0 else 0 : Nat) : Int) = X := ⟨_, rfl⟩
    obtain ⟨vt, hvt⟩ : ∃ vt, decide (trimL l0 = l0) = vt := ⟨_, rfl⟩
    have HVt := Lib.hid hvt
    obtain ⟨bz, hbz⟩ : ∃ bz, (bitsN x0 : Int) = bz := ⟨_, rfl⟩
    have HBz := Lib.hid hbz
    obtain ⟨tx, htx⟩ : ∃ tx, Lib.decDigits x0 = tx := ⟨_, rfl⟩
    have HTx := Lib.hid htx
    have HXe := Lib.hid hX
    have LA0 := Lib.hid (show NatL w3 _ l0 from HA0.out.grow G.out)
    obtain ⟨m0, hm0⟩ : ∃ m, l0.length = m := ⟨_, rfl⟩
    have hlen : l0.length ≤ 12 := by rw [← HK0.out]; first | assumption | omega
    clear hu hX hvt hbz htx
    go_wp2_with fail
    refine (n_Uint _ _ x0 12 u IA0.out HU.out).mono ?_
    rintro _ w4 ⟨_, rfl, gn, rfl⟩
    have IA0 := Lib.hid (IA0.out.grow gn)
    have LA0 := Lib.hid (LA0.out.grow gn)
    have G := Lib.hid (G.out.trans gn)
    clear gn
    rw [HXe.out]
    go_wp2_with fail
    refine (r_Uint _ _ x0 12 u IA0.out HU.out (by decide)).mono ?_
    rintro _ w5 ⟨_, rfl, gn, rfl⟩
    have IA0 := Lib.hid (IA0.out.grow gn)
    have LA0 := Lib.hid (LA0.out.grow gn)
    have G := Lib.hid (G.out.trans gn)
    clear gn
    rw [HXe.out]
    go_wp2_with fail
    refine (n_From _ nn hnn).mono ?_
    rintro _ w6 ⟨rF, rfl, gn, hr⟩
    have IA0 := Lib.hid (IA0.out.grow gn)
    have LA0 := Lib.hid (LA0.out.grow gn)
    have G := Lib.hid (G.out.trans gn)
    have RF := Lib.hid hr
    clear gn hr
    go_wp2_with fail
    refine (n_Uint _ _ nn 2 true RF.out.2 HUn.out).mono ?_
    rintro _ w7 ⟨_, rfl, gn, rfl⟩
    clear RF
    have IA0 := Lib.hid (IA0.out.grow gn)
    have LA0 := Lib.hid (LA0.out.grow gn)
    have G := Lib.hid (G.out.trans gn)
    clear gn
    go_wp2_with fail
    refine (a_Valid _ _ l0 vt LA0.out (Nat.le_trans hlen (by decide)) HVt.out).mono ?_
    rintro _ w8 ⟨_, rfl, gn, rfl⟩
    have IA0 := Lib.hid (IA0.out.grow gn)
    have LA0 := Lib.hid (LA0.out.grow gn)
    have G := Lib.hid (G.out.trans gn)
    clear gn
    go_wp2_with fail
    refine (b_Valid _ _ l0 vt LA0.out (Nat.le_trans hlen (by decide)) HVt.out).mono ?_
    rintro _ w9 ⟨_, rfl, gn, rfl⟩
    have IA0 := Lib.hid (IA0.out.grow gn)
    have LA0 := Lib.hid (LA0.out.grow gn)
    have G := Lib.hid (G.out.trans gn)
    clear gn
    go_wp2_with fail
    refine (n_From _ nn hnn).mono ?_
    rintro _ w10 ⟨rF, rfl, gn, hr⟩
    have IA0 := Lib.hid (IA0.out.grow gn)
    have LA0 := Lib.hid (LA0.out.grow gn)
    have G := Lib.hid (G.out.trans gn)
    have RF := Lib.hid hr
    clear gn hr
    go_wp2_with fail
    refine (r_From _ nn hnn).mono ?_
    rintro _ w11 ⟨rG, rfl, gn, hr⟩
    have IA0 := Lib.hid (IA0.out.grow gn)
    have LA0 := Lib.hid (LA0.out.grow gn)
    have RF := Lib.hid (RF.out.grow gn)
    have G := Lib.hid (G.out.trans gn)
    have RG := Lib.hid hr
    clear gn hr
    go_wp2_with fail
    refine (n_Same _ _ _ _ _ RF.out.1 RG.out.1 rfl).mono ?_
    rintro _ w12 ⟨_, rfl, gn, rfl⟩
    clear RF
    clear RG
    have IA0 := Lib.hid (IA0.out.grow gn)
    have LA0 := Lib.hid (LA0.out.grow gn)
    have G := Lib.hid (G.out.trans gn)
    clear gn
    go_wp2_with fail
    refine (n_Bits _ _ x0 12 bz IA0.out HBz.out (by decide)).mono ?_
    rintro _ w13 ⟨_, rfl, gn, rfl⟩
    have IA0 := Lib.hid (IA0.out.grow gn)
    have LA0 := Lib.hid (LA0.out.grow gn)
    have G := Lib.hid (G.out.trans gn)
    clear gn
    go_wp2_with fail
    refine (r_Bits _ _ x0 12 bz IA0.out HBz.out (by decide)).mono ?_
    rintro _ w14 ⟨_, rfl, gn, rfl⟩
    have IA0 := Lib.hid (IA0.out.grow gn)
    have LA0 := Lib.hid (LA0.out.grow gn)
    have G := Lib.hid (G.out.trans gn)
    clear gn
    go_wp2_with fail
    refine (n_Text _ _ x0 12 tx IA0.out HTx.out (HT.out.grow G.out) (by decide)).mono ?_
    rintro _ w15 ⟨_, rfl, gn, rfl⟩
    have IA0 := Lib.hid (IA0.out.grow gn)
    have LA0 := Lib.hid (LA0.out.grow gn)
    have G := Lib.hid (G.out.trans gn)
    clear gn
    go_wp2_with fail
    refine (r_Text _ _ x0 12 tx IA0.out HTx.out (by decide)).mono ?_
    rintro _ w16 ⟨_, rfl, gn, rfl⟩
    have IA0 := Lib.hid (IA0.out.grow gn)
    have LA0 := Lib.hid (LA0.out.grow gn)
    have G := Lib.hid (G.out.trans gn)
    clear gn
    go_wp2_with fail
    go_ret
    exact ⟨_, rfl, G.out, rfl⟩
end Go.Proofs.YtjhnbepjdpgemaaDoor

/-
  NaturalSums: the walk (printed by natgen.py).
-/
import Derived.Test.YtjhnbepjdpgemaaDoorNatB
namespace Go.Proofs.YtjhnbepjdpgemaaDoor
open Go.RowKit Go.Lib
set_option linter.unusedVariables false
set_option linter.unusedSimpArgs false

theorem cell_newA (w : World) (a : Array Value) (t : TypeId) (i : Nat) : (w.alloc (.cells a t)).cell? ⟨w.heap.size, i, none⟩ = a[i]? := by
  unfold World.cell?
  simp only [heap_alloc_new w _]
  rfl
theorem nil0 (w : World) : NatL w (.slice none 0 0) (digs 0) := by rw [digs_eq_nil.2 rfl]; exact NatL.nil w
theorem n_Sub_lt (w : World) (va vb : Value) (x y L M : Nat) (hx : NatV w va x L) (hy : NatV w vb y M) (h : x < y) (hL : L ≤ 1000000) (hM : M ≤ 1000000) :
    Calls Tryd.prog 25 #[va, vb] w (Ret w fun r w' => r = .tuple #[.slice none 0 0, .int .i64 2]) := by
  obtain ⟨l, h1, rfl, h3⟩ := hx
  obtain ⟨m, k1, rfl, k3⟩ := hy
  exact (nat_Sub_lt w va vb l m h1 k1 (by omega) (by omega) h).mono fun e w' ⟨he, hw⟩ => ⟨_, he, hw ▸ Gr.refl _, rfl⟩
theorem r_Sub_lt (w : World) (va vb : Value) (x y L M : Nat) (hx : NatV w va x L) (hy : NatV w vb y M) (h : x < y) (hL : L ≤ 1000000) (hM : M ≤ 1000000) :
    Calls Tryd.prog 26 #[va, vb] w (Ret w fun r w' => r = .tuple #[.slice none 0 0, .int .i64 2]) := by
  obtain ⟨l, h1, rfl, h3⟩ := hx
  obtain ⟨m, k1, rfl, k3⟩ := hy
  exact ref_Sub_lt w va vb l m h1 k1 (by omega) (by omega) h
theorem n_Sub (w : World) (va vb : Value) (x y z L M : Nat) (hx : NatV w va x L) (hy : NatV w vb y M) (h : y ≤ x) (hz : x - y = z) (hL : L ≤ 1000000) (hM : M ≤ 1000000) :
    Calls Tryd.prog 25 #[va, vb] w (Ret w fun r w' => ∃ d, r = .tuple #[d, .int .i64 0] ∧ NatR w' d z L) := by
  subst hz
  have hl := Nat.le_trans (digs_mono_len (Nat.sub_le x y)) hx.len
  obtain ⟨l, h1, rfl, h3⟩ := hx
  obtain ⟨m, k1, rfl, k3⟩ := hy
  exact (nat_Sub w va vb l m h1 k1 (by omega) (by omega) h).mono fun e w' ⟨r, he, g, d, hr, hd⟩ => ⟨r, he, g, d, hr, NatR.of hd hl⟩
theorem r_Sub (w : World) (va vb : Value) (x y z L M : Nat) (hx : NatV w va x L) (hy : NatV w vb y M) (h : y ≤ x) (hz : x - y = z) (hL : L ≤ 1000000) (hM : M ≤ 1000000) :
    Calls Tryd.prog 26 #[va, vb] w (Ret w fun r w' => ∃ d, r = .tuple #[d, .int .i64 0] ∧ NatR w' d z L) := by
  subst hz
  have hl := Nat.le_trans (digs_mono_len (Nat.sub_le x y)) hx.len
  obtain ⟨l, h1, rfl, h3⟩ := hx
  obtain ⟨m, k1, rfl, k3⟩ := hy
  exact (ref_Sub w va vb l m h1 k1 (by omega) (by omega) h).mono fun e w' ⟨r, he, g, d, hr, hd⟩ => ⟨r, he, g, d, hr, NatR.of hd hl⟩

set_option maxRecDepth 100000 in
set_option maxHeartbeats 6400000 in
theorem law_NaturalSums (w : World) (htab : Tab w) (va : Value) (l0 : List Nat) (i0 : NatL w va l0) (vb : Value) (l1 : List Nat) (i1 : NatL w vb l1) :
    Calls Tryd.prog 6 #[va, vb] w (Ret w fun r w' => r = .bool true) := by
  have HT := Lib.hid htab
  clear htab
  have HA0 := Lib.hid i0
  obtain ⟨p0, k0, c0, rfl, hk0⟩ := i0.slice
  have HK0 := Lib.hid hk0
  clear i0 hk0
  have HA1 := Lib.hid i1
  obtain ⟨p1, k1, c1, rfl, hk1⟩ := i1.slice
  have HK1 := Lib.hid hk1
  clear i1 hk1
  go_enter Tryd.func6, Tryd.ntmps6
  go_wp2_with fail
  refine (law_awake w HT.out).mono ?_
  rintro _ w1 ⟨_, rfl, g1, rfl⟩
  have G1 := Lib.hid g1
  clear g1
  go_wp2_with fail
  obtain ⟨t, ht⟩ : ∃ t, decide (∀ i, i < 2 → (if i = 0 then k0 else k1) ≤ 12) = t := ⟨_, rfl⟩
  refine (law_few _ _ 2 2 (fun i => if i = 0 then p0 else p1) (fun i => if i = 0 then k0 else k1) (fun i => if i = 0 then c0 else c1) (by decide) (by decide) t ht (fun i hi => ?_)).mono ?_
  · match i, hi with
    | 0, _ => exact cell_newA _ _ _ _
    | 1, _ => exact cell_newA _ _ _ _
  rintro _ w3 ⟨_, rfl, g3, rfl⟩
  have G := Lib.hid (G1.out.trans (((Gr.refl w1).alloc _).trans g3))
  clear g3 G1
  cases t
  · clear ht
    go_wp2_with fail
    refine (law_awake w3 (HT.out.grow G.out)).mono ?_
    rintro _ w4 ⟨_, rfl, g4, rfl⟩
    have G4 := Lib.hid g4
    clear g4
    go_wp2_with fail
    go_ret
    exact ⟨_, rfl, G.out.trans G4.out, rfl⟩
  · have hh := of_decide_eq_true ht
    have m0 : k0 ≤ 12 := hh 0 (by decide)
    obtain ⟨x0, hx0⟩ : ∃ x, nval l0 = x := ⟨_, rfl⟩
    have IA0 := Lib.hid (show NatV w3 _ x0 12 from ⟨l0, HA0.out.grow G.out, hx0, by rw [← HK0.out]; exact m0⟩)
    have m1 : k1 ≤ 12 := hh 1 (by decide)
    obtain ⟨x1, hx1⟩ : ∃ x, nval l1 = x := ⟨_, rfl⟩
    have IA1 := Lib.hid (show NatV w3 _ x1 12 from ⟨l1, HA1.out.grow G.out, hx1, by rw [← HK1.out]; exact m1⟩)
    clear hh ht m0 hx0 m1 hx1
    obtain ⟨z, hz⟩ : ∃ z, cmpZ x0 x1 = z := ⟨_, rfl⟩
    have HZ := Lib.hid hz
    clear hz
    go_wp2_with fail
    by_cases hlt : x0 < x1
    · refine (n_Sub_lt _ _ _ _ _ 12 12 IA0.out IA1.out hlt (by decide) (by decide)).mono ?_
      rintro _ w4 ⟨_, rfl, gn, rfl⟩
      have IA0 := Lib.hid (IA0.out.grow gn)
      have IA1 := Lib.hid (IA1.out.grow gn)
      have G := Lib.hid (G.out.trans gn)
      clear gn
      go_wp2_with fail
      refine (r_Sub_lt _ _ _ _ _ 12 12 IA0.out IA1.out hlt (by decide) (by decide)).mono ?_
      rintro _ w5 ⟨_, rfl, gn, rfl⟩
      have IA0 := Lib.hid (IA0.out.grow gn)
      have IA1 := Lib.hid (IA1.out.grow gn)
      have G := Lib.hid (G.out.trans gn)
      clear gn
      go_wp2_with fail
      refine (n_Cmp _ _ _ _ _ 12 12 _ IA0.out IA1.out HZ.out (by decide) (by decide)).mono ?_
      rintro _ w6 ⟨_, rfl, gn, rfl⟩
      have IA0 := Lib.hid (IA0.out.grow gn)
      have IA1 := Lib.hid (IA1.out.grow gn)
      have G := Lib.hid (G.out.trans gn)
      clear gn
      go_wp2_with fail
      refine (r_Cmp _ _ _ _ _ 12 12 _ IA0.out IA1.out HZ.out (by decide) (by decide)).mono ?_
      rintro _ w7 ⟨_, rfl, gn, rfl⟩
      have IA0 := Lib.hid (IA0.out.grow gn)
      have IA1 := Lib.hid (IA1.out.grow gn)
      have G := Lib.hid (G.out.trans gn)
      clear gn
      go_wp2_with fail
      refine (n_Add _ _ _ _ _ (x0 + x1) 12 12 IA0.out IA1.out rfl (by decide) (by decide)).mono ?_
      rintro _ w8 ⟨rR1, rfl, gn, hr⟩
      have IA0 := Lib.hid (IA0.out.grow gn)
      have IA1 := Lib.hid (IA1.out.grow gn)
      have G := Lib.hid (G.out.trans gn)
      have R1 := Lib.hid hr
      clear gn hr
      go_wp2_with fail
      refine (r_Add _ _ _ _ _ (x0 + x1) 12 12 IA0.out IA1.out rfl (by decide) (by decide)).mono ?_
      rintro _ w9 ⟨rR2, rfl, gn, hr⟩
      have IA0 := Lib.hid (IA0.out.grow gn)
      have IA1 := Lib.hid (IA1.out.grow gn)
      have R1 := Lib.hid (R1.out.grow gn)
      have G := Lib.hid (G.out.trans gn)
      have R2 := Lib.hid hr
      clear gn hr
      go_wp2_with fail
      refine (n_Same _ _ _ _ _ R1.out.1 R2.out.1 rfl).mono ?_
      rintro _ w10 ⟨_, rfl, gn, rfl⟩
      clear R1
      clear R2
      have IA0 := Lib.hid (IA0.out.grow gn)
      have IA1 := Lib.hid (IA1.out.grow gn)
      have G := Lib.hid (G.out.trans gn)
      clear gn
      go_wp2_with fail
      refine (n_Same _ _ _ _ _ (nil0 _) (nil0 _) rfl).mono ?_
      rintro _ w11 ⟨_, rfl, gn, rfl⟩
      have IA0 := Lib.hid (IA0.out.grow gn)
      have IA1 := Lib.hid (IA1.out.grow gn)
      have G := Lib.hid (G.out.trans gn)
      clear gn
      go_wp2_with fail
      refine (n_Mul _ _ _ _ _ (x0 * x1) 12 12 IA0.out IA1.out rfl (by decide) (by decide)).mono ?_
      rintro _ w12 ⟨rR1, rfl, gn, hr⟩
      have IA0 := Lib.hid (IA0.out.grow gn)
      have IA1 := Lib.hid (IA1.out.grow gn)
      have G := Lib.hid (G.out.trans gn)
      have R1 := Lib.hid hr
      clear gn hr
      go_wp2_with fail
      refine (r_Mul _ _ _ _ _ (x0 * x1) 12 12 IA0.out IA1.out rfl (by decide) (by decide)).mono ?_
      rintro _ w13 ⟨rR2, rfl, gn, hr⟩
      have IA0 := Lib.hid (IA0.out.grow gn)
      have IA1 := Lib.hid (IA1.out.grow gn)
      have R1 := Lib.hid (R1.out.grow gn)
      have G := Lib.hid (G.out.trans gn)
      have R2 := Lib.hid hr
      clear gn hr
      go_wp2_with fail
      refine (n_Same _ _ _ _ _ R1.out.1 R2.out.1 rfl).mono ?_
      rintro _ w14 ⟨_, rfl, gn, rfl⟩
      clear R1
      clear R2
      have IA0 := Lib.hid (IA0.out.grow gn)
      have IA1 := Lib.hid (IA1.out.grow gn)
      have G := Lib.hid (G.out.trans gn)
      clear gn
      go_wp2_with fail
      go_ret
      exact ⟨_, rfl, G.out, rfl⟩
    · refine (n_Sub _ _ _ _ _ _ 12 12 IA0.out IA1.out (by omega) rfl (by decide) (by decide)).mono ?_
      rintro _ w4 ⟨_, rfl, gn, d1, rfl, hd⟩
      have IA0 := Lib.hid (IA0.out.grow gn)
      have IA1 := Lib.hid (IA1.out.grow gn)
      have G := Lib.hid (G.out.trans gn)
      have D1 := Lib.hid hd
      clear gn hd
      go_wp2_with fail
      refine (r_Sub _ _ _ _ _ _ 12 12 IA0.out IA1.out (by omega) rfl (by decide) (by decide)).mono ?_
      rintro _ w5 ⟨_, rfl, gn, d2, rfl, hd⟩
      have IA0 := Lib.hid (IA0.out.grow gn)
      have IA1 := Lib.hid (IA1.out.grow gn)
      have D1 := Lib.hid (D1.out.grow gn)
      have G := Lib.hid (G.out.trans gn)
      have D2 := Lib.hid hd
      clear gn hd
      go_wp2_with fail
      refine (n_Cmp _ _ _ _ _ 12 12 _ IA0.out IA1.out HZ.out (by decide) (by decide)).mono ?_
      rintro _ w6 ⟨_, rfl, gn, rfl⟩
      have IA0 := Lib.hid (IA0.out.grow gn)
      have IA1 := Lib.hid (IA1.out.grow gn)
      have D1 := Lib.hid (D1.out.grow gn)
      have D2 := Lib.hid (D2.out.grow gn)
      have G := Lib.hid (G.out.trans gn)
      clear gn
      go_wp2_with fail
      refine (r_Cmp _ _ _ _ _ 12 12 _ IA0.out IA1.out HZ.out (by decide) (by decide)).mono ?_
      rintro _ w7 ⟨_, rfl, gn, rfl⟩
      have IA0 := Lib.hid (IA0.out.grow gn)
      have IA1 := Lib.hid (IA1.out.grow gn)
      have D1 := Lib.hid (D1.out.grow gn)
      have D2 := Lib.hid (D2.out.grow gn)
      have G := Lib.hid (G.out.trans gn)
      clear gn
      go_wp2_with fail
      refine (n_Add _ _ _ _ _ (x0 + x1) 12 12 IA0.out IA1.out rfl (by decide) (by decide)).mono ?_
      rintro _ w8 ⟨rR1, rfl, gn, hr⟩
      have IA0 := Lib.hid (IA0.out.grow gn)
      have IA1 := Lib.hid (IA1.out.grow gn)
      have D1 := Lib.hid (D1.out.grow gn)
      have D2 := Lib.hid (D2.out.grow gn)
      have G := Lib.hid (G.out.trans gn)
      have R1 := Lib.hid hr
      clear gn hr
      go_wp2_with fail
      refine (r_Add _ _ _ _ _ (x0 + x1) 12 12 IA0.out IA1.out rfl (by decide) (by decide)).mono ?_
      rintro _ w9 ⟨rR2, rfl, gn, hr⟩
      have IA0 := Lib.hid (IA0.out.grow gn)
      have IA1 := Lib.hid (IA1.out.grow gn)
      have D1 := Lib.hid (D1.out.grow gn)
      have D2 := Lib.hid (D2.out.grow gn)
      have R1 := Lib.hid (R1.out.grow gn)
      have G := Lib.hid (G.out.trans gn)
      have R2 := Lib.hid hr
      clear gn hr
      go_wp2_with fail
      refine (n_Same _ _ _ _ _ R1.out.1 R2.out.1 rfl).mono ?_
      rintro _ w10 ⟨_, rfl, gn, rfl⟩
      clear R1
      clear R2
      have IA0 := Lib.hid (IA0.out.grow gn)
      have IA1 := Lib.hid (IA1.out.grow gn)
      have D1 := Lib.hid (D1.out.grow gn)
      have D2 := Lib.hid (D2.out.grow gn)
      have G := Lib.hid (G.out.trans gn)
      clear gn
      go_wp2_with fail
      refine (n_Same _ _ _ _ _ D1.out.1 D2.out.1 rfl).mono ?_
      rintro _ w11 ⟨_, rfl, gn, rfl⟩
      clear D1
      clear D2
      have IA0 := Lib.hid (IA0.out.grow gn)
      have IA1 := Lib.hid (IA1.out.grow gn)
      have G := Lib.hid (G.out.trans gn)
      clear gn
      go_wp2_with fail
      refine (n_Mul _ _ _ _ _ (x0 * x1) 12 12 IA0.out IA1.out rfl (by decide) (by decide)).mono ?_
      rintro _ w12 ⟨rR1, rfl, gn, hr⟩
      have IA0 := Lib.hid (IA0.out.grow gn)
      have IA1 := Lib.hid (IA1.out.grow gn)
      have G := Lib.hid (G.out.trans gn)
      have R1 := Lib.hid hr
      clear gn hr
      go_wp2_with fail
      refine (r_Mul _ _ _ _ _ (x0 * x1) 12 12 IA0.out IA1.out rfl (by decide) (by decide)).mono ?_
      rintro _ w13 ⟨rR2, rfl, gn, hr⟩
      have IA0 := Lib.hid (IA0.out.grow gn)
      have IA1 := Lib.hid (IA1.out.grow gn)
      have R1 := Lib.hid (R1.out.grow gn)
      have G := Lib.hid (G.out.trans gn)
      have R2 := Lib.hid hr
      clear gn hr
      go_wp2_with fail
      refine (n_Same _ _ _ _ _ R1.out.1 R2.out.1 rfl).mono ?_
      rintro _ w14 ⟨_, rfl, gn, rfl⟩
      clear R1
      clear R2
      have IA0 := Lib.hid (IA0.out.grow gn)
      have IA1 := Lib.hid (IA1.out.grow gn)
      have G := Lib.hid (G.out.trans gn)
      clear gn
      go_wp2_with fail
      go_ret
      exact ⟨_, rfl, G.out, rfl⟩
end Go.Proofs.YtjhnbepjdpgemaaDoor

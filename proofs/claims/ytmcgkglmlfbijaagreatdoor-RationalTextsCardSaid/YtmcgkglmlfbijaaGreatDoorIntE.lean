/-
  The reference's integers, continued: the sum.
-/
import Derived.Test.YtmcgkglmlfbijaaGreatDoorIntB
namespace Go.Proofs.YtmcgkglmlfbijaaGreatDoor
open Go.RowKit
set_option linter.unusedVariables false
set_option linter.unusedSimpArgs false

set_option maxHeartbeats 1600000 in
theorem ref2_Add (w : World) (va vb : Value) (n n' : Bool) (la lb : List Nat) (z : Int) (hz : zval n la + zval n' lb = z) (ha : IntL w va n la) (hb : IntL w vb n' lb) (hla : la.length ≤ 1099511627776) (hlb : lb.length ≤ 1099511627776) :
    Calls Tryz.prog 17 #[va, vb] w (Ret w fun r w' => IntC w' r z) := by
  have HA0 := Lib.hid ha
  have HB0 := Lib.hid hb
  obtain ⟨x, hx⟩ : ∃ x, zval n la = x := ⟨_, rfl⟩
  obtain ⟨y, hy⟩ : ∃ y, zval n' lb = y := ⟨_, rfl⟩
  have hxa : (digs x.natAbs).length ≤ 1099511627776 := by
    have e : x.natAbs = nval la := by rw [← hx]; unfold zval; rcases n with _ | _ <;> simp
    rw [e]; exact Nat.le_trans (digs_nval_length ha.dig) hla
  have hya : (digs y.natAbs).length ≤ 1099511627776 := by
    have e : y.natAbs = nval lb := by rw [← hy]; unfold zval; rcases n' with _ | _ <;> simp
    rw [e]; exact Nat.le_trans (digs_nval_length hb.dig) hlb
  have Hx := Lib.hid hx
  have Hy := Lib.hid hy
  have Hxa := Lib.hid hxa
  have Hya := Lib.hid hya
  have HL := Lib.hid (digs_add_length hxa hya)
  have Hz := Lib.hid (show x + y = z by rw [← hz, hx, hy])
  obtain ⟨pa, ka, ca, rfl, ha⟩ := ha
  obtain ⟨pb, kb, cb, rfl, hb⟩ := hb
  clear ha hb hz hx hy hxa hya
  have B3 := boxed3 w (.bool n) (.slice pa ka ca) (.bool n') (.slice pb kb cb) (.bool false) (.slice none 0 0) 25 25 25
  go_enter Tryz.func17, Tryz.ntmps17
  go_wp2_with fail
  generalize ((w.alloc _).alloc _).alloc _ = W at B3 ⊢
  obtain ⟨G0, ta, tb, tr⟩ := B3
  have HW := Lib.hid G0
  have HTA := Lib.hid ta
  have HTB := Lib.hid tb
  have HTR := Lib.hid tr
  have a0 := ta.c0
  have a1 := ta.c1
  have b0 := tb.c0
  have b1 := tb.c1
  have hsz := tr.lt
  clear G0 ta tb tr
  have g0 : Gr W W.drew := (Gr.refl W).drew
  refine wp_region_eager [(0, true), (2, true), (1, false), (3, false), (4, false), (5, false)] (by kernel_rfl) (by kernel_rfl) rfl (by kernel_rfl) (fun _ _ d _ _ h => by cases d <;> exact h) ?_
  repeat (refine wpE_readB (v := ?_) g0 rfl rfl (fun w' hg => ?_) (fun K hK => ?_); rotate_left; (go_simp; rfl); go_simp; refine hK _ _ ?_; clear hK K)
  refine wpE_do rfl rfl (fun K hK => ?_)
  go_simp
  refine (ref2_Fix _ _ n la x Hx.out (HA0.out.grow (HW.out.trans g0)) hla).mono ?_
  rintro _ w2 ⟨r2, rfl, g2, hr2⟩
  refine ⟨fun _ => g2, hK _ _ ?_⟩
  clear hK K
  obtain ⟨p2, k2, c2, rfl, hr2⟩ := hr2
  have G2 := Lib.hid (g0.trans g2)
  have Hr2 := Lib.hid hr2
  clear g2 hr2
  refine wpE_do rfl rfl (fun K hK => ?_)
  go_simp
  refine (ref2_Fix _ _ n' lb y Hy.out (HB0.out.grow (HW.out.trans G2.out)) hlb).mono ?_
  rintro _ w3 ⟨r3, rfl, g3, hr3⟩
  refine ⟨fun _ => g3, hK _ _ ?_⟩
  clear hK K
  obtain ⟨p3, k3, c3, rfl, hr3⟩ := hr3
  have G3 := Lib.hid (G2.out.trans g3)
  have Hr2' := Lib.hid (Hr2.out.grow g3)
  have Hr3 := Lib.hid hr3
  obtain ⟨s, hs⟩ : ∃ s, decide (x < 0) = s := ⟨_, rfl⟩
  obtain ⟨s', hs'⟩ : ∃ s', decide (y < 0) = s' := ⟨_, rfl⟩
  rw [hs, hs']
  have Hs := Lib.hid hs
  have Hs' := Lib.hid hs'
  have ta := HTA.out.grow G3.out
  have tb := HTB.out.grow G3.out
  have tr := HTR.out.grow G3.out
  have TW := twice (s := s) (s' := s') (p := p2) (k := k2) (c := c2) (p' := p3) (k' := k3) (c' := c3) ta tb tr
  clear a0 a1 b0 b1
  have a0 := ta.load.1
  have a1 := ta.load.2
  have b0 := tb.load.1
  have b1 := tb.load.2
  have f1 := ta.f0 0
  have f2 := ta.f0 1
  have f3 := tb.f0 0
  have f4 := tb.f0 1
  clear g3 hr3 ta tb tr hs hs' g0
  refine wpE_do rfl rfl (fun K hK => ?_)
  go_simp
  refine ⟨fun h => Bool.noConfusion h, hK _ _ ?_⟩
  clear hK K
  refine wpE_do rfl rfl (fun K hK => ?_)
  go_simp
  refine ⟨fun h => Bool.noConfusion h, hK _ _ ?_⟩
  clear hK K
  refine wpE_nil ?_
  generalize (((w3.setCell _ _).setCell _ _).setCell _ _).setCell _ _ = W4 at TW ⊢
  obtain ⟨ta, tb, tr, hkeep, hown⟩ := TW
  have HK2 := Lib.hid (hkeep _ _ Hr2'.out)
  have HK3 := Lib.hid (hkeep _ _ Hr3.out)
  have HO := Lib.hid (Below.trans (HW.out.trans G3.out) hown)
  have HR := Lib.hid tr
  have hsz4 := tr.lt
  clear a0 a1 b0 b1 f1 f2 f3 f4 hkeep hown hsz HTA HTB HTR
  have HTA4 := Lib.hid ta
  have HTB4 := Lib.hid tb
  have a0 := ta.c0
  have a1 := ta.c1
  have b0 := tb.c0
  have b1 := tb.c1
  clear ta tb tr
  by_cases hss : s = s'
  · subst hss
    have Hz2 := Lib.hid (show zval s (digs (x.natAbs + y.natAbs)) = z by
      rw [← Hz.out]; unfold zval; rw [nval_digs]
      have h1 := Hs.out
      have h2 := Hs'.out
      rcases s with _ | _ <;> simp at h1 h2 ⊢ <;> omega)
    have gW4 : Gr W4 W4 := Gr.refl W4
    go_wp2_with fail
    have g4 : Gr W4 W4.drew := (Gr.refl W4).drew
    refine wp_region_eager [(0, true), (1, true), (2, true), (3, true), (4, true), (5, true), (6, false), (7, false), (8, false)] (by kernel_rfl) (by kernel_rfl) rfl (by kernel_rfl) (fun _ _ d _ _ h => by cases d <;> exact h) ?_
    repeat (refine wpE_readB (v := ?_) g4 rfl rfl (fun w' hg => ?_) (fun K hK => ?_); rotate_left; (go_simp; rfl); go_simp; refine hK _ _ ?_; clear hK K)
    refine wpE_do rfl rfl (fun K hK => ?_)
    go_simp
    refine (ref_Add _ _ _ _ _ (HK2.out.grow g4) (HK3.out.grow g4) (Nat.le_trans Hxa.out (by omega)) (Nat.le_trans Hya.out (by omega))).mono ?_
    rintro _ w5 ⟨r5, rfl, g5, hr5⟩
    refine ⟨fun _ => g5, hK _ _ ?_⟩
    clear hK K
    rw [nval_digs, nval_digs] at hr5
    have G5 := Lib.hid (g4.trans g5)
    have Hr5 := Lib.hid hr5
    clear g5 hr5
    refine wpE_do rfl rfl (fun K hK => ?_)
    go_simp
    refine (ref2_build _ s r5 _ z Hz2.out Hr5.out (Nat.le_trans HL.out (by omega))).mono ?_
    rintro _ w6 ⟨r6, rfl, g6, hr6⟩
    refine ⟨fun _ => g6, hK _ _ ?_⟩
    clear hK K
    obtain ⟨p6, k6, c6, rfl, hr6⟩ := hr6
    obtain ⟨sg, hsg⟩ : ∃ sg, sg = decide (z < 0) := ⟨_, rfl⟩
    rw [← hsg]
    have Hsg := Lib.hid hsg
    have G6 := Lib.hid (G5.out.trans g6)
    have Hr6 := Lib.hid hr6
    have HR6 := Lib.hid (HR.out.grow G6.out)
    have r0 := HR6.out.load.1
    have r1 := HR6.out.load.2
    have f0 := HR6.out.f0 0
    have f1 := HR6.out.f0 1
    clear g6 hr6 a0 a1 b0 b1 g4 hsg
    refine wpE_do rfl rfl (fun K hK => ?_)
    go_simp
    refine ⟨fun h => Bool.noConfusion h, hK _ _ ?_⟩
    clear hK K
    refine wpE_nil ?_
    go_wp2_with fail
    refine bodyPost_ret (v := .agg #[.bool sg, .slice p6 k6 c6]) (by simp [results, Tryz.results17, go_sem, r0, r1]) rfl ?_
    exact ret_box (by omega) (Gr.trans HO.out G6.out) HR6.out Hr6.out Hsg.out
  · have hsn : (s == s') = false := by simpa using hss
    have gW4 : Gr W4 W4 := Gr.refl W4
    have sx := Lib.hid hss
    clear hss
    go_wp2_with fail
    refine (ref_Cmp _ _ _ _ _ HK2.out HK3.out (Nat.le_trans Hxa.out (by omega)) (Nat.le_trans Hya.out (by omega))).mono ?_
    rintro _ w4' ⟨_, rfl, g4, rfl⟩
    rw [nval_digs, nval_digs]
    have HK2' := Lib.hid (HK2.out.grow g4)
    have HK3' := Lib.hid (HK3.out.grow g4)
    have HR4 := Lib.hid (HR.out.grow g4)
    have HA4 := Lib.hid (HTA4.out.grow g4)
    have HB4 := Lib.hid (HTB4.out.grow g4)
    have O4 := Lib.hid (Gr.trans HO.out g4)
    clear a0 a1 b0 b1 gW4 hsz4 g4
    have hsz4 := HR4.out.lt
    have a0 := HA4.out.load.1
    have a1 := HA4.out.load.2
    have b0 := HB4.out.load.1
    have b1 := HB4.out.load.2
    rcases Nat.lt_or_ge x.natAbs y.natAbs with hlt | hlt
    · have Hc := Lib.hid (cmpZ_lt hlt)
      rw [Hc.out]
      have Hle := Lib.hid (Nat.le_of_lt hlt)
      have Hz2 := Lib.hid (show zval s' (digs (y.natAbs - x.natAbs)) = z by
        rw [← Hz.out]; unfold zval; rw [nval_digs]
        have h1 := Hs.out
        have h2 := Hs'.out
        have h3 := sx.out
        rcases s with _ | _ <;> rcases s' with _ | _ <;> simp at h1 h2 h3 ⊢ <;> omega)
      have fa0 := HA4.out.f0 0
      have fa1 := HA4.out.f0 1
      have fb0 := HB4.out.f0 0
      have fb1 := HB4.out.f0 1
      have TW := twice (s := s') (s' := s) (p := p3) (k := k3) (c := c3) (p' := p2) (k' := k2) (c' := c2) HA4.out HB4.out HR4.out
      clear hlt
      go_wp2_with fail
      generalize (((w4'.setCell _ _).setCell _ _).setCell _ _).setCell _ _ = W5 at TW ⊢
      obtain ⟨ta, tb, tr, hkeep, hown⟩ := TW
      have HK2'' := Lib.hid (hkeep _ _ HK2'.out)
      have HK3'' := Lib.hid (hkeep _ _ HK3'.out)
      have O5 := Lib.hid (Below.trans O4.out hown)
      have HR5 := Lib.hid tr
      have HA5 := Lib.hid ta
      have hsz5 := tr.lt
      clear a0 a1 b0 b1 fa0 fa1 fb0 fb1 hkeep hown ta tb tr hsz4
      refine (ref_Sub _ _ _ _ _ HK3''.out HK2''.out (Nat.le_trans Hya.out (by omega)) (Nat.le_trans Hxa.out (by omega)) (by rw [nval_digs, nval_digs]; exact Hle.out)).mono ?_
      rintro _ w5 ⟨_, rfl, g5, r5, rfl, hr5⟩
      rw [nval_digs, nval_digs] at hr5
      have G5 := Lib.hid g5
      have Hr5 := Lib.hid hr5
      clear hr5
      have a0 := HA5.out.c0 w5 g5
      clear g5
      go_wp2_with fail
      refine (ref2_build _ s' r5 _ z Hz2.out Hr5.out (Nat.le_trans (digs_mono_length (Nat.sub_le _ _)) (Nat.le_trans Hya.out (by omega)))).mono ?_
      rintro _ w6 ⟨r6, rfl, g6, hr6⟩
      obtain ⟨p6, k6, c6, rfl, hr6⟩ := hr6
      obtain ⟨sg, hsg⟩ : ∃ sg, sg = decide (z < 0) := ⟨_, rfl⟩
      rw [← hsg]
      have Hsg := Lib.hid hsg
      have G6 := Lib.hid (G5.out.trans g6)
      have Hr6 := Lib.hid hr6
      have HR6 := Lib.hid (HR5.out.grow G6.out)
      have r0 := HR6.out.load.1
      have r1 := HR6.out.load.2
      have f0 := HR6.out.f0 0
      have f1 := HR6.out.f0 1
      clear g6 hr6 a0 hsg
      go_wp2_with fail
      refine bodyPost_ret (v := .agg #[.bool sg, .slice p6 k6 c6]) (by simp [results, Tryz.results17, go_sem, r0, r1]) rfl ?_
      exact ret_box (by omega) (Gr.trans O5.out G6.out) HR6.out Hr6.out Hsg.out
    · have hc := cmpZ_neg_iff x.natAbs y.natAbs
      obtain ⟨cz, hcz⟩ : ∃ cz, cmpZ x.natAbs y.natAbs = cz := ⟨_, rfl⟩
      rw [hcz] at hc ⊢
      have hc0 : ¬ cz < 0 := by omega
      have Hle := Lib.hid (show y.natAbs ≤ x.natAbs by omega)
      have Hz2 := Lib.hid (show zval s (digs (x.natAbs - y.natAbs)) = z by
        rw [← Hz.out]; unfold zval; rw [nval_digs]
        have h1 := Hs.out
        have h2 := Hs'.out
        have h3 := sx.out
        rcases s with _ | _ <;> rcases s' with _ | _ <;> simp at h1 h2 h3 ⊢ <;> omega)
      clear hc hcz hlt
      go_wp2_with fail
      refine (ref_Sub _ _ _ _ _ HK2'.out HK3'.out (Nat.le_trans Hxa.out (by omega)) (Nat.le_trans Hya.out (by omega)) (by rw [nval_digs, nval_digs]; exact Hle.out)).mono ?_
      rintro _ w5 ⟨_, rfl, g5, r5, rfl, hr5⟩
      rw [nval_digs, nval_digs] at hr5
      have G5 := Lib.hid g5
      have Hr5 := Lib.hid hr5
      clear a0 a1 b0 b1 hr5
      have a0 := HA4.out.c0 w5 g5
      clear g5
      go_wp2_with fail
      refine (ref2_build _ s r5 _ z Hz2.out Hr5.out (Nat.le_trans (digs_mono_length (Nat.sub_le _ _)) (Nat.le_trans Hxa.out (by omega)))).mono ?_
      rintro _ w6 ⟨r6, rfl, g6, hr6⟩
      obtain ⟨p6, k6, c6, rfl, hr6⟩ := hr6
      obtain ⟨sg, hsg⟩ : ∃ sg, sg = decide (z < 0) := ⟨_, rfl⟩
      rw [← hsg]
      have Hsg := Lib.hid hsg
      have G6 := Lib.hid (G5.out.trans g6)
      have Hr6 := Lib.hid hr6
      have HR6 := Lib.hid (HR4.out.grow G6.out)
      have r0 := HR6.out.load.1
      have r1 := HR6.out.load.2
      have f0 := HR6.out.f0 0
      have f1 := HR6.out.f0 1
      clear g6 hr6 a0 hsg
      go_wp2_with fail
      refine bodyPost_ret (v := .agg #[.bool sg, .slice p6 k6 c6]) (by simp [results, Tryz.results17, go_sem, r0, r1]) rfl ?_
      exact ret_box (by omega) (Gr.trans O4.out G6.out) HR6.out Hr6.out Hsg.out
end Go.Proofs.YtmcgkglmlfbijaaGreatDoor

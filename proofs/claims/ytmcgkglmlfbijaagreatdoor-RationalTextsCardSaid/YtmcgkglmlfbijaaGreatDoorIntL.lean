/-
  integer.Valid, exodusref02.Int64, exodusref02.Text.
-/
import Derived.Test.YtmcgkglmlfbijaaGreatDoorIntJ
import Derived.Test.YtmcgkglmlfbijaaGreatDoorNumL
namespace Go.Proofs.YtmcgkglmlfbijaaGreatDoor
open Go.RowKit Go.Lib
set_option linter.unusedVariables false
set_option linter.unusedSimpArgs false

set_option maxRecDepth 100000 in
set_option maxHeartbeats 1600000 in
theorem int_Valid (w : World) (va : Value) (n : Bool) (l : List Nat) (t : Bool) (ha : IntL w va n l) (hl : l.length ≤ 1000000) (ht : (decide (trimL l = l) && !(n && l.isEmpty)) = t) :
    Calls Tryz.prog 62 #[va] w (Ret w fun r w' => r = .bool t) := by
  obtain ⟨p, k, c, rfl, hm⟩ := ha
  have HM := Lib.hid hm
  have HT := Lib.hid ht
  have hk := hm.len
  have Hk := Lib.hid hk
  have hk1 : k ≤ 1000000 := by rw [← hk]; exact hl
  have B := boxed1 w (.bool n) (.slice p k c) 25
  clear hm ht hk
  go_enter Tryz.func62, Tryz.ntmps62
  go_wp2_with fail
  generalize w.alloc _ = W at B ⊢
  obtain ⟨G0, T0⟩ := B
  generalize w.heap.size = b0 at T0 ⊢
  have G := Lib.hid G0
  have T := Lib.hid T0
  have c0 := T0.c0 W (Gr.refl _)
  have c1 := T0.c1 W (Gr.refl _)
  clear G0 T0
  go_wp2_with fail
  obtain ⟨v, hv⟩ : ∃ v, decide (trimL l = l) = v := ⟨_, rfl⟩
  have HV := Lib.hid hv
  refine (nat_Valid W _ l (HM.out.grow G.out) (by omega)).mono ?_
  rintro _ _ ⟨rfl, rfl⟩
  rw [hv]
  clear hv
  have ht := HT.out
  rw [HV.out] at ht
  cases v
  · have ht2 : t = false := by rw [← ht]; rfl
    subst ht2
    clear ht
    go_wp2_with fail
    go_ret
    exact ⟨_, rfl, G.out, rfl⟩
  · cases n
    · have ht2 : t = true := by rw [← ht]; rfl
      subst ht2
      clear ht
      go_wp2_with fail
      go_ret
      exact ⟨_, rfl, G.out, rfl⟩
    · by_cases h0 : k = 0
      · have ht2 : t = false := by
          have : l = [] := List.eq_nil_of_length_eq_zero (by have := Hk.out; omega)
          rw [← ht, this]; rfl
        subst ht2
        subst h0
        clear ht
        go_wp2_with fail
        go_ret
        exact ⟨_, rfl, G.out, rfl⟩
      · have ht2 : t = true := by
          have : l.isEmpty = false := by cases l with
            | nil => have := Hk.out; simp at this; omega
            | cons _ _ => rfl
          rw [← ht, this]; rfl
        subst ht2
        clear ht
        have hk0 : 0 < k := by omega
        go_wp2_with fail
        go_ret
        exact ⟨_, rfl, G.out, rfl⟩

set_option maxRecDepth 100000 in
set_option maxHeartbeats 1600000 in
theorem int_TextL (w : World) (va : Value) (n : Bool) (l : List Nat) (z : Int) (L : Nat) (s : List UInt8) (hzv : zval n l = z) (ha : IntL w va n l) (hlen : l.length ≤ L) (hL : L ≤ 4000) (htab : Tab w) (hs : (if z < 0 then 45 :: decDigits z.natAbs else decDigits z.natAbs) = s) :
    Calls Tryz.prog 85 #[va] w (Ret w fun r w' => r = .string ⟨s.toArray⟩) := by
  have HS := Lib.hid hs
  clear hs
  have HA0 := Lib.hid ha
  have HT := Lib.hid htab
  obtain ⟨p, k, c, rfl, hm⟩ := ha
  have HM := Lib.hid hm
  have hnv : nval l = z.natAbs := by rw [← hzv, zval_natAbs]
  have Hnv := Lib.hid hnv
  have hdl : (digs z.natAbs).length ≤ L := by rw [← hnv]; exact Nat.le_trans (digs_nval_len hm.dig) hlen
  have Hdl := Lib.hid hdl
  have B := boxed1 w (.bool n) (.slice p k c) 25
  have HL := Lib.hid hlen
  clear hm htab hlen
  clear hnv hdl
  go_enter Tryz.func85, Tryz.ntmps85
  go_wp2_with fail
  generalize w.alloc _ = W at B ⊢
  obtain ⟨G0, T0⟩ := B
  generalize w.heap.size = b0 at T0 ⊢
  have G := Lib.hid G0
  have T := Lib.hid T0
  have c0 := T0.c0 W (Gr.refl _)
  have c1 := T0.c1 W (Gr.refl _)
  clear G0 T0
  go_wp2_with fail
  have hsig : sgn (zval n l) = sgn z := by rw [hzv]
  obtain ⟨sz, hsz⟩ : ∃ sz, sgn z = sz := ⟨_, rfl⟩
  rw [hsz] at hsig
  refine (int_Sign _ _ n l sz hsig (HA0.out.grow G.out) (Nat.le_trans HL.out (Nat.le_trans hL (by decide)))).mono ?_
  rintro _ w1 ⟨_, rfl, g1, rfl⟩
  have c0 := T.out.c0 w1 g1
  have c1 := T.out.c1 w1 g1
  have G1 := Lib.hid (G.out.trans g1)
  clear g1 hsig
  by_cases hz : z < 0
  · have : sz = -1 := by rw [← hsz]; unfold sgn; rw [if_pos hz]
    subst this
    have Hz := Lib.hid hz
    clear hsz
    go_wp2_with fail
    refine (nat_Text _ _ _ (HM.out.grow G1.out) (Nat.le_trans HL.out (Nat.le_trans hL (by decide))) (HT.out.grow G1.out)).mono ?_
    rintro _ w2 ⟨_, rfl, g2, rfl⟩
    rw [Hnv.out]
    obtain ⟨tx, htx⟩ : ∃ tx, decDigits z.natAbs = tx := ⟨_, rfl⟩
    have hb : tx.length ≤ 40001 := by
      rw [← htx]
      exact Nat.le_trans (dec_len (L := L) (lt_of_digs_length Hdl.out)) (by omega)
    have Htx := Lib.hid htx
    have hcat := Lib.hid (ByteArray.mk_append_mk [45] tx)
    rw [htx]
    clear htx
    go_wp2_with fail
    go_ret
    refine ⟨_, rfl, G1.out.trans g2, ?_⟩
    have hz := Hz.out
    rw [← HS.out, if_pos (by omega), Htx.out]
    exact congrArg Value.string hcat.out
  · have h0 : ¬ sz < 0 := by rw [← hsz]; unfold sgn; rw [if_neg hz]; split <;> omega
    have Hz := Lib.hid hz
    clear hsz hz
    go_wp2_with fail
    refine (nat_Text _ _ _ (HM.out.grow G1.out) (Nat.le_trans HL.out (Nat.le_trans hL (by decide))) (HT.out.grow G1.out)).mono ?_
    rintro _ w2 ⟨_, rfl, g2, rfl⟩
    rw [Hnv.out]
    go_wp2_with fail
    go_ret
    refine ⟨_, rfl, G1.out.trans g2, ?_⟩
    have hz := Hz.out
    rw [← HS.out, if_neg (by omega)]
    rfl

set_option maxRecDepth 100000 in
set_option maxHeartbeats 1600000 in
theorem ref2_Text (w : World) (va : Value) (n : Bool) (l : List Nat) (z : Int) (s : List UInt8) (hz : zval n l = z) (ha : IntL w va n l) (hl : l.length ≤ 4000) (hs : (if z < 0 then 45 :: decDigits z.natAbs else decDigits z.natAbs) = s) :
    Calls Tryz.prog 87 #[va] w (Ret w fun r w' => r = .string ⟨s.toArray⟩) := by
  have HS := Lib.hid hs
  have HZ := Lib.hid hz
  have HA := Lib.hid ha
  obtain ⟨p, k, c, rfl, hm⟩ := ha
  have B := boxed1 w (.bool n) (.slice p k c) 25
  have Hzl := Lib.hid (show (digs z.natAbs).length ≤ 4000 by rw [← hz, zval_natAbs]; exact Nat.le_trans (digs_nval_len hm.dig) hl)
  clear hm hs hz
  have hb : ¬ w.heap.size < w.heap.size := Nat.lt_irrefl _
  go_enter Tryz.func87, Tryz.ntmps87
  go_wp2_with fail
  generalize w.alloc _ = W at B ⊢
  obtain ⟨G0, T0⟩ := B
  generalize hbe : w.heap.size = b0 at T0 ⊢
  have Hbe := Lib.hid hbe
  have G := Lib.hid G0
  have T := Lib.hid T0
  have c0 := T0.c0 W (Gr.refl _)
  have c1 := T0.c1 W (Gr.refl _)
  clear G0 T0 hb hbe
  go_wp2_with fail
  refine (ref2_Fix W _ n l z HZ.out (HA.out.grow G.out) (by omega)).mono ?_
  rintro _ w1 ⟨r1, rfl, g1, h1⟩
  have H1 := Lib.hid h1
  obtain ⟨p1, k1, c1', rfl, hm1⟩ := h1
  have HM1 := Lib.hid hm1
  have T := Lib.hid (T.out.grow g1)
  have G := Lib.hid (G.out.trans g1)
  obtain ⟨sg, hsg⟩ : ∃ sg, decide (z < 0) = sg := ⟨_, rfl⟩
  rw [hsg] at H1 ⊢
  have Hsg := Lib.hid hsg
  clear hm1 hsg g1 c0 c1
  have c0 := T.out.load.1
  have c1 := T.out.load.2
  have f0 := T.out.f0 0
  have f1 := T.out.f0 1
  have E := boxEnd G.out (by rw [Hbe.out]; exact Nat.lt_irrefl _) T.out sg p1 k1 c1'
  have HM2 := Lib.hid (HM1.out.keepBox T.out (.bool sg) (.slice p1 k1 c1'))
  have x0 := E.2.1.load.1
  have x1 := E.2.1.load.2
  have GE := Lib.hid E.1
  clear E
  have hsl := Lib.hid (show (decDigits z.natAbs).length ≤ 40001 from Nat.le_trans (dec_len (L := (digs z.natAbs).length) (lt_of_digs_length (Nat.le_refl _))) (by have := Hzl.out; omega))
  cases sg
  · go_wp2_with fail
    generalize (w1.setCell _ _).setCell _ _ = W2 at GE HM2 ⊢
    refine (ref_Text _ _ _ HM2.out (Nat.le_trans Hzl.out (by decide))).mono ?_
    rintro _ w2 ⟨_, rfl, g2, rfl⟩
    rw [nval_digs]
    clear c0 c1 f0 f1 x0 x1
    go_wp2_with fail
    go_ret
    have hz : ¬ z < 0 := of_decide_eq_false Hsg.out
    refine ⟨_, rfl, GE.out.trans g2, ?_⟩
    rw [← HS.out, if_neg hz]
    rfl
  · go_wp2_with fail
    generalize (w1.setCell _ _).setCell _ _ = W2 at GE HM2 ⊢
    refine (ref_Text _ _ _ HM2.out (Nat.le_trans Hzl.out (by decide))).mono ?_
    rintro _ w2 ⟨_, rfl, g2, rfl⟩
    rw [nval_digs]
    clear c0 c1 f0 f1 x0 x1
    obtain ⟨tx, htx⟩ : ∃ tx, decDigits z.natAbs = tx := ⟨_, rfl⟩
    have hb : tx.length ≤ 40001 := by rw [← htx]; exact hsl.out
    have Htx := Lib.hid htx
    have hcat := Lib.hid (ByteArray.mk_append_mk [45] tx)
    rw [htx]
    clear htx
    go_wp2_with fail
    go_ret
    have hz : z < 0 := of_decide_eq_true Hsg.out
    refine ⟨_, rfl, GE.out.trans g2, ?_⟩
    rw [← HS.out, if_pos hz, Htx.out]
    exact congrArg Value.string hcat.out

set_option maxRecDepth 100000 in
set_option maxHeartbeats 3200000 in
theorem ref2_Int64 (w : World) (va : Value) (n : Bool) (l : List Nat) (z : Int) (t : Bool) (hz : zval n l = z) (ha : IntL w va n l) (hl : l.length ≤ 4000) (ht : fits z = t) :
    Calls Tryz.prog 83 #[va] w (Ret w fun r w' => r = .tuple #[.int .i64 (if t then z else 0), .bool t]) := by
  have HT := Lib.hid ht
  have HZ := Lib.hid hz
  have HA := Lib.hid ha
  obtain ⟨p, k, c, rfl, hm⟩ := ha
  have B := boxed1 w (.bool n) (.slice p k c) 25
  have Hzl := Lib.hid (show (digs z.natAbs).length ≤ 4000 by rw [← hz, zval_natAbs]; exact Nat.le_trans (digs_nval_len hm.dig) hl)
  clear hm hz ht
  have hb : ¬ w.heap.size < w.heap.size := Nat.lt_irrefl _
  go_enter Tryz.func83, Tryz.ntmps83
  go_wp2_with fail
  generalize w.alloc _ = W at B ⊢
  obtain ⟨G0, T0⟩ := B
  generalize hbe : w.heap.size = b0 at T0 ⊢
  have Hbe := Lib.hid hbe
  have G := Lib.hid G0
  have T := Lib.hid T0
  have c0 := T0.c0 W (Gr.refl _)
  have c1 := T0.c1 W (Gr.refl _)
  clear G0 T0 hb hbe
  go_wp2_with fail
  refine (ref2_Fix W _ n l z HZ.out (HA.out.grow G.out) (by omega)).mono ?_
  rintro _ w1 ⟨r1, rfl, g1, h1⟩
  have H1 := Lib.hid h1
  obtain ⟨p1, k1, c1', rfl, hm1⟩ := h1
  have HM1 := Lib.hid hm1
  have T := Lib.hid (T.out.grow g1)
  have G := Lib.hid (G.out.trans g1)
  obtain ⟨sg, hsg⟩ : ∃ sg, decide (z < 0) = sg := ⟨_, rfl⟩
  rw [hsg] at H1 ⊢
  have Hsg := Lib.hid hsg
  clear hm1 hsg g1 c0 c1
  have c0 := T.out.load.1
  have c1 := T.out.load.2
  have f0 := T.out.f0 0
  have f1 := T.out.f0 1
  have E := boxEnd G.out (by rw [Hbe.out]; exact Nat.lt_irrefl _) T.out sg p1 k1 c1'
  have HM2 := Lib.hid (HM1.out.keepBox T.out (.bool sg) (.slice p1 k1 c1'))
  have x0 := E.2.1.load.1
  have x1 := E.2.1.load.2
  have GE := Lib.hid E.1
  have TE := Lib.hid E.2.1
  clear E
  go_wp2_with fail
  clear c0 c1 f0 f1 x0 x1
  generalize (w1.setCell _ _).setCell _ _ = W2 at GE HM2 TE ⊢
  obtain ⟨v, hv⟩ : ∃ v, decide ((digs z.natAbs).length ≤ 2) = v := ⟨_, rfl⟩
  have HV := Lib.hid hv
  refine (ref_Uint W2 _ _ v HM2.out (Nat.le_trans Hzl.out (by decide)) (by rw [nval_digs]; exact hv)).mono ?_
  rintro _ w2 ⟨_, rfl, g2, rfl⟩
  rw [nval_digs]
  have GF := Lib.hid (GE.out.trans g2)
  have x0 := TE.out.c0 w2 g2
  have x1 := TE.out.c1 w2 g2
  clear hv g2
  obtain ⟨u, hu⟩ : ∃ u, z.natAbs = u := ⟨_, rfl⟩
  have hv2 := HV.out
  rw [hu] at hv2 ⊢
  have htt := HT.out
  have hss := Hsg.out
  cases v
  · have hbig : ¬ u < 18446744073709551616 := by rw [← digs_two]; exact of_decide_eq_false hv2
    have h2 : t = false := by rw [← htt]; unfold fits; exact decide_eq_false (by omega)
    subst h2
    clear hv2 htt hss hbig
    go_wp2_with fail
    go_ret2
    exact ⟨_, rfl, GF.out, by simp⟩
  · have hsm : u < 18446744073709551616 := by rw [← digs_two]; exact of_decide_eq_true hv2
    obtain ⟨U, hU⟩ : ∃ U : Int, (u : Int) = U := ⟨_, rfl⟩
    have hU0 : 0 ≤ U := by omega
    have hU1 : U < 18446744073709551616 := by omega
    simp only [if_true, hU]
    cases sg
    · have hz0 : ¬ z < 0 := of_decide_eq_false hss
      have hzU : z = U := by omega
      subst hzU
      by_cases h63 : z < 9223372036854775808
      · have h2 : t = true := by rw [← htt]; unfold fits; exact decide_eq_true (by omega)
        subst h2
        clear hv2 htt hss hsm hu hU
        go_wp2_with fail
        go_ret2
        exact ⟨_, rfl, GF.out, by simp⟩
      · have h2 : t = false := by rw [← htt]; unfold fits; exact decide_eq_false (by omega)
        subst h2
        clear hv2 htt hss hsm hu hU
        go_wp2_with fail
        go_ret2
        exact ⟨_, rfl, GF.out, by simp⟩
    · have hz0 : z < 0 := of_decide_eq_true hss
      have hzU : z = -U := by omega
      by_cases h63 : U ≤ 9223372036854775808
      · have h2 : t = true := by rw [← htt]; unfold fits; exact decide_eq_true (by omega)
        subst h2
        have hU2 : 1 ≤ U := by omega
        have Hz := Lib.hid hzU
        clear hv2 htt hss hsm hu hU hz0 hzU
        go_wp2_with fail
        go_ret2
        refine ⟨_, rfl, GF.out, ?_⟩
        have hz := Hz.out
        have e : -(U - 1) - 1 = z := by omega
        show Value.tuple #[.int .i64 (-(U - 1) - 1), .bool true] = _
        rw [e]
      · have h2 : t = false := by rw [← htt]; unfold fits; exact decide_eq_false (by omega)
        subst h2
        clear hv2 htt hss hsm hu hU hz0 hzU
        go_wp2_with fail
        go_ret2
        exact ⟨_, rfl, GF.out, by simp⟩
end Go.Proofs.YtmcgkglmlfbijaaGreatDoor

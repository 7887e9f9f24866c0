/-
  RationalTexts: the walk.
-/
import Derived.Test.YtmcgkglmlfbijaaGreatDoorRatX
namespace Go.Proofs.YtmcgkglmlfbijaaGreatDoor
open Go.RowKit Go.Lib
set_option linter.unusedVariables false
set_option linter.unusedSimpArgs false

set_option maxRecDepth 100000 in
set_option maxHeartbeats 6400000 in
theorem law_RationalTexts (w : World) (htab : Tab w) (m : Int) (hm : w.cell? ⟨0, 0, none⟩ = some (.int .i64 m)) (s : ByteArray) (hs : s.size ≤ maxLen) :
    Calls Tryz.prog 9 #[.string s] w (Ret w fun r w' => r = .bool true) := by
  have HTab := Lib.hid htab
  have HM := Lib.hid hm
  obtain ⟨bs, rfl⟩ : ∃ bs : List UInt8, s = ⟨bs.toArray⟩ := ⟨s.data.toList, by simp⟩
  obtain ⟨xs, cs, ok, hsl⟩ := slash bs
  obtain ⟨neg, ds, hcut⟩ := cuts xs
  have HS := Lib.hid hsl
  have HC := Lib.hid hcut
  have hal : bs.length ≤ 200 → cs.length ≤ 200 ∧ ds.length ≤ 200 := fun hl => by
    have h1 : xs.length ≤ 200 ∧ cs.length ≤ 200 := by
      rcases hsl with ⟨_, rfl, _⟩ | ⟨_, rfl, rfl, _⟩
      · simp at hl; omega
      · exact ⟨hl, by simp⟩
    refine ⟨h1.2, ?_⟩
    rcases hcut with ⟨_, rfl⟩ | ⟨_, rfl, _⟩
    · have := h1.1; simp at this; omega
    · exact h1.1
  have HAL := Lib.hid hal
  clear htab hm hs hsl hcut hal
  go_enter Tryz.func9, Tryz.ntmps9
  go_wp2_with fail
  refine (law_awake3 w HTab.out).mono ?_
  rintro _ w1 ⟨_, rfl, g1, rfl⟩
  have G := Lib.hid g1
  clear g1
  by_cases hl : bs.length ≤ 200
  · have Hl := Lib.hid hl
    go_wp2_with fail
    refine (rat_Parse w1 bs xs cs ok neg ds HS.out HC.out Hl.out m (G.out.cell HM.out)).mono ?_
    rintro _ w2 ⟨r2, rfl, g2, h2⟩
    have G := Lib.hid (G.out.trans g2)
    clear g2
    obtain ⟨t, ht⟩ : ∃ t, okQ (valI neg ds) (okI neg ds) cs ok = t := ⟨_, rfl⟩
    obtain ⟨x, hx⟩ : ∃ x, valQ (valI neg ds) cs ok = x := ⟨_, rfl⟩
    rw [ht, hx] at h2
    have Ht := Lib.hid ht
    have Hx := Lib.hid hx
    cases t
    · obtain rfl : r2 = .tuple #[.agg #[.bool false, .slice none 0 0, .slice none 0 0], .int .i64 3] := h2
      clear ht hx
      have B := box3 w2 (.bool false) (.slice none 0 0) (.slice none 0 0) 27
      have GB := Lib.hid B.1
      have T3 := Lib.hid B.2
      have T3_0 := B.2.load.1
      have T3_1 := B.2.load.2.1
      have T3_2 := B.2.load.2.2
      clear B
      go_wp2_with fail
      clear T3_0 T3_1 T3_2
      generalize w2.heap.size = b_T3 at T3 ⊢
      generalize w2.alloc _ = W3 at GB T3 ⊢
      have G := Lib.hid (G.out.trans GB.out)
      refine (ref_Parse3 W3 bs xs cs ok neg ds HS.out HC.out Hl.out).mono ?_
      rintro _ w4 ⟨r4, rfl, g4, h4⟩
      have G := Lib.hid (G.out.trans g4)
      have T3 := Lib.hid (T3.out.grow g4)
      clear g4
      rw [Ht.out, Hx.out] at h4
      obtain rfl : r4 = .tuple #[.agg #[.bool false, .slice none 0 0, .slice none 0 0], .int .i64 3] := h4
      have B := box3 w4 (.bool false) (.slice none 0 0) (.slice none 0 0) 27
      have GB := Lib.hid B.1
      have T3_0 := (T3.out.grow B.1).load.1
      have T3_1 := (T3.out.grow B.1).load.2.1
      have T3_2 := (T3.out.grow B.1).load.2.2
      have T5 := Lib.hid B.2
      have T5_0 := B.2.load.1
      have T5_1 := B.2.load.2.1
      have T5_2 := B.2.load.2.2
      clear B
      go_wp2_with fail
      clear T3_0 T3_1 T3_2 T5_0 T5_1 T5_2
      generalize w4.heap.size = b_T5 at T5 ⊢
      generalize w4.alloc _ = W5 at GB T5 ⊢
      have G := Lib.hid (G.out.trans GB.out)
      have T3 := Lib.hid (T3.out.grow GB.out)
      refine (d_SameC W5 _ _ 0 0 true (ratZero W5) (ratZero W5) (by decide)).mono ?_
      rintro _ w6 ⟨_, rfl, g6, rfl⟩
      have G := Lib.hid (G.out.trans g6)
      have T3 := Lib.hid (T3.out.grow g6)
      have T5 := Lib.hid (T5.out.grow g6)
      clear g6
      go_wp2_with fail
      go_ret
      exact ⟨_, rfl, G.out, rfl⟩
    · obtain ⟨v, rfl, hv⟩ := h2
      have HV := Lib.hid hv
      have HTx := Lib.hid (show ratText x = bs by rw [← hx]; exact ratText_Q HS.out HC.out ht)
      have HZ := Lib.hid (show Sz 200 x by rw [← hx]; exact valQ_sz (HAL.out hl).2 (HAL.out hl).1 ht)
      obtain ⟨s1, p1, k1, c1, e1, m1, n1, rfl⟩ := hv.agg
      clear ht hx hv
      have B := box3 w2 (.bool s1) (.slice p1 k1 c1) (.slice e1 m1 n1) 27
      have GB := Lib.hid B.1
      have T3 := Lib.hid B.2
      have T3_0 := B.2.load.1
      have T3_1 := B.2.load.2.1
      have T3_2 := B.2.load.2.2
      clear B
      go_wp2_with fail
      clear T3_0 T3_1 T3_2
      generalize w2.heap.size = b_T3 at T3 ⊢
      generalize w2.alloc _ = W3 at GB T3 ⊢
      have G := Lib.hid (G.out.trans GB.out)
      have HV := Lib.hid (HV.out.grow GB.out)
      refine (ref_Parse3 W3 bs xs cs ok neg ds HS.out HC.out Hl.out).mono ?_
      rintro _ w4 ⟨r4, rfl, g4, h4⟩
      have G := Lib.hid (G.out.trans g4)
      have T3 := Lib.hid (T3.out.grow g4)
      have HV := Lib.hid (HV.out.grow g4)
      clear g4
      rw [Ht.out, Hx.out] at h4
      obtain ⟨u, rfl, hu⟩ := h4
      have HU := Lib.hid hu
      clear hu
      obtain ⟨s2, p2, k2, c2, e2, m2, n2, rfl⟩ := HU.out.agg
      have B := box3 w4 (.bool s2) (.slice p2 k2 c2) (.slice e2 m2 n2) 27
      have GB := Lib.hid B.1
      have T3_0 := (T3.out.grow B.1).load.1
      have T3_1 := (T3.out.grow B.1).load.2.1
      have T3_2 := (T3.out.grow B.1).load.2.2
      have T5 := Lib.hid B.2
      have T5_0 := B.2.load.1
      have T5_1 := B.2.load.2.1
      have T5_2 := B.2.load.2.2
      clear B
      go_wp2_with fail
      clear T3_0 T3_1 T3_2 T5_0 T5_1 T5_2
      generalize w4.heap.size = b_T5 at T5 ⊢
      generalize w4.alloc _ = W5 at GB T5 ⊢
      have G := Lib.hid (G.out.trans GB.out)
      have T3 := Lib.hid (T3.out.grow GB.out)
      have HV := Lib.hid (HV.out.grow GB.out)
      have HU := Lib.hid (HU.out.grow GB.out)
      refine (d_SameC W5 _ _ x x true HV.out HU.out (decide_eq_true rfl)).mono ?_
      rintro _ w6 ⟨_, rfl, g6, rfl⟩
      have G := Lib.hid (G.out.trans g6)
      have T3 := Lib.hid (T3.out.grow g6)
      have T5 := Lib.hid (T5.out.grow g6)
      have HV := Lib.hid (HV.out.grow g6)
      have HU := Lib.hid (HU.out.grow g6)
      clear g6
      have T3_0 := T3.out.load.1
      have T3_1 := T3.out.load.2.1
      have T3_2 := T3.out.load.2.2
      have T5_0 := T5.out.load.1
      have T5_1 := T5.out.load.2.1
      have T5_2 := T5.out.load.2.2
      go_wp2_with fail
      refine (q_Text w6 _ x 200 bs (HV.out.v HZ.out) HTx.out (by decide) (by decide) (HTab.out.grow G.out)).mono ?_
      rintro _ w7 ⟨_, rfl, g7, rfl⟩
      clear T3_0 T3_1 T3_2 T5_0 T5_1 T5_2
      have G := Lib.hid (G.out.trans g7)
      have T3 := Lib.hid (T3.out.grow g7)
      have T5 := Lib.hid (T5.out.grow g7)
      have HV := Lib.hid (HV.out.grow g7)
      have HU := Lib.hid (HU.out.grow g7)
      clear g7
      have T3_0 := T3.out.load.1
      have T3_1 := T3.out.load.2.1
      have T3_2 := T3.out.load.2.2
      have T5_0 := T5.out.load.1
      have T5_1 := T5.out.load.2.1
      have T5_2 := T5.out.load.2.2
      go_wp2_with fail
      refine (v_Valid w7 _ x 200 HV.out HZ.out (by decide)).mono ?_
      rintro _ w8 ⟨_, rfl, g8, rfl⟩
      clear T3_0 T3_1 T3_2 T5_0 T5_1 T5_2
      have G := Lib.hid (G.out.trans g8)
      have T3 := Lib.hid (T3.out.grow g8)
      have T5 := Lib.hid (T5.out.grow g8)
      have HV := Lib.hid (HV.out.grow g8)
      have HU := Lib.hid (HU.out.grow g8)
      clear g8
      go_wp2_with fail
      go_ret
      exact ⟨_, rfl, G.out, rfl⟩
  · go_wp2_with fail
    refine (law_awake3 w1 (HTab.out.grow G.out)).mono ?_
    rintro _ w2 ⟨_, rfl, g2, rfl⟩
    go_wp2_with fail
    go_ret
    exact ⟨_, rfl, G.out.trans g2, rfl⟩
end Go.Proofs.YtmcgkglmlfbijaaGreatDoor

/-
  The laws CatalogNames and CatalogFinds.
-/
import Derived.Test.YtammehbflilbiaaDoorExb
import Derived.Test.YtammehbflilbiaaDoorOpen
import Derived.Test.YtammehbflilbiaaDoorTxt
namespace Go.Proofs.YtammehbflilbiaaDoor
open Go.RowKit Go.Lib Lex
set_option linter.unusedVariables false
set_option linter.unusedSimpArgs false

theorem str_ofL (s : ByteArray) : ∃ bs : List UInt8, s = ⟨bs.toArray⟩ ∧ bs.length = s.size := ⟨s.data.toList, by rw [Array.toArray_toList], Array.length_toList⟩
theorem kw_StrL {w : World} {b : Nat} (h : KwRow w b) : StrL w (.slice (some ⟨b, 0, none⟩) keywords.length 28) keywords := by
  refine ⟨by rw [flat_len encS_len], _, 28, rfl, by decide, by decide, .inr ⟨b, 0, rfl, fun j u hu => ?_⟩⟩
  rw [flat_strV, List.getElem?_map, Option.map_eq_some_iff] at hu
  obtain ⟨s, hs, rfl⟩ := hu
  have hj := (List.getElem?_eq_some_iff.1 hs).1
  have := h j (by unfold kws; rw [List.length_map]; exact hj)
  rw [this]
  unfold kws strV
  simp [List.getD, hs]
set_option maxRecDepth 100000 in
set_option maxHeartbeats 800000 in
theorem law_CatalogNames (w : World) (ht : Tab w) (bs : ByteArray) :
    Calls Tryd.prog 3 #[.string bs] w (Ret w fun r _ => r = .bool true) := by
  have HT := Lib.hid ht
  clear ht
  obtain ⟨s, rfl, hbs⟩ := str_ofL bs
  clear hbs
  go_enter Tryd.func3, Tryd.ntmps3
  go_wp2_with fail
  refine (law_awake w HT.out).mono ?_
  rintro _ w1 ⟨_, rfl, g1, rfl⟩
  have G := Lib.hid g1
  have HT := Lib.hid (HT.out.grow g1)
  clear g1
  by_cases h1 : (100 : Int) < (s.length : Int)
  · go_wp2_with fail
    go_ret
    exact ⟨_, rfl, G.out, rfl⟩
  · have HS := Lib.hid h1
    have h1 : (s.length : Int) ≤ 100 := by omega
    go_wp2_with fail
    refine (cat_IsName _ s HT.out (by omega)).mono ?_
    rintro _ w2 ⟨_, rfl, g2, rfl⟩
    have G := Lib.hid (G.out.trans g2)
    have HT := Lib.hid (HT.out.grow g2)
    clear g2
    go_wp2_with fail
    refine (ref_IsName _ s (by omega)).mono ?_
    rintro _ w3 ⟨_, rfl, g3, rfl⟩
    have G := Lib.hid (G.out.trans g3)
    have HT := Lib.hid (HT.out.grow g3)
    clear g3
    generalize isName s = nm
    have hb : (nm == nm) = true := by cases nm <;> rfl
    go_wp2_with fail
    refine (cat_Keywords _ HT.out).mono ?_
    rintro _ w4 ⟨_, rfl, g4, b, rfl, hk⟩
    have G := Lib.hid (G.out.trans g4)
    have HK := Lib.hid (kw_StrL hk)
    clear g4 hk
    go_wp2_with fail
    refine (ref_Keywords w4).mono ?_
    rintro _ w5 ⟨v5, rfl, g5, hk5⟩
    have G := Lib.hid (G.out.trans g5)
    have HK := Lib.hid (SlL.grow HK.out g5)
    have hk6 := StrS.toL hk5
    obtain ⟨p, c, rfl, _, _⟩ := SlL.parts hk6
    have HK6 := Lib.hid hk6
    clear hk5 hk6 g5
    go_wp2_with fail
    refine (ref_Texts w5 _ p 28 c keywords keywords HK.out HK6.out (by decide) (by decide)).mono ?_
    rintro _ w6 ⟨r6, rfl, g6, h6⟩
    have G := Lib.hid (G.out.trans g6)
    rcases h6.cases with ⟨rfl, _⟩ | ⟨_, k1⟩
    rotate_left
    · exact absurd rfl k1
    clear h6 g6
    go_wp2_with fail
    go_ret
    exact ⟨_, rfl, G.out, rfl⟩
set_option maxRecDepth 100000 in
set_option maxHeartbeats 800000 in
theorem law_CatalogFinds (w : World) (ht : Tab w) (P : Ptrs) (M : Mdl) (hm : MdlAt w P M) (hr : MdlR M) (bs : ByteArray) :
    Calls Tryd.prog 4 #[.agg (mcells P M), .string bs] w (Ret w fun r _ => r = .bool true) := by
  have HT := Lib.hid ht
  clear ht hr
  obtain ⟨s, rfl, hbs⟩ := str_ofL bs
  clear hbs
  have HM := Lib.hid hm
  have B := Cells.new w (mcells P M) 33
  clear hm
  have m0 := mc0 B.2 _ (Gr.refl _)
  have m1 := mc1 B.2 _ (Gr.refl _)
  have m2 := mc2 B.2 _ (Gr.refl _)
  have m3 := mc3 B.2 _ (Gr.refl _)
  have m4 := mc4 B.2 _ (Gr.refl _)
  have m5 := mc5 B.2 _ (Gr.refl _)
  have m6 := mc6 B.2 _ (Gr.refl _)
  have m7 := mc7 B.2 _ (Gr.refl _)
  have m8 := mc8 B.2 _ (Gr.refl _)
  have m9 := mc9 B.2 _ (Gr.refl _)
  have m10 := mc10 B.2 _ (Gr.refl _)
  unfold mcells at B m0 m1 m2 m3 m4 m5 m6 m7 m8 m9 m10 ⊢
  go_enter Tryd.func4, Tryd.ntmps4
  go_wp2_with fail
  clear m0 m1 m2 m3 m4 m5 m6 m7 m8 m9 m10
  generalize w.heap.size = bm at B ⊢
  generalize w.alloc _ = W at B ⊢
  obtain ⟨g0, tm⟩ := B
  have TM := Lib.hid (show Cells W bm (mcells P M) from tm)
  have G := Lib.hid g0
  have HM := Lib.hid (HM.out.grow g0)
  clear g0 tm
  have m0 := mc0 TM.out _ (Gr.refl _)
  have m1 := mc1 TM.out _ (Gr.refl _)
  have m2 := mc2 TM.out _ (Gr.refl _)
  have m3 := mc3 TM.out _ (Gr.refl _)
  have m4 := mc4 TM.out _ (Gr.refl _)
  have m5 := mc5 TM.out _ (Gr.refl _)
  have m6 := mc6 TM.out _ (Gr.refl _)
  have m7 := mc7 TM.out _ (Gr.refl _)
  have m8 := mc8 TM.out _ (Gr.refl _)
  have m9 := mc9 TM.out _ (Gr.refl _)
  have m10 := mc10 TM.out _ (Gr.refl _)
  have HT := Lib.hid (HT.out.grow G.out)
  clear m0 m1 m2 m3 m4 m5 m6 m7 m8 m9 m10
  refine (law_awake W HT.out).mono ?_
  rintro _ w1 ⟨_, rfl, g1, rfl⟩
  have G := Lib.hid (G.out.trans g1)
  have TM := Lib.hid (TM.out.grow g1)
  have HM := Lib.hid (HM.out.grow g1)
  have HT := Lib.hid (HT.out.grow g1)
  clear g1
  have m0 := mc0 TM.out _ (Gr.refl _)
  have m1 := mc1 TM.out _ (Gr.refl _)
  have m2 := mc2 TM.out _ (Gr.refl _)
  have m3 := mc3 TM.out _ (Gr.refl _)
  have m4 := mc4 TM.out _ (Gr.refl _)
  have m5 := mc5 TM.out _ (Gr.refl _)
  have m6 := mc6 TM.out _ (Gr.refl _)
  have m7 := mc7 TM.out _ (Gr.refl _)
  have m8 := mc8 TM.out _ (Gr.refl _)
  have m9 := mc9 TM.out _ (Gr.refl _)
  have m10 := mc10 TM.out _ (Gr.refl _)
  go_wp2_with fail
  clear m0 m1 m2 m3 m4 m5 m6 m7 m8 m9 m10
  refine (ref_Few _ P M HM.out).mono ?_
  rintro _ w2 ⟨r2, rfl, g2, h⟩
  have G := Lib.hid (G.out.trans g2)
  have TM := Lib.hid (TM.out.grow g2)
  have HM := Lib.hid (HM.out.grow g2)
  have HT := Lib.hid (HT.out.grow g2)
  clear g2
  rcases h.cases with ⟨rfl, k1⟩ | ⟨rfl, k1⟩
  · have HF := Lib.hid k1
    clear h k1
    by_cases h1 : (100 : Int) < (s.length : Int)
    · have m0 := mc0 TM.out _ (Gr.refl _)
      have m1 := mc1 TM.out _ (Gr.refl _)
      have m2 := mc2 TM.out _ (Gr.refl _)
      have m3 := mc3 TM.out _ (Gr.refl _)
      have m4 := mc4 TM.out _ (Gr.refl _)
      have m5 := mc5 TM.out _ (Gr.refl _)
      have m6 := mc6 TM.out _ (Gr.refl _)
      have m7 := mc7 TM.out _ (Gr.refl _)
      have m8 := mc8 TM.out _ (Gr.refl _)
      have m9 := mc9 TM.out _ (Gr.refl _)
      have m10 := mc10 TM.out _ (Gr.refl _)
      go_wp2_with fail
      go_ret
      exact ⟨_, rfl, G.out, rfl⟩
    · have HS := Lib.hid h1
      have h1 : (s.length : Int) ≤ 100 := by omega
      have m0 := mc0 TM.out _ (Gr.refl _)
      have m1 := mc1 TM.out _ (Gr.refl _)
      have m2 := mc2 TM.out _ (Gr.refl _)
      have m3 := mc3 TM.out _ (Gr.refl _)
      have m4 := mc4 TM.out _ (Gr.refl _)
      have m5 := mc5 TM.out _ (Gr.refl _)
      have m6 := mc6 TM.out _ (Gr.refl _)
      have m7 := mc7 TM.out _ (Gr.refl _)
      have m8 := mc8 TM.out _ (Gr.refl _)
      have m9 := mc9 TM.out _ (Gr.refl _)
      have m10 := mc10 TM.out _ (Gr.refl _)
      go_wp2_with fail
      clear m0 m1 m2 m3 m4 m5 m6 m7 m8 m9 m10
      refine (cat_Find _ P M s HM.out HF.out).mono ?_
      rintro _ w3 ⟨_, rfl, g3, rfl⟩
      have G := Lib.hid (G.out.trans g3)
      have TM := Lib.hid (TM.out.grow g3)
      have HM := Lib.hid (HM.out.grow g3)
      have HT := Lib.hid (HT.out.grow g3)
      clear g3
      have m0 := mc0 TM.out _ (Gr.refl _)
      have m1 := mc1 TM.out _ (Gr.refl _)
      have m2 := mc2 TM.out _ (Gr.refl _)
      have m3 := mc3 TM.out _ (Gr.refl _)
      have m4 := mc4 TM.out _ (Gr.refl _)
      have m5 := mc5 TM.out _ (Gr.refl _)
      have m6 := mc6 TM.out _ (Gr.refl _)
      have m7 := mc7 TM.out _ (Gr.refl _)
      have m8 := mc8 TM.out _ (Gr.refl _)
      have m9 := mc9 TM.out _ (Gr.refl _)
      have m10 := mc10 TM.out _ (Gr.refl _)
      go_wp2_with fail
      clear m0 m1 m2 m3 m4 m5 m6 m7 m8 m9 m10
      refine (ref_Find _ P M s HM.out HF.out).mono ?_
      rintro _ w4 ⟨_, rfl, g4, rfl⟩
      have G := Lib.hid (G.out.trans g4)
      have TM := Lib.hid (TM.out.grow g4)
      have HM := Lib.hid (HM.out.grow g4)
      have HT := Lib.hid (HT.out.grow g4)
      clear g4
      generalize findR M s = fr
      obtain ⟨f1, f2, f3⟩ := fr
      have e1 : (f1 == f1) = true := by simp
      have e2 : (f2 == f2) = true := by simp
      have e3 : (f3 == f3) = true := by cases f3 <;> rfl
      dsimp only
      go_wp2_with fail
      have g0 : Gr w4 w4.drew := (Gr.refl _).drew
      have m0 := mc0 TM.out
      have m1 := mc1 TM.out
      have m2 := mc2 TM.out
      have m3 := mc3 TM.out
      have m4 := mc4 TM.out
      have m5 := mc5 TM.out
      have m6 := mc6 TM.out
      have m7 := mc7 TM.out
      have m8 := mc8 TM.out
      have m9 := mc9 TM.out
      have m10 := mc10 TM.out
      try dsimp only at m0 m1 m2 m3 m4 m5 m6 m7 m8 m9 m10
      refine wp_region_fast [(0, true), (1, true), (2, true), (3, true), (4, true), (5, true), (6, true), (7, true), (8, true), (9, true), (10, true), (11, true), (12, true), (13, true), (14, true), (16, true), (15, false), (17, false), (18, false), (19, true), (20, true)] (by kernel_rfl) (by kernel_rfl) rfl (by kernel_rfl) (fun _ _ d _ _ h => by cases d <;> exact h) ?_
      repeat (refine wpE_readB (v := ?_) g0 rfl rfl (fun w' hg => ?_) (fun K hK => ?_); rotate_left; (go_simp; rfl); go_simp; refine hK _ _ ?_; clear hK K)
      refine wpE_fn (args := ?_) rfl rfl rfl rfl rfl rfl (by kernel_rfl) (by kernel_rfl) ?_ (fun K hK => ?_)
      rotate_left
      · go_simp; rfl
      refine (cat_Names _ P M (HM.out.grow g0) HF.out).mono ?_
      rintro _ w5 ⟨r5, rfl, g5, h5⟩
      refine ⟨_, rfl, g5, ?_⟩
      go_simp
      refine hK _ _ ?_
      clear hK K
      replace g0 := g0.trans g5
      repeat (refine wpE_readB (v := ?_) g0 rfl rfl (fun w' hg => ?_) (fun K hK => ?_); rotate_left; (go_simp; rfl); go_simp; refine hK _ _ ?_; clear hK K)
      refine wpE_fn (args := ?_) rfl rfl rfl rfl rfl rfl (by kernel_rfl) (by kernel_rfl) ?_ (fun K hK => ?_)
      rotate_left
      · go_simp; rfl
      refine (ref_Names _ P M (HM.out.grow g0) HF.out).mono ?_
      rintro _ w6 ⟨r6, rfl, g6, h6⟩
      have h5 := SlL.grow h5 g6
      refine ⟨_, rfl, g6, ?_⟩
      go_simp
      refine hK _ _ ?_
      clear hK K
      replace g0 := g0.trans g6
      obtain ⟨p5, c5, rfl, _, _⟩ := h5.parts
      obtain ⟨p6, c6, rfl, _, _⟩ := h6.parts
      repeat (refine wpE_readB (v := ?_) g0 rfl rfl (fun w' hg => ?_) (fun K hK => ?_); rotate_left; (go_simp; rfl); go_simp; refine hK _ _ ?_; clear hK K)
      refine wpE_fn (args := ?_) rfl rfl rfl rfl rfl rfl (by kernel_rfl) (by kernel_rfl) ?_ (fun K hK => ?_)
      rotate_left
      · go_simp; rfl
      refine (ref_Texts _ p5 p6 c5 c6 (names M) (names M) h5 h6 (by have := names_len HF.out; omega) (by have := names_len HF.out; omega)).mono ?_
      rintro _ w7 ⟨r7, rfl, g7, h7⟩
      rcases h7.cases with ⟨rfl, _⟩ | ⟨_, k1⟩
      rotate_left
      · exact absurd rfl k1
      refine ⟨_, rfl, g7, ?_⟩
      go_simp
      refine hK _ _ ?_
      clear hK K
      replace g0 := g0.trans g7
      repeat (refine wpE_readB (v := ?_) g0 rfl rfl (fun w' hg => ?_) (fun K hK => ?_); rotate_left; (go_simp; rfl); go_simp; refine hK _ _ ?_; clear hK K)
      refine wpE_nil ?_
      have G := Lib.hid (G.out.trans g0)
      clear m0 m1 m2 m3 m4 m5 m6 m7 m8 m9 m10
      go_wp2_with fail
      go_ret
      exact ⟨_, rfl, G.out, rfl⟩
  · clear h
    have m0 := mc0 TM.out _ (Gr.refl _)
    have m1 := mc1 TM.out _ (Gr.refl _)
    have m2 := mc2 TM.out _ (Gr.refl _)
    have m3 := mc3 TM.out _ (Gr.refl _)
    have m4 := mc4 TM.out _ (Gr.refl _)
    have m5 := mc5 TM.out _ (Gr.refl _)
    have m6 := mc6 TM.out _ (Gr.refl _)
    have m7 := mc7 TM.out _ (Gr.refl _)
    have m8 := mc8 TM.out _ (Gr.refl _)
    have m9 := mc9 TM.out _ (Gr.refl _)
    have m10 := mc10 TM.out _ (Gr.refl _)
    go_wp2_with fail
    go_ret
    exact ⟨_, rfl, G.out, rfl⟩
end Go.Proofs.YtammehbflilbiaaDoor

/-
  lexer.token.
-/
import Derived.Test.YtakcolmgbahgiaaDoorLexH
namespace Go.Proofs.YtakcolmgbahgiaaDoor
open Go.RowKit Go.Lib Lex
set_option linter.unusedVariables false
set_option linter.unusedSimpArgs false


set_option maxRecDepth 100000 in
set_option maxHeartbeats 1600000 in
theorem lex_token (w : World) (ht : Tab w) (b : UInt8) (r : List UInt8) (bs : List UInt8) (hbs : bs = b :: r) (hl : bs.length ≤ 1000000000) :
    Calls Tryd.prog 21 #[.string ⟨bs.toArray⟩] w (Ret w fun v _ => v = tokR (tokL bs)) := by
  have HT := Lib.hid ht
  clear ht
  have hi : ∀ h, (⟨bs.toArray⟩ : ByteArray)[0]'h = b := fun h => by subst hbs; rfl
  have hpos : 0 < bs.length := by rw [hbs]; simp
  have HR := Lib.hid (show tokL bs = if isLo b then wordR bs else if isDi b then numR bs else if b == 59 || b == 44 then .ok ⟨4, [b], 0, 0⟩ else .error 3 by rw [hbs]; exact tokL_eq b r)
  have Hbs := Lib.hid hbs
  clear hbs
  have B := box4 w (.int .i64 0) (.string ⟨#[]⟩) (.int .i64 0) (.int .i64 0) 33
  go_enter Tryd.func21, Tryd.ntmps21
  go_wp2_with fail
  generalize w.alloc _ = W at B ⊢
  obtain ⟨G0, t0⟩ := B
  generalize hb0 : w.heap.size = b0 at t0  ⊢
  have Hb0 := Lib.hid (show ¬ b0 < w.heap.size by omega)
  have G := Lib.hid G0
  have T0 := Lib.hid t0
  clear hb0 G0 t0
  have HT := Lib.hid (HT.out.grow G.out)
  refine (lex_from _ 97 122).mono ?_
  rintro _ w1 ⟨r1, rfl, g1, h1⟩
  have G := Lib.hid (G.out.trans g1)
  have T0 := Lib.hid (T0.out.grow g1)
  have HT := Lib.hid (HT.out.grow g1)
  clear g1
  have H1 := Lib.hid h1
  clear h1
  obtain ⟨f1, k1, rfl, he1, h5⟩ := H1.out
  have H5 := Lib.hid h5
  clear h5 H1
  go_wp2_with fail
  refine (H5.out w1 (Gr.refl _) b).mono ?_
  rintro _ w2 ⟨_, rfl, g2, rfl⟩
  have G := Lib.hid (G.out.trans g2)
  have T0 := Lib.hid (T0.out.grow g2)
  have HT := Lib.hid (HT.out.grow g2)
  clear g2
  clear H5 he1
  obtain ⟨c1, hc1⟩ : ∃ c1, isLo b = c1 := ⟨_, rfl⟩
  rw [show inR 97 122 b = c1 from hc1]
  have Hc1 := Lib.hid hc1
  clear hc1
  cases c1
  · go_wp2_with fail
    refine (lex_from _ 48 57).mono ?_
    rintro _ w3 ⟨r3, rfl, g3, h3⟩
    have G := Lib.hid (G.out.trans g3)
    have T0 := Lib.hid (T0.out.grow g3)
    have HT := Lib.hid (HT.out.grow g3)
    clear g3
    have H3 := Lib.hid h3
    clear h3
    obtain ⟨f3, k3, rfl, he3, h5⟩ := H3.out
    have H5 := Lib.hid h5
    clear h5 H3
    go_wp2_with fail
    refine (H5.out w3 (Gr.refl _) b).mono ?_
    rintro _ w4 ⟨_, rfl, g4, rfl⟩
    have G := Lib.hid (G.out.trans g4)
    have T0 := Lib.hid (T0.out.grow g4)
    have HT := Lib.hid (HT.out.grow g4)
    clear g4
    clear H5 he3
    obtain ⟨c2, hc2⟩ : ∃ c2, isDi b = c2 := ⟨_, rfl⟩
    rw [show inR 48 57 b = c2 from hc2]
    have Hc2 := Lib.hid hc2
    clear hc2
    cases c2
    · go_wp2_with fail
      refine (lex_among _ [59, 44]).mono ?_
      rintro _ w5 ⟨r5, rfl, g5, h5⟩
      have G := Lib.hid (G.out.trans g5)
      have T0 := Lib.hid (T0.out.grow g5)
      have HT := Lib.hid (HT.out.grow g5)
      clear g5
      have H5 := Lib.hid h5
      clear h5
      obtain ⟨f5, k5, rfl, he5, h5⟩ := H5.out
      have H6 := Lib.hid h5
      clear h5 H5
      go_wp2_with fail
      refine (H6.out w5 (Gr.refl _) b).mono ?_
      rintro _ w6 ⟨_, rfl, g6, rfl⟩
      have G := Lib.hid (G.out.trans g6)
      have T0 := Lib.hid (T0.out.grow g6)
      have HT := Lib.hid (HT.out.grow g6)
      clear g6
      clear H6 he5
      obtain ⟨c3, hc3⟩ : ∃ c3, (b == 59 || b == 44) = c3 := ⟨_, rfl⟩
      rw [show inS [59, 44] b = c3 by rw [← hc3]; simp [inS, List.contains_cons]; rfl]
      have Hc3 := Lib.hid hc3
      have HE := Lib.hid (show tokL bs = if c3 then .ok ⟨4, [b], 0, 0⟩ else .error 3 by rw [HR.out, Hc1.out, Hc2.out, hc3]; rfl)
      clear hc3
      cases c3
      · have T0_0 := T0.out.load.1
        have T0_f0 := T0.out.f0 0
        have T0_1 := T0.out.load.2.1
        have T0_f1 := T0.out.f0 1
        have T0_2 := T0.out.load.2.2.1
        have T0_f2 := T0.out.f0 2
        have T0_3 := T0.out.load.2.2.2
        have T0_f3 := T0.out.f0 3
        go_wp2_with fail
        clear T0_0 T0_f0 T0_1 T0_f1 T0_2 T0_f2 T0_3 T0_f3
        have hu := upd4 w6 b0 (.int .i64 0) (.string ⟨#[]⟩) (.int .i64 0) (.int .i64 0)
        have T0 := Lib.hid (T0.out.set (.int .i64 0) (.string ⟨#[]⟩) (.int .i64 0) (.int .i64 0))
        have G := Lib.hid (G.out.four Hb0.out (.int .i64 0) (.string ⟨#[]⟩) (.int .i64 0) (.int .i64 0))
        clear hu
        generalize (((w6.setCell _ _).setCell _ _).setCell _ _).setCell _ _ = W7 at G T0 ⊢
        have T0_0 := T0.out.load.1
        have T0_1 := T0.out.load.2.1
        have T0_2 := T0.out.load.2.2.1
        have T0_3 := T0.out.load.2.2.2
        refine bodyPost_ret (by simp [results, Tryd.results21, go_sem, T0_0, T0_1, T0_2, T0_3]; rfl) rfl ?_
        exact ⟨_, rfl, G.out, by rw [HE.out]; rfl⟩
      · have hex : (⟨bs.toArray⟩ : ByteArray).extract 0 1 = ⟨[b].toArray⟩ := by rw [ByteArray.extract_mk, Hbs.out]; simp
        have T0_0 := T0.out.load.1
        have T0_f0 := T0.out.f0 0
        have T0_1 := T0.out.load.2.1
        have T0_f1 := T0.out.f0 1
        have T0_2 := T0.out.load.2.2.1
        have T0_f2 := T0.out.f0 2
        have T0_3 := T0.out.load.2.2.2
        have T0_f3 := T0.out.f0 3
        go_wp2_with fail
        clear T0_0 T0_f0 T0_1 T0_f1 T0_2 T0_f2 T0_3 T0_f3
        have hu := upd4 w6 b0 (.int .i64 4) (.string ⟨[b].toArray⟩) (.int .i64 0) (.int .i64 0)
        have T0 := Lib.hid (T0.out.set (.int .i64 4) (.string ⟨[b].toArray⟩) (.int .i64 0) (.int .i64 0))
        have G := Lib.hid (G.out.four Hb0.out (.int .i64 4) (.string ⟨[b].toArray⟩) (.int .i64 0) (.int .i64 0))
        clear hu
        generalize (((w6.setCell _ _).setCell _ _).setCell _ _).setCell _ _ = W7 at G T0 ⊢
        have T0_0 := T0.out.load.1
        have T0_1 := T0.out.load.2.1
        have T0_2 := T0.out.load.2.2.1
        have T0_3 := T0.out.load.2.2.2
        refine bodyPost_ret (by simp [results, Tryd.results21, go_sem, T0_0, T0_1, T0_2, T0_3]; rfl) rfl ?_
        exact ⟨_, rfl, G.out, by rw [HE.out]; rfl⟩
    · go_wp2_with fail
      refine (lex_number _ bs hl).mono ?_
      rintro _ w5 ⟨_, rfl, g5, rfl⟩
      have G := Lib.hid (G.out.trans g5)
      have T0 := Lib.hid (T0.out.grow g5)
      clear g5
      have HE := Lib.hid (show tokL bs = numR bs by rw [HR.out, Hc1.out, Hc2.out]; rfl)
      cases hn : numR bs with
      | error e =>
        have He := Lib.hid (HE.out.trans hn)
        clear hn
        simp only [tokR, tokV, noTok]
        have T0_0 := T0.out.load.1
        have T0_f0 := T0.out.f0 0
        have T0_1 := T0.out.load.2.1
        have T0_f1 := T0.out.f0 1
        have T0_2 := T0.out.load.2.2.1
        have T0_f2 := T0.out.f0 2
        have T0_3 := T0.out.load.2.2.2
        have T0_f3 := T0.out.f0 3
        go_wp2_with fail
        clear T0_0 T0_f0 T0_1 T0_f1 T0_2 T0_f2 T0_3 T0_f3
        have hu := upd4 w5 b0 (.int .i64 (0 : Nat)) (.string ⟨[].toArray⟩) (.int .i64 (0 : Nat)) (.int .i64 (0 : Nat))
        have T0 := Lib.hid (T0.out.set (.int .i64 (0 : Nat)) (.string ⟨[].toArray⟩) (.int .i64 (0 : Nat)) (.int .i64 (0 : Nat)))
        have G := Lib.hid (G.out.four Hb0.out (.int .i64 (0 : Nat)) (.string ⟨[].toArray⟩) (.int .i64 (0 : Nat)) (.int .i64 (0 : Nat)))
        clear hu
        generalize (((w5.setCell _ _).setCell _ _).setCell _ _).setCell _ _ = W7 at G T0 ⊢
        have T0_0 := T0.out.load.1
        have T0_1 := T0.out.load.2.1
        have T0_2 := T0.out.load.2.2.1
        have T0_3 := T0.out.load.2.2.2
        refine bodyPost_ret (by simp [results, Tryd.results21, go_sem, T0_0, T0_1, T0_2, T0_3]; rfl) rfl ?_
        exact ⟨_, rfl, G.out, by rw [He.out]; rfl⟩
      | ok t =>
        have He := Lib.hid (HE.out.trans hn)
        clear hn
        simp only [tokR, tokV, noTok]
        have T0_0 := T0.out.load.1
        have T0_f0 := T0.out.f0 0
        have T0_1 := T0.out.load.2.1
        have T0_f1 := T0.out.f0 1
        have T0_2 := T0.out.load.2.2.1
        have T0_f2 := T0.out.f0 2
        have T0_3 := T0.out.load.2.2.2
        have T0_f3 := T0.out.f0 3
        go_wp2_with fail
        clear T0_0 T0_f0 T0_1 T0_f1 T0_2 T0_f2 T0_3 T0_f3
        have hu := upd4 w5 b0 (.int .i64 t.kind) (.string ⟨t.text.toArray⟩) (.int .i64 t.num) (.int .i64 t.pos)
        have T0 := Lib.hid (T0.out.set (.int .i64 t.kind) (.string ⟨t.text.toArray⟩) (.int .i64 t.num) (.int .i64 t.pos))
        have G := Lib.hid (G.out.four Hb0.out (.int .i64 t.kind) (.string ⟨t.text.toArray⟩) (.int .i64 t.num) (.int .i64 t.pos))
        clear hu
        generalize (((w5.setCell _ _).setCell _ _).setCell _ _).setCell _ _ = W7 at G T0 ⊢
        have T0_0 := T0.out.load.1
        have T0_1 := T0.out.load.2.1
        have T0_2 := T0.out.load.2.2.1
        have T0_3 := T0.out.load.2.2.2
        refine bodyPost_ret (by simp [results, Tryd.results21, go_sem, T0_0, T0_1, T0_2, T0_3]; rfl) rfl ?_
        exact ⟨_, rfl, G.out, by rw [He.out]; rfl⟩
  · go_wp2_with fail
    refine (lex_word _ HT.out bs hl).mono ?_
    rintro _ w3 ⟨_, rfl, g3, rfl⟩
    have G := Lib.hid (G.out.trans g3)
    have T0 := Lib.hid (T0.out.grow g3)
    have HT := Lib.hid (HT.out.grow g3)
    clear g3
    have HE := Lib.hid (show tokL bs = wordR bs by rw [HR.out, Hc1.out]; rfl)
    cases hn : wordR bs with
    | error e =>
      have He := Lib.hid (HE.out.trans hn)
      clear hn
      simp only [tokR, tokV, noTok]
      have T0_0 := T0.out.load.1
      have T0_f0 := T0.out.f0 0
      have T0_1 := T0.out.load.2.1
      have T0_f1 := T0.out.f0 1
      have T0_2 := T0.out.load.2.2.1
      have T0_f2 := T0.out.f0 2
      have T0_3 := T0.out.load.2.2.2
      have T0_f3 := T0.out.f0 3
      go_wp2_with fail
      clear T0_0 T0_f0 T0_1 T0_f1 T0_2 T0_f2 T0_3 T0_f3
      have hu := upd4 w3 b0 (.int .i64 (0 : Nat)) (.string ⟨[].toArray⟩) (.int .i64 (0 : Nat)) (.int .i64 (0 : Nat))
      have T0 := Lib.hid (T0.out.set (.int .i64 (0 : Nat)) (.string ⟨[].toArray⟩) (.int .i64 (0 : Nat)) (.int .i64 (0 : Nat)))
      have G := Lib.hid (G.out.four Hb0.out (.int .i64 (0 : Nat)) (.string ⟨[].toArray⟩) (.int .i64 (0 : Nat)) (.int .i64 (0 : Nat)))
      clear hu
      generalize (((w3.setCell _ _).setCell _ _).setCell _ _).setCell _ _ = W7 at G T0 ⊢
      have T0_0 := T0.out.load.1
      have T0_1 := T0.out.load.2.1
      have T0_2 := T0.out.load.2.2.1
      have T0_3 := T0.out.load.2.2.2
      refine bodyPost_ret (by simp [results, Tryd.results21, go_sem, T0_0, T0_1, T0_2, T0_3]; rfl) rfl ?_
      exact ⟨_, rfl, G.out, by rw [He.out]; rfl⟩
    | ok t =>
      have He := Lib.hid (HE.out.trans hn)
      clear hn
      simp only [tokR, tokV, noTok]
      have T0_0 := T0.out.load.1
      have T0_f0 := T0.out.f0 0
      have T0_1 := T0.out.load.2.1
      have T0_f1 := T0.out.f0 1
      have T0_2 := T0.out.load.2.2.1
      have T0_f2 := T0.out.f0 2
      have T0_3 := T0.out.load.2.2.2
      have T0_f3 := T0.out.f0 3
      go_wp2_with fail
      clear T0_0 T0_f0 T0_1 T0_f1 T0_2 T0_f2 T0_3 T0_f3
      have hu := upd4 w3 b0 (.int .i64 t.kind) (.string ⟨t.text.toArray⟩) (.int .i64 t.num) (.int .i64 t.pos)
      have T0 := Lib.hid (T0.out.set (.int .i64 t.kind) (.string ⟨t.text.toArray⟩) (.int .i64 t.num) (.int .i64 t.pos))
      have G := Lib.hid (G.out.four Hb0.out (.int .i64 t.kind) (.string ⟨t.text.toArray⟩) (.int .i64 t.num) (.int .i64 t.pos))
      clear hu
      generalize (((w3.setCell _ _).setCell _ _).setCell _ _).setCell _ _ = W7 at G T0 ⊢
      have T0_0 := T0.out.load.1
      have T0_1 := T0.out.load.2.1
      have T0_2 := T0.out.load.2.2.1
      have T0_3 := T0.out.load.2.2.2
      refine bodyPost_ret (by simp [results, Tryd.results21, go_sem, T0_0, T0_1, T0_2, T0_3]; rfl) rfl ?_
      exact ⟨_, rfl, G.out, by rw [He.out]; rfl⟩
end Go.Proofs.YtakcolmgbahgiaaDoor

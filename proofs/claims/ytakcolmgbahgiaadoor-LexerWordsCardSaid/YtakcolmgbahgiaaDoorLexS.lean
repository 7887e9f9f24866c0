/-
  LexerCovers.
-/
import Derived.Test.YtakcolmgbahgiaaDoorLexR
namespace Go.Proofs.YtakcolmgbahgiaaDoor
open Go.RowKit Go.Lib Lex
set_option linter.unusedVariables false
set_option linter.unusedSimpArgs false

theorem cov_ne {p : Nat} {b : List UInt8} {l : List Tok} (h : Cov p b l) : l ≠ [] := by cases h <;> simp
theorem cov_step {p : Nat} {b : List UInt8} {x : Tok} {l : List Tok} (h : Cov p b (x :: l)) : ∃ a r, b = a ++ (x.text ++ r) ∧ x.pos = p + a.length ∧ skipL false a = a.length ∧
    ((x.kind = 0 ∧ x.text = [] ∧ l = [] ∧ r = []) ∨ (x.kind ≠ 0 ∧ x.text ≠ [] ∧ l ≠ [] ∧ Cov (p + a.length + x.text.length) r l)) := by
  cases h with
  | stop p a h => exact ⟨_, [], by simp, rfl, h, .inl ⟨rfl, rfl, rfl, rfl⟩⟩
  | tok p a x r l h hp y ht hy hk hn hl =>
    refine ⟨a, r, rfl, hp, skipL_some h, .inr ⟨by rw [← hk]; exact tokL_kind ht, fun e => ?_, cov_ne hl, hl⟩⟩
    have := (tokL_text ht).1
    rw [hy, e] at this
    simp at this
/-- the same in the words of the law -/
theorem cov_at {bs : List UInt8} {at' : Nat} {x : Tok} {l : List Tok} (ha : at' ≤ bs.length) (h : Cov at' (bs.drop at') (x :: l)) : ∃ e, x.pos + x.text.length = e ∧ at' ≤ x.pos ∧ e ≤ bs.length ∧ (bs.drop x.pos).take (e - x.pos) = x.text ∧
    at' + skipL false ((bs.take x.pos).drop at') = x.pos ∧ ((x.kind = 0 ∧ x.text = [] ∧ l = [] ∧ e = bs.length) ∨ (x.kind ≠ 0 ∧ x.text ≠ [] ∧ l ≠ [] ∧ Cov e (bs.drop e) l)) := by
  obtain ⟨a, r, hb, hp, hs, hc⟩ := cov_step h
  have hlen := congrArg List.length hb
  simp only [List.length_drop, List.length_append] at hlen
  have hd : bs.drop x.pos = x.text ++ r := by
    rw [hp, ← List.drop_drop, hb, List.drop_left]
  have hd2 : bs.drop (x.pos + x.text.length) = r := by rw [← List.drop_drop, hd, List.drop_left]
  have ht : (bs.take x.pos).drop at' = a := by
    rw [List.drop_take, hb, hp, show at' + a.length - at' = a.length by omega, List.take_left]
  refine ⟨_, rfl, by omega, by omega, ?_, ?_, ?_⟩
  · rw [hd, show x.pos + x.text.length - x.pos = x.text.length by omega, List.take_left]
  · rw [ht, hs]; omega
  · rcases hc with ⟨h1, h2, h3, h4⟩ | ⟨h1, h2, h3, h4⟩
    · refine .inl ⟨h1, h2, h3, ?_⟩
      rw [h2, h4] at hlen
      rw [h2]
      simp at hlen ⊢; omega
    · refine .inr ⟨h1, h2, h3, ?_⟩
      rw [hd2, hp]; exact h4


set_option maxRecDepth 100000 in
set_option maxHeartbeats 1600000 in
theorem law_LexerCovers (w : World) (ht : Tab w) (s : ByteArray) : Calls Tryd.prog 5 #[.string s] w (Ret w fun r _ => r = .bool true) := by
  obtain ⟨bs, rfl, hs⟩ := str_of s
  have HT := Lib.hid ht
  have G := Lib.hid (Gr.refl w)
  clear ht hs
  go_enter Tryd.func5, Tryd.ntmps5
  go_wp2_with fail
  refine (law_awake _ HT.out).mono ?_
  rintro _ w1 ⟨_, rfl, g1, rfl⟩
  have G := Lib.hid (G.out.trans g1)
  clear g1
  by_cases hbig : 20000 < bs.length
  · have hbig' : (20000 : Int) < (bs.length : Int) := by omega
    go_wp2_with fail
    go_ret
    exact ⟨_, rfl, G.out, rfl⟩
  · have hbig' : ¬ (20000 : Int) < (bs.length : Int) := by omega
    go_wp2_with fail
    refine (lex_Scan _ (HT.out.grow G.out) bs (by omega)).mono ?_
    rintro _ w2 ⟨r2, rfl, g2, h2⟩
    have G := Lib.hid (G.out.trans g2)
    clear g2
    have H2 := Lib.hid h2
    clear h2
    cases hsc : scanX bs with
    | error pe =>
      obtain ⟨p, e⟩ := pe
      have hne := scanX_err hsc
      have hne' : ¬ (e : Int) = 0 := by omega
      have h2 := H2.out
      unfold ScanRes at h2
      rw [hsc] at h2
      obtain rfl := h2
      clear H2 hsc
      go_wp2_with fail
      go_ret
      exact ⟨_, rfl, G.out, rfl⟩
    | ok l =>
      have HC := Lib.hid (scanX_cov hsc).1
      have HS := Lib.hid hsc
      have Hll := Lib.hid (scanX_len hsc)
      clear hsc
      have h2 := H2.out
      unfold ScanRes at h2
      rw [HS.out] at h2
      obtain ⟨v2, rfl, h2⟩ := h2
      have H2 := Lib.hid h2
      clear h2
      obtain ⟨n, hn⟩ : ∃ n, l.length = n := ⟨_, rfl⟩
      have HN := Lib.hid hn
      obtain ⟨p2, c2, rfl, hc1, hc2⟩ := SlV.parts H2.out
      have hnb : n ≤ 20000 := by rw [← hn]; exact Hll.out
      have hn0 : 0 < n := by rw [← hn]; exact List.length_pos_iff.2 (cov_ne HC.out)
      rw [hn] at hc1 H2 ⊢
      clear hn
      go_wp2_with fail
      go_loopw [6, 7] (fun av i w1 => ∃ j a : Nat, av = .int .i64 a ∧ i = .int .i64 j ∧ j ≤ n ∧ a ≤ bs.length ∧ (j < n → Cov a (bs.drop a) (l.drop j)) ∧ (j = n → a = bs.length) ∧ TokS w1 (.slice p2 n c2) l ∧ Gr w w1) (fun _ i _ => n - (RowKit.intOf i).toNat)
      case atStart => exact ⟨0, 0, rfl, rfl, Nat.zero_le _, Nat.zero_le _, fun _ => HC.out, fun h => by omega, H2.out, G.out⟩
      case round =>
        clear H2 G
        obtain ⟨j, a, rfl, rfl, hj, ha, hcv, hend, h2, hg⟩ := hrel
        have H2 := Lib.hid h2
        have G := Lib.hid hg
        have HCV := Lib.hid hcv
        have HEnd := Lib.hid hend
        clear h2 hg hcv hend
        by_cases hlt : j < n
        · have hlt' : (j : Int) < (n : Int) := by omega
          obtain ⟨b, o, x, rfl, hx, c0, c1, c2, c3⟩ := H2.out.at HN.out hlt
          have hcv := HCV.out hlt
          have hxl : l.drop j = x :: l.drop (j + 1) := by
            rw [List.drop_eq_getElem_cons (by rw [HN.out]; exact hlt)]
            rw [List.getElem?_eq_getElem (by rw [HN.out]; exact hlt)] at hx
            congr 1
            simpa using hx
          rw [hxl] at hcv
          obtain ⟨e, he, hap, heb, htx, hsk, hcase⟩ := cov_at ha hcv
          have HSK := Lib.hid hsk
          have HCase := Lib.hid hcase
          have hex := slice_str bs x.pos e x.text htx (by omega) heb
          obtain ⟨u, hu⟩ : ∃ u, bs.take x.pos = u := ⟨_, rfl⟩
          have hul : u.length = x.pos := by rw [← hu, List.length_take]; omega
          have hex2 := slice_str bs 0 x.pos u (by simpa using hu) (by omega) (by omega)
          rw [hu] at HSK
          have E1 : (x.pos : Int) + (x.text.length : Int) = (e : Int) := by omega
          have hap' : (a : Int) ≤ (x.pos : Int) := by omega
          have heb' : (e : Int) ≤ (bs.length : Int) := by omega
          clear hx hcv hxl htx hsk hcase hu
          go_wp2_with fail
          have B := box4 wr (.int .i64 (x.kind : Nat)) (.string ⟨x.text.toArray⟩) (.int .i64 (x.num : Nat)) (.int .i64 (x.pos : Nat)) 33
          generalize wr.heap.size = b8 at B ⊢
          generalize wr.alloc _ = w4 at B ⊢
          obtain ⟨g4, t8⟩ := B
          clear c0 c1 c2 c3
          have G := Lib.hid (G.out.trans g4)
          have H2 := Lib.hid (H2.out.grow g4)
          clear g4
          have T8 := Lib.hid t8
          clear t8
          rcases HCase.out with ⟨k1, k2, k3, k4⟩ | ⟨k1, k2, k3, k4⟩
          · rw [k1, k2] at T8
            rw [k2] at E1 hex
            have hwp : IntKind.i64.wrap (x.pos : Int) = (x.pos : Int) := by rw [IntKind.wrap_i64]; omega
            obtain rfl : x.pos = e := by simp at E1; omega
            have K3 := Lib.hid k3
            have K4 := Lib.hid k4
            have hjn : j + 1 = n := by
              have := congrArg List.length k3
              rw [List.length_drop, HN.out] at this
              simp at this; omega
            have hw2 : IntKind.i64.wrap ((n : Int) - 1) = (j : Int) := by rw [IntKind.wrap_i64]; omega
            clear k1 k2 k3 k4
            refine wp_region_fast [(0, true), (1, true), (2, true), (3, true), (4, true), (5, true), (6, true), (7, true), (8, true), (9, true), (10, true), (11, true), (12, true), (13, true), (14, true), (15, true), (16, true), (17, true), (18, true), (19, true), (20, true), (21, true), (22, true), (23, true), (24, true), (25, true), (26, true), (27, true), (28, true), (29, true), (30, true), (31, true), (32, true), (33, true), (34, true), (35, true), (36, true), (37, true), (38, true), (39, true), (40, true), (41, true), (42, true), (43, true), (44, true), (45, true), (46, true), (48, true), (49, true), (47, false), (50, true), (51, true), (52, true), (53, true), (54, true), (55, true), (56, true), (57, true), (58, true), (59, true), (60, true), (61, true), (62, true), (63, true), (64, true), (65, true), (66, true), (67, true), (68, true), (69, true), (70, true), (71, true)] (by kernel_rfl) (by kernel_rfl) rfl (by kernel_rfl) (fun _ _ d _ _ h => by cases d <;> exact h) ?_
            have T8_0 := T8.out.c0
            have T8_1 := T8.out.c1
            have T8_2 := T8.out.c2
            have T8_3 := T8.out.c3
            have g0 : Gr w4 w4.drew := (Gr.refl _).drew
            have G := Lib.hid (G.out.trans g0)
            have T8 := Lib.hid (T8.out.grow g0)
            have H2 := Lib.hid (H2.out.grow g0)
            have n1 : ¬ (x.pos : Int) < (a : Int) := by omega
            have n2 : ¬ (bs.length : Int) < (x.pos : Int) := by omega
            have n3 : ¬ (x.pos : Int) < (x.pos : Int) := by omega
            repeat (refine wpE_readB (v := ?_) g0 rfl rfl (fun w' hg => ?_) (fun K hK => ?_); rotate_left; (go_simp; rfl); go_simp; refine hK _ _ ?_; clear hK K)
            refine wpE_fn (args := ?_) rfl rfl rfl rfl rfl rfl (by kernel_rfl) (by kernel_rfl) ?_ (fun K hK => ?_)
            rotate_left
            · go_simp; rfl
            refine (ref_Skip _ u a x.pos (by omega) HSK.out (by omega)).mono ?_
            rintro _ w5 ⟨_, rfl, g5, rfl⟩
            refine ⟨_, rfl, g5, ?_⟩
            go_simp
            refine hK _ _ ?_
            clear hK K
            have G := Lib.hid (G.out.trans g5)
            have T8 := Lib.hid (T8.out.grow g5)
            have H2 := Lib.hid (H2.out.grow g5)
            replace g0 := g0.trans g5
            clear g5
            repeat (refine wpE_readB (v := ?_) g0 rfl rfl (fun w' hg => ?_) (fun K hK => ?_); rotate_left; (go_simp; rfl); go_simp; refine hK _ _ ?_; clear hK K)
            refine wpE_nil ?_
            clear g0
            clear T8_0 T8_1 T8_2 T8_3
            have T8_0 := T8.out.load.1
            have T8_1 := T8.out.load.2.1
            have T8_2 := T8.out.load.2.2.1
            have T8_3 := T8.out.load.2.2.2
            go_wp2_with fail
            refine ⟨⟨j + 1, x.pos, rfl, by go_num, by omega, by omega, fun h => by omega, fun _ => K4.out, H2.out, G.out⟩, by simp [RowKit.intOf]; omega⟩
          · have K4 := Lib.hid k4
            have hjn : j + 1 < n := by
              have := List.length_pos_iff.2 k3
              rw [List.length_drop, HN.out] at this
              omega
            have k1' : ¬ (x.kind : Int) = 0 := by omega
            have k1b : ((x.kind : Int) == 0) = false := by simpa using k1
            have k2b : (x.text == []) = false := by simpa using k2
            have hw2 : IntKind.i64.wrap ((n : Int) - 1) = (n : Int) - 1 := by rw [IntKind.wrap_i64]; omega
            have hj2 : ¬ (j : Int) = (n : Int) - 1 := by omega
            have hj3 : ((j : Int) == (n : Int) - 1) = false := by simpa using hj2
            have hwe : IntKind.i64.wrap (e : Int) = (e : Int) := by rw [IntKind.wrap_i64]; omega
            have hpe : x.pos ≤ e := by omega
            have hpl : x.pos ≤ bs.length := by omega
            clear k3 k4
            refine wp_region_fast [(0, true), (1, true), (2, true), (3, true), (4, true), (5, true), (6, true), (7, true), (8, true), (9, true), (10, true), (11, true), (12, true), (13, true), (14, true), (15, true), (16, true), (17, true), (18, true), (19, true), (20, true), (21, true), (22, true), (23, true), (24, true), (25, true), (26, true), (27, true), (28, true), (29, true), (30, true), (31, true), (32, true), (33, true), (34, true), (35, true), (36, true), (37, true), (38, true), (39, true), (40, true), (41, true), (42, true), (43, true), (44, true), (45, true), (46, true), (48, true), (49, true), (47, false), (50, true), (51, true), (52, true), (53, true), (54, true), (55, true), (56, true), (57, true), (58, true), (59, true), (60, true), (61, true), (62, true), (63, true), (64, true), (65, true), (66, true), (67, true), (68, true), (69, true), (70, true), (71, true)] (by kernel_rfl) (by kernel_rfl) rfl (by kernel_rfl) (fun _ _ d _ _ h => by cases d <;> exact h) ?_
            have T8_0 := T8.out.c0
            have T8_1 := T8.out.c1
            have T8_2 := T8.out.c2
            have T8_3 := T8.out.c3
            have g0 : Gr w4 w4.drew := (Gr.refl _).drew
            have G := Lib.hid (G.out.trans g0)
            have T8 := Lib.hid (T8.out.grow g0)
            have H2 := Lib.hid (H2.out.grow g0)
            have n1 : ¬ (x.pos : Int) < (a : Int) := by omega
            have n2 : ¬ (bs.length : Int) < (e : Int) := by omega
            have n3 : ¬ (e : Int) < (x.pos : Int) := by omega
            repeat (refine wpE_readB (v := ?_) g0 rfl rfl (fun w' hg => ?_) (fun K hK => ?_); rotate_left; (go_simp; rfl); go_simp; refine hK _ _ ?_; clear hK K)
            refine wpE_fn (args := ?_) rfl rfl rfl rfl rfl rfl (by kernel_rfl) (by kernel_rfl) ?_ (fun K hK => ?_)
            rotate_left
            · go_simp; rfl
            refine (ref_Skip _ u a x.pos (by omega) HSK.out (by omega)).mono ?_
            rintro _ w5 ⟨_, rfl, g5, rfl⟩
            refine ⟨_, rfl, g5, ?_⟩
            go_simp
            refine hK _ _ ?_
            clear hK K
            have G := Lib.hid (G.out.trans g5)
            have T8 := Lib.hid (T8.out.grow g5)
            have H2 := Lib.hid (H2.out.grow g5)
            replace g0 := g0.trans g5
            clear g5
            repeat (refine wpE_readB (v := ?_) g0 rfl rfl (fun w' hg => ?_) (fun K hK => ?_); rotate_left; (go_simp; rfl); go_simp; refine hK _ _ ?_; clear hK K)
            refine wpE_nil ?_
            clear g0
            clear T8_0 T8_1 T8_2 T8_3
            have T8_0 := T8.out.load.1
            have T8_1 := T8.out.load.2.1
            have T8_2 := T8.out.load.2.2.1
            have T8_3 := T8.out.load.2.2.2
            go_wp2_with fail
            refine ⟨⟨j + 1, e, rfl, by go_num, by omega, by omega, fun h => K4.out, fun h => by omega, H2.out, G.out⟩, by simp [RowKit.intOf]; omega⟩
        · obtain rfl : n = j := by omega
          have hae := HEnd.out rfl
          go_wp2_with fail
          go_ret
          exact ⟨_, rfl, G.out, by simp [hae]⟩
end Go.Proofs.YtakcolmgbahgiaaDoor

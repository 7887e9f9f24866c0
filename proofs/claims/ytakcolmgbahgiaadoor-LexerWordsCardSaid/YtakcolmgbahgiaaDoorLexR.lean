/-
  LexerAgain.
-/
import Derived.Test.YtakcolmgbahgiaaDoorLexQ
namespace Go.Proofs.YtakcolmgbahgiaaDoor
open Go.RowKit Go.Lib Lex
set_option linter.unusedVariables false
set_option linter.unusedSimpArgs false

theorem scanX_cov {bs : List UInt8} {l : List Tok} (h : scanX bs = .ok l) : Cov 0 bs l ∧ bs.length ≤ 16384 := by
  unfold scanX at h
  split at h
  · cases h
  · exact ⟨scanF_cov _ _ _ _ (by omega) h, by omega⟩
theorem cov_scanX {bs : List UInt8} {l : List Tok} (h : Cov 0 bs l) (hl : bs.length ≤ 16384) : scanX bs = .ok l := by
  unfold scanX
  rw [if_neg (by omega)]
  exact cov_scanF h _ (by omega)
theorem alike_at {l k : List Tok} (h : Lex.Alike l k) : l.length = k.length ∧ ∀ (i : Nat) (x y : Tok), l[i]? = some x → k[i]? = some y → y.kind = x.kind ∧ y.text = x.text ∧ y.num = x.num := by
  induction h with
  | nil => exact ⟨rfl, fun i x y h => by simp at h⟩
  | cons h1 h2 h3 h ih =>
    refine ⟨by simp [ih.1], fun i x y hx hy => ?_⟩
    cases i with
    | zero => simp at hx hy; subst hx hy; exact ⟨h1.symm, h2.symm, h3.symm⟩
    | succ i => exact ih.2 i x y (by simpa using hx) (by simpa using hy)


set_option maxRecDepth 100000 in
set_option maxHeartbeats 1600000 in
theorem law_LexerAgain (w : World) (ht : Tab w) (s : ByteArray) : Calls Tryd.prog 6 #[.string s] w (Ret w fun r _ => r = .bool true) := by
  obtain ⟨bs, rfl, hs⟩ := str_of s
  have HT := Lib.hid ht
  have G := Lib.hid (Gr.refl w)
  clear ht hs
  go_enter Tryd.func6, Tryd.ntmps6
  go_wp2_with fail
  refine (law_awake _ HT.out).mono ?_
  rintro _ w1 ⟨_, rfl, g1, rfl⟩
  have G := Lib.hid (G.out.trans g1)
  clear g1
  by_cases hbig : 5000 < bs.length
  · have hbig' : (5000 : Int) < (bs.length : Int) := by omega
    go_wp2_with fail
    go_ret
    exact ⟨_, rfl, G.out, rfl⟩
  · have hbig' : ¬ (5000 : Int) < (bs.length : Int) := by omega
    go_wp2_with fail
    refine (lex_Scan _ (HT.out.grow G.out) bs (by omega)).mono ?_
    rintro _ w2 ⟨r2, rfl, g2, h2⟩
    have G := Lib.hid (G.out.trans g2)
    clear g2
    have H2 := Lib.hid h2
    clear h2
    cases hsc : scanX bs with
    | error pe =>
      obtain ⟨p, e⟩ := pe
      have hne := scanX_err hsc
      have hne' : ¬ (e : Int) = 0 := by omega
      have h2 := H2.out
      unfold ScanRes at h2
      rw [hsc] at h2
      obtain rfl := h2
      clear H2 hsc
      go_wp2_with fail
      go_ret
      exact ⟨_, rfl, G.out, rfl⟩
    | ok l =>
      have HC := Lib.hid (scanX_cov hsc).1
      have HS := Lib.hid hsc
      have Hll := Lib.hid (scanX_len hsc)
      clear hsc
      have h2 := H2.out
      unfold ScanRes at h2
      rw [HS.out] at h2
      obtain ⟨v2, rfl, h2⟩ := h2
      have H2 := Lib.hid h2
      clear h2
      obtain ⟨k, hc, ha⟩ := HC.out.again true 0
      have hfl := fmt_len HC.out true
      obtain ⟨F, hF⟩ : ∃ F, fmtL true l = F := ⟨_, rfl⟩
      rw [hF] at hc hfl
      have HS2 := Lib.hid (cov_scanX hc (by omega))
      have HA := Lib.hid (alike_at ha)
      have HF := Lib.hid hF
      clear hc ha hF
      go_wp2_with fail
      have hfm := lex_Format _ v2 l H2.out (by have := Hll.out; omega) (by rw [HF.out]; omega)
      rw [HF.out] at hfm
      refine (hfm).mono ?_
      rintro _ w3 ⟨_, rfl, g3, rfl⟩
      have G := Lib.hid (G.out.trans g3)
      have H2 := Lib.hid (H2.out.grow g3)
      clear g3
      clear hfm
      go_wp2_with fail
      refine (lex_Scan _ (HT.out.grow G.out) F (by omega)).mono ?_
      rintro _ w4 ⟨r4, rfl, g4, h4⟩
      have G := Lib.hid (G.out.trans g4)
      have H2 := Lib.hid (H2.out.grow g4)
      clear g4
      have H4 := Lib.hid h4
      clear h4
      have h4 := H4.out
      unfold ScanRes at h4
      rw [HS2.out] at h4
      obtain ⟨v4, rfl, h4⟩ := h4
      have H4 := Lib.hid h4
      clear h4
      obtain ⟨n, hn⟩ : ∃ n, l.length = n := ⟨_, rfl⟩
      have hn2 : k.length = n := by rw [← HA.out.1, hn]
      have HN := Lib.hid hn
      have HN2 := Lib.hid hn2
      obtain ⟨p2, c2, rfl, hc1, hc2⟩ := SlV.parts H2.out
      obtain ⟨p4, c4, rfl, hc3, hc4⟩ := SlV.parts H4.out
      have hnb : n ≤ 20000 := by rw [← hn]; exact Hll.out
      rw [hn] at hc1 H2 ⊢
      rw [hn2] at hc3 H4 ⊢
      clear hn hn2
      go_wp2_with fail
      go_loopw [9] (fun i w1 => ∃ j : Nat, i = .int .i64 j ∧ j ≤ n ∧ TokS w1 (.slice p2 n c2) l ∧ TokS w1 (.slice p4 n c4) k ∧ Gr w w1) (fun i _ => n - (RowKit.intOf i).toNat)
      case atStart => exact ⟨0, rfl, Nat.zero_le _, H2.out, H4.out, G.out⟩
      case round =>
        clear H2 H4 G
        obtain ⟨j, rfl, hj, h2, h4, hg⟩ := hrel
        have H2 := Lib.hid h2
        have H4 := Lib.hid h4
        have G := Lib.hid hg
        clear h2 h4 hg
        by_cases hlt : j < n
        · have hlt' : (j : Int) < (n : Int) := by omega
          obtain ⟨b, o, x, rfl, hx, c0, c1, c2, c3⟩ := H2.out.at HN.out hlt
          obtain ⟨b', o', y, rfl, hy, d0, d1, d2, d3⟩ := H4.out.at HN2.out hlt
          obtain ⟨e1, e2, e3⟩ := HA.out.2 j x y hx hy
          rw [e1] at d0
          rw [e2] at d1
          rw [e3] at d2
          have c0 := fun w' (g : Gr wr w') => g.cell c0
          have c1 := fun w' (g : Gr wr w') => g.cell c1
          have c2 := fun w' (g : Gr wr w') => g.cell c2
          have d0 := fun w' (g : Gr wr w') => g.cell d0
          have d1 := fun w' (g : Gr wr w') => g.cell d1
          have d2 := fun w' (g : Gr wr w') => g.cell d2
          clear hx hy e1 e2 e3
          go_wp2_with fail
          refine wp_region_fast [(0, true), (1, true), (2, true), (3, true), (4, true), (5, true), (6, true), (7, true), (8, true), (9, true), (10, true), (11, true), (12, true), (13, true), (14, true), (15, true), (16, true), (17, true), (18, true), (19, true), (20, true), (21, true), (22, true), (23, true), (24, true), (25, true), (26, true), (27, true), (28, true), (29, true), (30, true), (31, true), (32, true), (33, true), (34, true), (35, true), (36, true)] (by kernel_rfl) (by kernel_rfl) rfl (by kernel_rfl) (fun _ _ d _ _ h => by cases d <;> exact h) ?_
          have g0 : Gr wr wr.drew := (Gr.refl _).drew
          have G := Lib.hid (G.out.trans g0)
          have H2 := Lib.hid (H2.out.grow g0)
          have H4 := Lib.hid (H4.out.grow g0)
          repeat (refine wpE_readB (v := ?_) g0 rfl rfl (fun w' hg => ?_) (fun K hK => ?_); rotate_left; (go_simp; rfl); go_simp; refine hK _ _ ?_; clear hK K)
          refine wpE_nil ?_
          go_wp2_with fail
          refine ⟨⟨j + 1, by go_num, by omega, H2.out, H4.out, G.out⟩, by simp [RowKit.intOf]; omega⟩
        · obtain rfl : n = j := by omega
          go_wp2_with fail
          go_ret
          exact ⟨_, rfl, G.out, rfl⟩
end Go.Proofs.YtakcolmgbahgiaaDoor

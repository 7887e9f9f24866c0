/-
  exoduslaw16.awake; LexerScans, LexerLines.
-/
import Derived.Test.YtakcolmgbahgiaaDoorLexP
namespace Go.Proofs.YtakcolmgbahgiaaDoor
open Go.RowKit Go.Lib Lex
set_option linter.unusedVariables false
set_option linter.unusedSimpArgs false

def ex1 : List UInt8 := [115, 105, 116, 101, 32, 97, 59, 32, 35, 32, 120]
def ex1T : List Tok := [⟨2, [115, 105, 116, 101], 0, 0⟩, ⟨1, [97], 0, 5⟩, ⟨4, [59], 0, 6⟩, ⟨0, [], 0, 11⟩]
theorem scan_ex1 : scanX ex1 = .ok ex1T := by kernel_rfl
theorem scan_ex2 : scanX [48, 55] = .error (0, 3) := by kernel_rfl
theorem fmt_ex1 : fmtL true ex1T = [115, 105, 116, 101, 32, 97, 59] := by kernel_rfl
theorem TokS.new4 (w : World) (l : List Tok) (vs : Array Value) (n : Nat) (h : vs.toList = rowT l) (hn : l.length = n) (hl : n ≤ 1000000000) : Gr w (w.alloc (.cells vs 33)) ∧ TokS (w.alloc (.cells vs 33)) (.slice (some ⟨w.heap.size, 0, none⟩) n n) l := by
  refine ⟨(Gr.refl w).alloc _, ?_⟩
  have := SlV.new w 4 n vs 33 (by rw [← hn, ← rowT_len, ← h]; simp) hl
  unfold TokS
  rw [hn, ← h]; exact this

theorem scan_len : ∀ (f p : Nat) (bs : List UInt8) (l : List Tok), scanF f p bs = .ok l → l.length ≤ f + 1
  | 0, p, bs, l, h => by simp [scanF] at h; subst h; simp
  | f + 1, p, bs, l, h => by
    unfold scanF at h
    split at h
    · cases h; simp
    · split at h
      · cases h
      · split at h
        · cases h
        · rename_i l' hl
          have := scan_len f _ _ _ hl
          cases h; simp; omega
theorem scanF_err : ∀ (f p : Nat) (bs : List UInt8) (q e : Nat), scanF f p bs = .error (q, e) → e ≠ 0
  | 0, p, bs, q, e, h => by simp [scanF] at h
  | f + 1, p, bs, q, e, h => by
    unfold scanF at h
    split at h
    · cases h
    · split at h
      · rename_i e' he
        cases h
        have := tokL_err he; omega
      · split at h
        · rename_i x hx
          cases h
          exact scanF_err f _ _ q e hx
        · cases h
theorem scanX_err {bs : List UInt8} {q e : Nat} (h : scanX bs = .error (q, e)) : e ≠ 0 := by
  unfold scanX at h
  split at h
  · cases h; decide
  · exact scanF_err _ _ _ _ _ h
theorem scanX_len {bs : List UInt8} {l : List Tok} (h : scanX bs = .ok l) : l.length ≤ 20000 := by
  unfold scanX at h
  split at h
  · cases h
  · have := scan_len _ _ _ _ h
    omega
set_option maxRecDepth 100000 in
set_option maxHeartbeats 1600000 in
theorem law_awake (w : World) (ht : Tab w) : Calls Tryd.prog 9 #[] w (Ret w fun r _ => r = .bool true) := by
  have HT := Lib.hid ht
  have G := Lib.hid (Gr.refl w)
  clear ht
  go_enter Tryd.func9, Tryd.ntmps9
  go_wp2_with fail
  refine (lex_Scan _ HT.out ex1 (by decide)).mono ?_
  rintro _ w1 ⟨r1, rfl, g1, h1⟩
  have G := Lib.hid (G.out.trans g1)
  clear g1
  have H1 := Lib.hid h1
  clear h1
  have h1 := H1.out
  unfold ScanRes at h1
  rw [scan_ex1] at h1
  obtain ⟨v1, rfl, h1⟩ := h1
  have H1 := Lib.hid h1
  clear h1
  go_wp2_with fail
  refine (lex_Scan _ (HT.out.grow G.out) [48, 55] (by decide)).mono ?_
  rintro _ w2 ⟨r2, rfl, g2, h2⟩
  have G := Lib.hid (G.out.trans g2)
  have H1 := Lib.hid (H1.out.grow g2)
  clear g2
  have H2 := Lib.hid h2
  clear h2
  have h2 := H2.out
  unfold ScanRes at h2
  rw [scan_ex2] at h2
  obtain rfl := h2
  clear H2
  go_wp2_with fail
  refine (lex_Line _ [97, 10, 98, 99] 3 3 (by decide) (by decide)).mono ?_
  rintro _ w3 ⟨_, rfl, g3, rfl⟩
  have G := Lib.hid (G.out.trans g3)
  have H1 := Lib.hid (H1.out.grow g3)
  clear g3
  rw [show lineV ([97, 10, 98, 99].take 3) = .tuple #[.int .i64 2, .int .i64 2] from rfl]
  go_wp2_with fail
  have B := TokS.new4 w3 ex1T #[.int .i64 2, .string ⟨#[115, 105, 116, 101]⟩, .int .i64 0, .int .i64 0, .int .i64 1, .string ⟨#[97]⟩, .int .i64 0, .int .i64 5, .int .i64 4, .string ⟨#[59]⟩, .int .i64 0, .int .i64 6, .int .i64 0, .string ⟨#[]⟩, .int .i64 0, .int .i64 11] 4 rfl rfl (by decide)
  generalize Value.slice (some ⟨w3.heap.size, 0, none⟩) 4 4 = v4 at B ⊢
  generalize w3.alloc _ = w4 at B ⊢
  obtain ⟨g4, h4⟩ := B
  have G := Lib.hid (G.out.trans g4)
  have H1 := Lib.hid (H1.out.grow g4)
  clear g4
  have H4 := Lib.hid h4
  clear h4
  refine (ref_Same _ v1 v4 ex1T ex1T H1.out H4.out (by decide) (by decide)).mono ?_
  rintro _ w5 ⟨r5, rfl, g5, h5⟩
  have G := Lib.hid (G.out.trans g5)
  have H1 := Lib.hid (H1.out.grow g5)
  clear g5
  have H5 := Lib.hid h5
  clear h5
  obtain ⟨t, rfl, ht⟩ := H5.out
  obtain rfl : t = true := ht.2 rfl
  clear H4 H5 ht
  go_wp2_with fail
  refine (lex_Format _ v1 ex1T H1.out (by decide) (by decide)).mono ?_
  rintro _ w6 ⟨_, rfl, g6, rfl⟩
  have G := Lib.hid (G.out.trans g6)
  clear g6
  rw [fmt_ex1]
  go_wp2_with fail
  go_ret
  exact ⟨_, rfl, G.out, rfl⟩

theorem str_of (s : ByteArray) : ∃ bs : List UInt8, s = ⟨bs.toArray⟩ ∧ bs.length = s.size := ⟨s.data.toList, by rw [Array.toArray_toList], Array.length_toList⟩

set_option maxRecDepth 100000 in
set_option maxHeartbeats 1600000 in
theorem law_LexerScans (w : World) (ht : Tab w) (s : ByteArray) : Calls Tryd.prog 3 #[.string s] w (Ret w fun r _ => r = .bool true) := by
  obtain ⟨bs, rfl, hs⟩ := str_of s
  have HT := Lib.hid ht
  have G := Lib.hid (Gr.refl w)
  clear ht hs
  go_enter Tryd.func3, Tryd.ntmps3
  go_wp2_with fail
  refine (law_awake _ HT.out).mono ?_
  rintro _ w1 ⟨_, rfl, g1, rfl⟩
  have G := Lib.hid (G.out.trans g1)
  clear g1
  by_cases hbig : 20000 < bs.length
  · have hbig' : (20000 : Int) < (bs.length : Int) := by omega
    go_wp2_with fail
    go_ret
    exact ⟨_, rfl, G.out, rfl⟩
  · have hbig' : ¬ (20000 : Int) < (bs.length : Int) := by omega
    go_wp2_with fail
    refine (lex_Scan _ (HT.out.grow G.out) bs (by omega)).mono ?_
    rintro _ w2 ⟨r2, rfl, g2, h2⟩
    have G := Lib.hid (G.out.trans g2)
    clear g2
    have H2 := Lib.hid h2
    clear h2
    cases hsc : scanX bs with
    | error pe =>
      obtain ⟨p, e⟩ := pe
      have HS := Lib.hid hsc
      have h2 := H2.out
      unfold ScanRes at h2
      rw [hsc] at h2
      obtain rfl := h2
      clear H2 hsc
      go_wp2_with fail
      refine (ref_Scan _ bs (by omega)).mono ?_
      rintro _ w3 ⟨r3, rfl, g3, h3⟩
      have G := Lib.hid (G.out.trans g3)
      clear g3
      have H3 := Lib.hid h3
      clear h3
      have h3 := H3.out
      unfold ScanRes at h3
      rw [HS.out] at h3
      obtain rfl := h3
      clear H3
      go_wp2_with fail
      refine (ref_Same _ _ _ [] [] (SlV.nil _ 4) (SlV.nil _ 4) (by decide) (by decide)).mono ?_
      rintro _ w4 ⟨r4, rfl, g4, h4⟩
      have G := Lib.hid (G.out.trans g4)
      clear g4
      have H4 := Lib.hid h4
      clear h4
      obtain ⟨t, rfl, ht⟩ := H4.out
      obtain rfl : t = true := ht.2 rfl
      clear H4 ht
      go_wp2_with fail
      go_ret
      exact ⟨_, rfl, G.out, rfl⟩
    | ok l =>
      have HS := Lib.hid hsc
      have h2 := H2.out
      unfold ScanRes at h2
      rw [hsc] at h2
      obtain ⟨v2, rfl, h2⟩ := h2
      have H2 := Lib.hid h2
      clear h2 hsc
      have Hll := Lib.hid (scanX_len HS.out)
      go_wp2_with fail
      refine (ref_Scan _ bs (by omega)).mono ?_
      rintro _ w3 ⟨r3, rfl, g3, h3⟩
      have G := Lib.hid (G.out.trans g3)
      have H2 := Lib.hid (H2.out.grow g3)
      clear g3
      have H3 := Lib.hid h3
      clear h3
      have h3 := H3.out
      unfold ScanRes at h3
      rw [HS.out] at h3
      obtain ⟨v3, rfl, h3⟩ := h3
      have H3 := Lib.hid h3
      clear h3
      go_wp2_with fail
      refine (ref_Same _ _ _ l l H2.out H3.out (by have := Hll.out; omega) (by have := Hll.out; omega)).mono ?_
      rintro _ w4 ⟨r4, rfl, g4, h4⟩
      have G := Lib.hid (G.out.trans g4)
      clear g4
      have H4 := Lib.hid h4
      clear h4
      obtain ⟨t, rfl, ht⟩ := H4.out
      obtain rfl : t = true := ht.2 rfl
      clear H4 ht
      go_wp2_with fail
      go_ret
      exact ⟨_, rfl, G.out, rfl⟩

set_option maxRecDepth 100000 in
set_option maxHeartbeats 1600000 in
theorem law_LexerLines (w : World) (ht : Tab w) (s : ByteArray) (off : Int) : Calls Tryd.prog 4 #[.string s, .int .i64 off] w (Ret w fun r _ => r = .bool true) := by
  obtain ⟨bs, rfl, hs⟩ := str_of s
  have HT := Lib.hid ht
  have G := Lib.hid (Gr.refl w)
  clear ht hs
  go_enter Tryd.func4, Tryd.ntmps4
  go_wp2_with fail
  refine (law_awake _ HT.out).mono ?_
  rintro _ w1 ⟨_, rfl, g1, rfl⟩
  have G := Lib.hid (G.out.trans g1)
  clear g1
  by_cases hbig : 20000 < bs.length
  · have hbig' : (20000 : Int) < (bs.length : Int) := by omega
    go_wp2_with fail
    go_ret
    exact ⟨_, rfl, G.out, rfl⟩
  · have hbig' : ¬ (20000 : Int) < (bs.length : Int) := by omega
    obtain ⟨m, hm⟩ : ∃ m : Nat, min (max off 0) (bs.length : Int) = (m : Int) := ⟨(min (max off 0) (bs.length : Int)).toNat, by omega⟩
    have Hm := Lib.hid hm
    clear hm
    go_wp2_with fail
    refine (lex_Line _ bs off m Hm.out (by omega)).mono ?_
    rintro _ w2 ⟨_, rfl, g2, rfl⟩
    have G := Lib.hid (G.out.trans g2)
    clear g2
    generalize hlv : lineV (bs.take m) = lv
    unfold lineV at hlv
    obtain rfl := hlv
    go_wp2_with fail
    refine (ref_Line _ bs off m Hm.out (by omega)).mono ?_
    rintro _ w3 ⟨_, rfl, g3, rfl⟩
    have G := Lib.hid (G.out.trans g3)
    clear g3
    unfold lineV
    go_wp2_with fail
    go_ret
    exact ⟨_, rfl, G.out, rfl⟩
end Go.Proofs.YtakcolmgbahgiaaDoor

/-
  lexer.word.
-/
import Derived.Test.YtakcolmgbahgiaaDoorLexF
namespace Go.Proofs.YtakcolmgbahgiaaDoor
open Go.RowKit Go.Lib Lex
set_option linter.unusedVariables false
set_option linter.unusedSimpArgs false

/-- a token as a value -/
def tokV (t : Tok) : Value := .agg #[.int .i64 (t.kind : Nat), .string ⟨t.text.toArray⟩, .int .i64 (t.num : Nat), .int .i64 (t.pos : Nat)]
def noTok : Tok := ⟨0, [], 0, 0⟩
/-- a token, or an error's number, as the functions return it -/
def tokR : Except Nat Tok → Value
  | .ok t => .tuple #[tokV t, .int .i64 0]
  | .error e => .tuple #[tokV noTok, .int .i64 (e : Nat)]
def wordR (bs : List UInt8) : Except Nat Tok := if 31 < (bs.takeWhile isWd).length then .error 8 else .ok ⟨if keywords.contains (bs.takeWhile isWd) then 2 else 1, bs.takeWhile isWd, 0, 0⟩

theorem isWd_any : (fun c => [inR 97 122, inR 48 57, inS [95]].any fun p => p c) = isWd := by
  funext c
  simp [isWd, isLo, isDi, inR, inS, List.contains_cons, Bool.or_assoc]
  rfl

theorem Cls.shape {w : World} {v : Value} {p : UInt8 → Bool} (h : Cls w v p) : ∃ f k, v = .func (.func f) #[] k := by
  obtain ⟨f, k, h, -, -⟩ := h; exact ⟨f, k, h⟩

theorem cell_new (w : World) (vs : Array Value) (t : TypeId) (j : Nat) (v : Value) (h : vs[j]? = some v) : ∀ w', Gr (w.alloc (.cells vs t)) w' → w'.cell? ⟨w.heap.size, j, none⟩ = some v := fun w' g => by
  refine g.cell ?_
  unfold World.cell?
  rw [show (⟨w.heap.size, j, none⟩ : Addr).block = w.heap.size from rfl, heap_alloc_new]
  exact h
theorem row3 (w : World) (v1 v2 v3 : Value) (p1 p2 p3 : UInt8 → Bool) (t : TypeId) (h1 : Cls w v1 p1) (h2 : Cls w v2 p2) (h3 : Cls w v3 p3) :
    Gr w (w.alloc (.cells #[v1, v2, v3] t)) ∧ ClsRow (w.alloc (.cells #[v1, v2, v3] t)) w.heap.size [p1, p2, p3] := by
  have g : Gr w (w.alloc (.cells #[v1, v2, v3] t)) := (Gr.refl w).alloc _
  refine ⟨g, fun i hi => ?_⟩
  match i, hi with
  | 0, _ => exact ⟨v1, cell_new w _ t 0 v1 rfl, h1.grow g⟩
  | 1, _ => exact ⟨v2, cell_new w _ t 1 v2 rfl, h2.grow g⟩
  | 2, _ => exact ⟨v3, cell_new w _ t 2 v3 rfl, h3.grow g⟩
theorem row2 (w : World) (v1 v2 : Value) (p1 p2 : UInt8 → Bool) (t : TypeId) (h1 : Cls w v1 p1) (h2 : Cls w v2 p2) :
    Gr w (w.alloc (.cells #[v1, v2] t)) ∧ ClsRow (w.alloc (.cells #[v1, v2] t)) w.heap.size [p1, p2] := by
  have g : Gr w (w.alloc (.cells #[v1, v2] t)) := (Gr.refl w).alloc _
  refine ⟨g, fun i hi => ?_⟩
  match i, hi with
  | 0, _ => exact ⟨v1, cell_new w _ t 0 v1 rfl, h1.grow g⟩
  | 1, _ => exact ⟨v2, cell_new w _ t 1 v2 rfl, h2.grow g⟩

theorem contains_kw (t : List UInt8) : Lib.containsS kws ⟨t.toArray⟩ = keywords.contains t := by
  rw [Bool.eq_iff_iff, Lib.containsS_iff, List.contains_iff_mem]
  unfold kws
  rw [List.mem_map]
  constructor
  · rintro ⟨a, ha, he⟩
    have : a = t := by
      have h := congrArg (fun b : ByteArray => b.data.toList) he
      simpa using h
    exact this ▸ ha
  · exact fun h => ⟨t, h, rfl⟩

set_option maxRecDepth 100000 in
set_option maxHeartbeats 1600000 in
theorem lex_word (w : World) (ht : Tab w) (bs : List UInt8) (hl : bs.length ≤ 1000000000) :
    Calls Tryd.prog 35 #[.string ⟨bs.toArray⟩] w (Ret w fun r _ => r = tokR (wordR bs)) := by
  have HT := Lib.hid ht
  clear ht
  have B := box4 w (.int .i64 0) (.string ⟨#[]⟩) (.int .i64 0) (.int .i64 0) 33
  go_enter Tryd.func35, Tryd.ntmps35
  go_wp2_with fail
  generalize w.alloc _ = W at B ⊢
  obtain ⟨G0, t0⟩ := B
  generalize hb0 : w.heap.size = b0 at t0  ⊢
  have Hb0 := Lib.hid (show ¬ b0 < w.heap.size by omega)
  have G := Lib.hid G0
  have T0 := Lib.hid t0
  clear hb0 G0 t0
  have HT := Lib.hid (HT.out.grow G.out)
  refine (lex_from _ 97 122).mono ?_
  rintro _ w1 ⟨r1, rfl, g1, h1⟩
  have G := Lib.hid (G.out.trans g1)
  have T0 := Lib.hid (T0.out.grow g1)
  have HT := Lib.hid (HT.out.grow g1)
  clear g1
  have H1 := Lib.hid h1
  clear h1
  go_wp2_with fail
  refine (lex_from _ 48 57).mono ?_
  rintro _ w2 ⟨r2, rfl, g2, h2⟩
  have G := Lib.hid (G.out.trans g2)
  have T0 := Lib.hid (T0.out.grow g2)
  have HT := Lib.hid (HT.out.grow g2)
  have H1 := Lib.hid (H1.out.grow g2)
  clear g2
  have H2 := Lib.hid h2
  clear h2
  go_wp2_with fail
  refine (lex_among _ [95]).mono ?_
  rintro _ w3 ⟨r3, rfl, g3, h3⟩
  have G := Lib.hid (G.out.trans g3)
  have T0 := Lib.hid (T0.out.grow g3)
  have HT := Lib.hid (HT.out.grow g3)
  have H1 := Lib.hid (H1.out.grow g3)
  have H2 := Lib.hid (H2.out.grow g3)
  clear g3
  have H3 := Lib.hid h3
  clear h3
  obtain ⟨f1, k1, rfl⟩ := H1.out.shape
  obtain ⟨f2, k2, rfl⟩ := H2.out.shape
  obtain ⟨f3, k3, rfl⟩ := H3.out.shape
  go_wp2_with fail
  have B := row3 w3 _ _ _ _ _ _ 49 H1.out H2.out H3.out
  generalize w3.heap.size = b5 at B ⊢
  generalize w3.alloc _ = w4 at B ⊢
  obtain ⟨g4, hr⟩ := B
  have G := Lib.hid (G.out.trans g4)
  have T0 := Lib.hid (T0.out.grow g4)
  have HT := Lib.hid (HT.out.grow g4)
  have H1 := Lib.hid (H1.out.grow g4)
  have H2 := Lib.hid (H2.out.grow g4)
  have H3 := Lib.hid (H3.out.grow g4)
  clear g4
  have HR := Lib.hid hr
  clear hr
  refine (lex_anyOf _ b5 3 [inR 97 122, inR 48 57, inS [95]] (by decide) (by decide) HR.out).mono ?_
  rintro _ w5 ⟨r5, rfl, g5, h5⟩
  have G := Lib.hid (G.out.trans g5)
  have T0 := Lib.hid (T0.out.grow g5)
  have HT := Lib.hid (HT.out.grow g5)
  have H1 := Lib.hid (H1.out.grow g5)
  have H2 := Lib.hid (H2.out.grow g5)
  have H3 := Lib.hid (H3.out.grow g5)
  clear g5
  have H5 := Lib.hid h5
  clear h5
  have H5' := Lib.hid (show Cls _ r5 isWd by rw [← isWd_any]; exact H5.out)
  obtain ⟨n, hn⟩ : ∃ n, (bs.takeWhile isWd).length = n := ⟨_, rfl⟩
  have HN := Lib.hid hn
  go_wp2_with fail
  refine (lex_run _ bs r5 isWd n H5'.out hn (by omega)).mono ?_
  rintro _ w6 ⟨_, rfl, g6, rfl⟩
  have G := Lib.hid (G.out.trans g6)
  have T0 := Lib.hid (T0.out.grow g6)
  have HT := Lib.hid (HT.out.grow g6)
  have H1 := Lib.hid (H1.out.grow g6)
  have H2 := Lib.hid (H2.out.grow g6)
  have H3 := Lib.hid (H3.out.grow g6)
  have H5 := Lib.hid (H5.out.grow g6)
  clear g6
  clear hn
  by_cases hb : 31 < n
  · have hb' : (31 : Int) < (n : Int) := by omega
    have T0_0 := T0.out.load.1
    have T0_f0 := T0.out.f0 0
    have T0_1 := T0.out.load.2.1
    have T0_f1 := T0.out.f0 1
    have T0_2 := T0.out.load.2.2.1
    have T0_f2 := T0.out.f0 2
    have T0_3 := T0.out.load.2.2.2
    have T0_f3 := T0.out.f0 3
    go_wp2_with fail
    clear T0_0 T0_f0 T0_1 T0_f1 T0_2 T0_f2 T0_3 T0_f3
    have hu := upd4 w6 b0 (.int .i64 0) (.string ⟨#[]⟩) (.int .i64 0) (.int .i64 0)
    have T0 := Lib.hid (T0.out.set (.int .i64 0) (.string ⟨#[]⟩) (.int .i64 0) (.int .i64 0))
    have G := Lib.hid (G.out.four Hb0.out (.int .i64 0) (.string ⟨#[]⟩) (.int .i64 0) (.int .i64 0))
    clear hu
    generalize (((w6.setCell _ _).setCell _ _).setCell _ _).setCell _ _ = W7 at G T0 ⊢
    have T0_0 := T0.out.load.1
    have T0_1 := T0.out.load.2.1
    have T0_2 := T0.out.load.2.2.1
    have T0_3 := T0.out.load.2.2.2
    refine bodyPost_ret (by simp [results, Tryd.results35, go_sem, T0_0, T0_1, T0_2, T0_3]; rfl) rfl ?_
    exact ⟨_, rfl, G.out, by unfold wordR; rw [HN.out, if_pos hb]; rfl⟩
  · have hb' : ¬ (31 : Int) < (n : Int) := by omega
    have hnl : n ≤ bs.length := by rw [← HN.out]; exact (List.takeWhile_prefix (p := isWd) (l := bs)).length_le
    have hex : (⟨bs.toArray⟩ : ByteArray).extract 0 n = ⟨(bs.takeWhile isWd).toArray⟩ := by
      rw [ByteArray.extract_mk]
      have := takeWhile_pre isWd bs
      have h2 : bs.take n = bs.takeWhile isWd := by
        rw [← HN.out]; exact (List.prefix_iff_eq_take.1 (List.takeWhile_prefix (p := isWd) (l := bs))).symm
      simp [h2]
    go_wp2_with fail
    obtain ⟨t, ht⟩ : ∃ t, bs.takeWhile isWd = t := ⟨_, rfl⟩
    have Ht := Lib.hid ht
    rw [ht]
    have B := box4 w6 (.int .i64 1) (.string ⟨t.toArray⟩) (.int .i64 0) (.int .i64 0) 33
    have Hb9 := Lib.hid (show ¬ w6.heap.size < w.heap.size from fun h => by have := G.out.size; omega)
    have Hd9 := Lib.hid (show b0 ≠ w6.heap.size from fun h => by have := T0.out.lt; omega)
    clear hex ht
    generalize w6.heap.size = b9 at B Hb9 Hd9 ⊢
    generalize w6.alloc _ = W7 at B ⊢
    obtain ⟨g7, h9⟩ := B
    have G := Lib.hid (G.out.trans g7)
    have T0 := Lib.hid (T0.out.grow g7)
    have HT := Lib.hid (HT.out.grow g7)
    clear g7
    have T9 := Lib.hid h9
    clear h9
    refine wp_region_fast [(1, true), (2, true), (0, false), (3, false)] (by kernel_rfl) (by kernel_rfl) rfl (by kernel_rfl) (fun _ _ d _ _ h => by cases d <;> exact h) ?_
    have T0_0 := T0.out.c0
    have T0_1 := T0.out.c1
    have T0_2 := T0.out.c2
    have T0_3 := T0.out.c3
    have T9_0 := T9.out.c0
    have T9_1 := T9.out.c1
    have T9_2 := T9.out.c2
    have T9_3 := T9.out.c3
    have g0 : Gr W7 W7.drew := (Gr.refl _).drew
    have G := Lib.hid (G.out.trans g0)
    have T0 := Lib.hid (T0.out.grow g0)
    have T9 := Lib.hid (T9.out.grow g0)
    have HT := Lib.hid (HT.out.grow g0)
    repeat (refine wpE_readB (v := ?_) g0 rfl rfl (fun w' hg => ?_) (fun K hK => ?_); rotate_left; (go_simp; rfl); go_simp; refine hK _ _ ?_; clear hK K)
    refine wpE_fn (args := ?_) rfl rfl rfl rfl rfl rfl (by kernel_rfl) (by kernel_rfl) ?_ (fun K hK => ?_)
    rotate_left
    · go_simp; rfl
    refine (cat_Keywords _ HT.out).mono ?_
    rintro _ w8 ⟨_, rfl, g8, b8, rfl, h8⟩
    refine ⟨_, rfl, g8, ?_⟩
    go_simp
    refine hK _ _ ?_
    clear hK K
    have G := Lib.hid (G.out.trans g8)
    have T0 := Lib.hid (T0.out.grow g8)
    have T9 := Lib.hid (T9.out.grow g8)
    have HT := Lib.hid (HT.out.grow g8)
    replace g0 := g0.trans g8
    clear g8
    repeat (refine wpE_readB (v := ?_) g0 rfl rfl (fun w' hg => ?_) (fun K hK => ?_); rotate_left; (go_simp; rfl); go_simp; refine hK _ _ ?_; clear hK K)
    refine wpE_fn (args := ?_) rfl rfl rfl rfl rfl rfl (by kernel_rfl) (by kernel_rfl) ?_ (fun K hK => ?_)
    rotate_left
    · go_simp; rfl
    refine (Tryd.slices_Contains_string b8 0 28 28 kws ⟨t.toArray⟩ _ (by decide) (by decide) h8).mono ?_
    rintro _ w9 ⟨rfl, rfl⟩
    refine ⟨_, rfl, Gr.refl _, ?_⟩
    go_simp
    refine hK _ _ ?_
    clear hK K
    repeat (refine wpE_readB (v := ?_) g0 rfl rfl (fun w' hg => ?_) (fun K hK => ?_); rotate_left; (go_simp; rfl); go_simp; refine hK _ _ ?_; clear hK K)
    refine wpE_nil ?_
    clear g0
    clear T0_0 T0_1 T0_2 T0_3 T9_0 T9_1 T9_2 T9_3
    rw [show kws.take 28 = kws from rfl, contains_kw]
    have Hlen := Lib.hid (show ¬ 31 < t.length by rw [← Ht.out, HN.out]; exact hb)
    cases hk : keywords.contains t
    · have T0_0 := T0.out.load.1
      have T0_f0 := T0.out.f0 0
      have T0_1 := T0.out.load.2.1
      have T0_f1 := T0.out.f0 1
      have T0_2 := T0.out.load.2.2.1
      have T0_f2 := T0.out.f0 2
      have T0_3 := T0.out.load.2.2.2
      have T0_f3 := T0.out.f0 3
      have T9_0 := T9.out.load.1
      have T9_f0 := T9.out.f0 0
      have T9_1 := T9.out.load.2.1
      have T9_f1 := T9.out.f0 1
      have T9_2 := T9.out.load.2.2.1
      have T9_f2 := T9.out.f0 2
      have T9_3 := T9.out.load.2.2.2
      have T9_f3 := T9.out.f0 3
      go_wp2_with fail
      clear T0_0 T0_f0 T0_1 T0_f1 T0_2 T0_f2 T0_3 T0_f3 T9_0 T9_f0 T9_1 T9_f1 T9_2 T9_f2 T9_3 T9_f3
      have hu := upd4 w9 b0 (.int .i64 1) (.string ⟨t.toArray⟩) (.int .i64 0) (.int .i64 0)
      have T0 := Lib.hid (T0.out.set (.int .i64 1) (.string ⟨t.toArray⟩) (.int .i64 0) (.int .i64 0))
      have G := Lib.hid (G.out.four Hb0.out (.int .i64 1) (.string ⟨t.toArray⟩) (.int .i64 0) (.int .i64 0))
      clear hu
      generalize (((w9.setCell _ _).setCell _ _).setCell _ _).setCell _ _ = W10 at G T0 ⊢
      have T0_0 := T0.out.load.1
      have T0_1 := T0.out.load.2.1
      have T0_2 := T0.out.load.2.2.1
      have T0_3 := T0.out.load.2.2.2
      refine bodyPost_ret (by simp [results, Tryd.results35, go_sem, T0_0, T0_1, T0_2, T0_3]; rfl) rfl ?_
      exact ⟨_, rfl, G.out, by unfold wordR; rw [Ht.out, if_neg Hlen.out, hk]; rfl⟩
    · have T0u := T0.out.upd (upd1 w9 b9 0 (.int .i64 2)) Hd9.out
      have T9u := T9.out.set0 (.int .i64 2)
      have G' := G.out.one (i := 0) Hb9.out (.int .i64 2)
      have x0 := T0u.load.1
      have x1 := T0u.load.2.1
      have x2 := T0u.load.2.2.1
      have x3 := T0u.load.2.2.2
      have y0 := T0u.f0 0
      have y1 := T0u.f0 1
      have y2 := T0u.f0 2
      have y3 := T0u.f0 3
      have z0 := T9u.load.1
      have z1 := T9u.load.2.1
      have z2 := T9u.load.2.2.1
      have z3 := T9u.load.2.2.2
      have T9_0 := T9.out.load.1
      have T9_f0 := T9.out.f0 0
      have T9_1 := T9.out.load.2.1
      have T9_f1 := T9.out.f0 1
      have T9_2 := T9.out.load.2.2.1
      have T9_f2 := T9.out.f0 2
      have T9_3 := T9.out.load.2.2.2
      have T9_f3 := T9.out.f0 3
      go_wp2_with fail
      clear x0 x1 x2 x3 y0 y1 y2 y3 z0 z1 z2 z3
      have T0 := Lib.hid T0u
      have G := Lib.hid G'
      clear T0u G' T9u T9
      generalize w9.setCell ⟨b9, 0, none⟩ _ = w10 at T0 G ⊢
      clear T9_0 T9_f0 T9_1 T9_f1 T9_2 T9_f2 T9_3 T9_f3
      have hu := upd4 w10 b0 (.int .i64 2) (.string ⟨t.toArray⟩) (.int .i64 0) (.int .i64 0)
      have T0 := Lib.hid (T0.out.set (.int .i64 2) (.string ⟨t.toArray⟩) (.int .i64 0) (.int .i64 0))
      have G := Lib.hid (G.out.four Hb0.out (.int .i64 2) (.string ⟨t.toArray⟩) (.int .i64 0) (.int .i64 0))
      clear hu
      generalize (((w10.setCell _ _).setCell _ _).setCell _ _).setCell _ _ = W10 at G T0 ⊢
      have T0_0 := T0.out.load.1
      have T0_1 := T0.out.load.2.1
      have T0_2 := T0.out.load.2.2.1
      have T0_3 := T0.out.load.2.2.2
      refine bodyPost_ret (by simp [results, Tryd.results35, go_sem, T0_0, T0_1, T0_2, T0_3]; rfl) rfl ?_
      exact ⟨_, rfl, G.out, by unfold wordR; rw [Ht.out, if_neg Hlen.out, hk]; rfl⟩
end Go.Proofs.YtakcolmgbahgiaaDoor

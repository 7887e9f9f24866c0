/-
  lexer.number, lexer.token.
-/
import Derived.Test.YtakcolmgbahgiaaDoorLexG
import Derived.Laws.IdiomStrings
import Derived.Laws.Strings2
namespace Go.Proofs.YtakcolmgbahgiaaDoor
open Go.RowKit Go.Lib Lex
set_option linter.unusedVariables false
set_option linter.unusedSimpArgs false

def numR (bs : List UInt8) : Except Nat Tok :=
  if (decide (1 < (bs.takeWhile isDi).length) && (bs.head? == some 48)) || nextBad (bs.drop (bs.takeWhile isDi).length) then .error 3
  else if 1048576 < numV (bs.takeWhile isDi) then .error 2 else .ok ⟨3, bs.takeWhile isDi, numV (bs.takeWhile isDi), 0⟩
theorem tokL_eq (b : UInt8) (r : List UInt8) : tokL (b :: r) = if isLo b then wordR (b :: r) else if isDi b then numR (b :: r) else if b == 59 || b == 44 then .ok ⟨4, [b], 0, 0⟩ else .error 3 := by
  unfold tokL wordR numR
  have e : ((b :: r).head? == some 48) = (b == 48) := by simp
  rw [e]
theorem inR_di : inR 48 57 = isDi := rfl
theorem bad_any : (fun c => [inR 97 122, inS [95]].any fun p => p c) = fun c => isLo c || c == 95 := by
  funext c
  simp [isLo, inR, inS, List.contains_cons]
  rfl
theorem nextBad_run (bs : List UInt8) : nextBad bs = decide (0 < (bs.takeWhile fun c => isLo c || c == 95).length) := by
  cases bs with
  | nil => rfl
  | cons b r =>
    unfold nextBad
    cases h : (isLo b || b == 95)
    · simp [List.takeWhile, h]
    · simp [List.takeWhile, h]
theorem numV_snoc (t : List UInt8) (c : UInt8) : numV (t ++ [c]) = 10 * numV t + (c.toNat - 48) := by simp [numV, List.foldl_append]
theorem numV_le (t : List UInt8) : ∀ k, numV (t.take k) ≤ numV t := fun k => by
  have key : ∀ (u : List UInt8) (a : Nat), a ≤ u.foldl (fun a c => 10 * a + (c.toNat - 48)) a := by
    intro u
    induction u with
    | nil => intro a; exact Nat.le_refl _
    | cons c u ih => intro a; exact Nat.le_trans (by omega) (ih (10 * a + (c.toNat - 48)))
  have h := List.take_append_drop k t
  have : numV t = (t.drop k).foldl (fun a c => 10 * a + (c.toNat - 48)) (numV (t.take k)) := by
    conv => lhs; rw [← h]
    unfold numV
    rw [List.foldl_append]
  rw [this]; exact key _ _

/-- the bytes of a block -/
def BytesAt (w : World) (b : Nat) (l : List UInt8) : Prop := ∀ i c, l[i]? = some c → w.cell? ⟨b, i, none⟩ = some (.int .u8 (c.toNat : Int))
theorem BytesAt.grow {w w' : World} {b : Nat} {l : List UInt8} (h : BytesAt w b l) (g : Gr w w') : BytesAt w' b l := fun i c hc => g.cell (h i c hc)
theorem BytesAt.upd {w w' : World} {b b' : Nat} {l : List UInt8} (h : BytesAt w b' l) (hu : Upd b w w') (hne : b' ≠ b) : BytesAt w' b' l := fun i c hc => by
  have := h i c hc
  unfold World.cell? at this ⊢
  rw [show w'.heap[(⟨b', i, none⟩ : Addr).block]? = w.heap[(⟨b', i, none⟩ : Addr).block]? from hu b' hne]
  exact this
theorem bytes_all (w : World) (l : List UInt8) : ∃ cap W, (convert 9 41 (.string ⟨l.toArray⟩)).run Tryd.prog w = .ok (.slice (some ⟨w.heap.size, 0, none⟩) l.length cap) W ∧ Gr w W ∧ BytesAt W w.heap.size l := by
  have hs : (⟨l.toArray⟩ : ByteArray).size = l.length := by simp [ByteArray.size]
  have hr := run_bytes_of_string (P := Tryd.prog) w 9 41 5 ⟨l.toArray⟩ Tryd.underlying9 Tryd.underlying41 Tryd.underlying5
  rw [hs] at hr
  refine ⟨_, _, hr, ((Gr.refl w).drew).alloc _, fun i c hc => ?_⟩
  have hi : i < l.length := (List.getElem?_eq_some_iff.1 hc).1
  have h1 := bytesRow_at ⟨l.toArray⟩ (grownCap w l.length 0 5) i (by simpa using hi)
  have h2 : l[i] = c := (List.getElem?_eq_some_iff.1 hc).2
  unfold World.cell?
  rw [show w.heap.size = w.drew.heap.size from rfl]
  simp only [heap_alloc_new w.drew _]
  simp only [List.getElem_toArray, h2] at h1
  simpa using h1


set_option maxRecDepth 100000 in
set_option maxHeartbeats 1600000 in
theorem lex_number (w : World) (bs : List UInt8) (hl : bs.length ≤ 1000000000) :
    Calls Tryd.prog 36 #[.string ⟨bs.toArray⟩] w (Ret w fun r _ => r = tokR (numR bs)) := by
  have B := box4 w (.int .i64 0) (.string ⟨#[]⟩) (.int .i64 0) (.int .i64 0) 33
  go_enter Tryd.func36, Tryd.ntmps36
  go_wp2_with fail
  generalize w.alloc _ = W at B ⊢
  obtain ⟨G0, t0⟩ := B
  generalize hb0 : w.heap.size = b0 at t0  ⊢
  have Hb0 := Lib.hid (show ¬ b0 < w.heap.size by omega)
  have G := Lib.hid G0
  have T0 := Lib.hid t0
  clear hb0 G0 t0
  refine (lex_from _ 48 57).mono ?_
  rintro _ w1 ⟨r1, rfl, g1, h1⟩
  have G := Lib.hid (G.out.trans g1)
  have T0 := Lib.hid (T0.out.grow g1)
  clear g1
  have H1 := Lib.hid h1
  clear h1
  have H1' := Lib.hid (show Cls _ r1 isDi from H1.out)
  obtain ⟨n, hn⟩ : ∃ n, (bs.takeWhile isDi).length = n := ⟨_, rfl⟩
  have HN := Lib.hid hn
  go_wp2_with fail
  refine (lex_run _ bs r1 isDi n H1'.out hn (by omega)).mono ?_
  rintro _ w2 ⟨_, rfl, g2, rfl⟩
  have G := Lib.hid (G.out.trans g2)
  have T0 := Lib.hid (T0.out.grow g2)
  have H1 := Lib.hid (H1.out.grow g2)
  clear g2
  have hnl : n ≤ bs.length := by rw [← hn]; exact (List.takeWhile_prefix (p := isDi) (l := bs)).length_le
  clear hn H1 H1'
  have Hnl := Lib.hid hnl
  by_cases hA : 1 < n ∧ bs.head? = some 48
  · obtain ⟨h1, h0⟩ := hA
    have he : numR bs = .error 3 := by unfold numR; rw [HN.out, h0, decide_eq_true h1]; rfl
    have He := Lib.hid he
    obtain ⟨rest, rfl⟩ : ∃ rest, bs = 48 :: rest := by
      cases bs with
      | nil => cases h0
      | cons b r => exact ⟨r, by simp at h0; rw [h0]⟩
    have hi : ∀ h, (⟨(48 :: rest).toArray⟩ : ByteArray)[0]'h = 48 := fun h => rfl
    have h1' : (1 : Int) < (n : Int) := by omega
    clear he h0
    go_wp2_with fail
    refine wp_region_fast [(0, true), (1, true), (2, true), (3, true), (4, true), (5, true), (6, true), (7, true), (8, true), (9, true), (10, true), (11, false), (12, false), (13, false), (14, false), (15, false), (16, true), (17, true)] (by kernel_rfl) (by kernel_rfl) rfl (by kernel_rfl) (fun _ _ d _ _ h => by cases d <;> exact h) ?_
    have T0_0 := T0.out.c0
    have T0_1 := T0.out.c1
    have T0_2 := T0.out.c2
    have T0_3 := T0.out.c3
    have g0 : Gr w2 w2.drew := (Gr.refl _).drew
    have G := Lib.hid (G.out.trans g0)
    have T0 := Lib.hid (T0.out.grow g0)
    repeat (refine wpE_readB (v := ?_) g0 rfl rfl (fun w' hg => ?_) (fun K hK => ?_); rotate_left; (go_simp; rfl); go_simp; refine hK _ _ ?_; clear hK K)
    repeat (refine wpE_skip rfl rfl ?_; go_simp)
    repeat (refine wpE_readB (v := ?_) g0 rfl rfl (fun w' hg => ?_) (fun K hK => ?_); rotate_left; (go_simp; rfl); go_simp; refine hK _ _ ?_; clear hK K)
    repeat (refine wpE_skip rfl rfl ?_; go_simp)
    repeat (refine wpE_readB (v := ?_) g0 rfl rfl (fun w' hg => ?_) (fun K hK => ?_); rotate_left; (go_simp; rfl); go_simp; refine hK _ _ ?_; clear hK K)
    refine wpE_nil ?_
    clear g0
    clear T0_0 T0_1 T0_2 T0_3
    generalize w2.drew = w3 at G T0 ⊢
    have T0_0 := T0.out.load.1
    have T0_f0 := T0.out.f0 0
    have T0_1 := T0.out.load.2.1
    have T0_f1 := T0.out.f0 1
    have T0_2 := T0.out.load.2.2.1
    have T0_f2 := T0.out.f0 2
    have T0_3 := T0.out.load.2.2.2
    have T0_f3 := T0.out.f0 3
    go_wp2_with fail
    clear T0_0 T0_f0 T0_1 T0_f1 T0_2 T0_f2 T0_3 T0_f3
    have hu := upd4 w3 b0 (.int .i64 0) (.string ⟨#[]⟩) (.int .i64 0) (.int .i64 0)
    have T0 := Lib.hid (T0.out.set (.int .i64 0) (.string ⟨#[]⟩) (.int .i64 0) (.int .i64 0))
    have G := Lib.hid (G.out.four Hb0.out (.int .i64 0) (.string ⟨#[]⟩) (.int .i64 0) (.int .i64 0))
    clear hu
    generalize (((w3.setCell _ _).setCell _ _).setCell _ _).setCell _ _ = W7 at G T0 ⊢
    have T0_0 := T0.out.load.1
    have T0_1 := T0.out.load.2.1
    have T0_2 := T0.out.load.2.2.1
    have T0_3 := T0.out.load.2.2.2
    refine bodyPost_ret (by simp [results, Tryd.results36, go_sem, T0_0, T0_1, T0_2, T0_3]; rfl) rfl ?_
    exact ⟨_, rfl, G.out, by rw [He.out]; rfl⟩
  · have HA := Lib.hid hA
    clear hA
    go_wp2_with fail
    have hd := drop_str bs n
    by_cases h1 : 1 < n
    · have h1' : (1 : Int) < (n : Int) := by omega
      obtain ⟨c0, hc⟩ : ∃ c0, bs[0]'(by omega) = c0 := ⟨_, rfl⟩
      have hc0 : ¬ (c0.toNat : Int) = 48 := fun e => HA.out ⟨h1, by
        rw [List.head?_eq_getElem?, List.getElem?_eq_getElem (by omega), hc]
        congr 1; exact UInt8.toNat_inj.1 (show c0.toNat = (48 : UInt8).toNat by show _ = 48; omega)⟩
      have hi : ∀ h, (⟨bs.toArray⟩ : ByteArray)[0]'h = c0 := fun h => by show bs.toArray[0] = _; simp [hc]
      have hpos : 0 < bs.length := by omega
      have hpos' : 0 < (bs.length : Int) := by omega
      have hb0 : ((c0.toNat : Int) == 48) = false := by simpa using hc0
      refine wp_region_fast [(0, true), (1, true), (2, true), (3, true), (4, true), (5, true), (6, true), (7, true), (8, true), (9, true), (10, true), (11, false), (12, false), (13, false), (14, false), (15, false), (16, true), (17, true)] (by kernel_rfl) (by kernel_rfl) rfl (by kernel_rfl) (fun _ _ d _ _ h => by cases d <;> exact h) ?_
      have T0_0 := T0.out.c0
      have T0_1 := T0.out.c1
      have T0_2 := T0.out.c2
      have T0_3 := T0.out.c3
      have g0 : Gr w2 w2.drew := (Gr.refl _).drew
      have G := Lib.hid (G.out.trans g0)
      have T0 := Lib.hid (T0.out.grow g0)
      repeat (refine wpE_readB (v := ?_) g0 rfl rfl (fun w' hg => ?_) (fun K hK => ?_); rotate_left; (go_simp; rfl); go_simp; refine hK _ _ ?_; clear hK K)
      repeat (refine wpE_skip rfl rfl ?_; go_simp)
      repeat (refine wpE_readB (v := ?_) g0 rfl rfl (fun w' hg => ?_) (fun K hK => ?_); rotate_left; (go_simp; rfl); go_simp; refine hK _ _ ?_; clear hK K)
      repeat (refine wpE_skip rfl rfl ?_; go_simp)
      repeat (refine wpE_readB (v := ?_) g0 rfl rfl (fun w' hg => ?_) (fun K hK => ?_); rotate_left; (go_simp; rfl); go_simp; refine hK _ _ ?_; clear hK K)
      refine wpE_fn (args := ?_) rfl rfl rfl rfl rfl rfl (by kernel_rfl) (by kernel_rfl) ?_ (fun K hK => ?_)
      rotate_left
      · go_simp; rfl
      refine (lex_from _ 97 122).mono ?_
      rintro _ w3 ⟨r3, rfl, g3, h3⟩
      refine ⟨_, rfl, g3, ?_⟩
      go_simp
      refine hK _ _ ?_
      clear hK K
      have G := Lib.hid (G.out.trans g3)
      have T0 := Lib.hid (T0.out.grow g3)
      replace g0 := g0.trans g3
      clear g3
      have H3 := Lib.hid h3
      clear h3
      refine wpE_fn (args := ?_) rfl rfl rfl rfl rfl rfl (by kernel_rfl) (by kernel_rfl) ?_ (fun K hK => ?_)
      rotate_left
      · go_simp; rfl
      refine (lex_among _ [95]).mono ?_
      rintro _ w4 ⟨r4, rfl, g4, h4⟩
      refine ⟨_, rfl, g4, ?_⟩
      go_simp
      refine hK _ _ ?_
      clear hK K
      have G := Lib.hid (G.out.trans g4)
      have T0 := Lib.hid (T0.out.grow g4)
      have H3 := Lib.hid (H3.out.grow g4)
      replace g0 := g0.trans g4
      clear g4
      have H4 := Lib.hid h4
      clear h4
      obtain ⟨f3, k3, rfl⟩ := H3.out.shape
      obtain ⟨f4, k4, rfl⟩ := H4.out.shape
      have B := row2 w4 _ _ _ _ 49 H3.out H4.out
      refine wpE_do rfl rfl (fun K hK => ?_)
      go_simp
      refine ⟨fun _ => B.1, hK _ _ ?_⟩
      clear hK K
      generalize w4.heap.size = b5 at B ⊢
      generalize w4.alloc _ = w5 at B ⊢
      obtain ⟨g5, hr⟩ := B
      have G := Lib.hid (G.out.trans g5)
      have T0 := Lib.hid (T0.out.grow g5)
      have H3 := Lib.hid (H3.out.grow g5)
      have H4 := Lib.hid (H4.out.grow g5)
      replace g0 := g0.trans g5
      clear g5
      have HR := Lib.hid hr
      clear hr
      refine wpE_fn (args := ?_) rfl rfl rfl rfl rfl rfl (by kernel_rfl) (by kernel_rfl) ?_ (fun K hK => ?_)
      rotate_left
      · go_simp; rfl
      refine (lex_anyOf _ b5 2 [inR 97 122, inS [95]] (by decide) (by decide) HR.out).mono ?_
      rintro _ w6 ⟨r6, rfl, g6, h6⟩
      refine ⟨_, rfl, g6, ?_⟩
      go_simp
      refine hK _ _ ?_
      clear hK K
      have G := Lib.hid (G.out.trans g6)
      have T0 := Lib.hid (T0.out.grow g6)
      have H3 := Lib.hid (H3.out.grow g6)
      have H4 := Lib.hid (H4.out.grow g6)
      replace g0 := g0.trans g6
      clear g6
      have H6 := Lib.hid h6
      clear h6
      have H6' := Lib.hid (show Cls _ r6 (fun c => isLo c || c == 95) by rw [← bad_any]; exact H6.out)
      obtain ⟨m, hm⟩ : ∃ m, ((bs.drop n).takeWhile (fun c => isLo c || c == 95)).length = m := ⟨_, rfl⟩
      have HM := Lib.hid hm
      refine wpE_fn (args := ?_) rfl rfl rfl rfl rfl rfl (by kernel_rfl) (by kernel_rfl) ?_ (fun K hK => ?_)
      rotate_left
      · go_simp; rfl
      refine (lex_run _ (bs.drop n) r6 (fun c => isLo c || c == 95) m H6'.out hm (by rw [List.length_drop]; omega)).mono ?_
      rintro _ w7 ⟨_, rfl, g7, rfl⟩
      refine ⟨_, rfl, g7, ?_⟩
      go_simp
      refine hK _ _ ?_
      clear hK K
      have G := Lib.hid (G.out.trans g7)
      have T0 := Lib.hid (T0.out.grow g7)
      have H3 := Lib.hid (H3.out.grow g7)
      have H4 := Lib.hid (H4.out.grow g7)
      have H6 := Lib.hid (H6.out.grow g7)
      replace g0 := g0.trans g7
      clear g7
      clear H3 H4 H6 H6' HR hm
      repeat (refine wpE_readB (v := ?_) g0 rfl rfl (fun w' hg => ?_) (fun K hK => ?_); rotate_left; (go_simp; rfl); go_simp; refine hK _ _ ?_; clear hK K)
      refine wpE_nil ?_
      clear g0
      clear T0_0 T0_1 T0_2 T0_3
      have Hbad := Lib.hid (show nextBad (bs.drop n) = decide (0 < m) by rw [nextBad_run, HM.out])
      by_cases hm0 : 0 < m
      · have hm0' : (0 : Int) < (m : Int) := by omega
        have He := Lib.hid (show numR bs = .error 3 by unfold numR; rw [HN.out, Hbad.out, decide_eq_true hm0]; simp)
        have T0_0 := T0.out.load.1
        have T0_f0 := T0.out.f0 0
        have T0_1 := T0.out.load.2.1
        have T0_f1 := T0.out.f0 1
        have T0_2 := T0.out.load.2.2.1
        have T0_f2 := T0.out.f0 2
        have T0_3 := T0.out.load.2.2.2
        have T0_f3 := T0.out.f0 3
        go_wp2_with fail
        clear T0_0 T0_f0 T0_1 T0_f1 T0_2 T0_f2 T0_3 T0_f3
        have hu := upd4 w7 b0 (.int .i64 0) (.string ⟨#[]⟩) (.int .i64 0) (.int .i64 0)
        have T0 := Lib.hid (T0.out.set (.int .i64 0) (.string ⟨#[]⟩) (.int .i64 0) (.int .i64 0))
        have G := Lib.hid (G.out.four Hb0.out (.int .i64 0) (.string ⟨#[]⟩) (.int .i64 0) (.int .i64 0))
        clear hu
        generalize (((w7.setCell _ _).setCell _ _).setCell _ _).setCell _ _ = W7 at G T0 ⊢
        have T0_0 := T0.out.load.1
        have T0_1 := T0.out.load.2.1
        have T0_2 := T0.out.load.2.2.1
        have T0_3 := T0.out.load.2.2.2
        refine bodyPost_ret (by simp [results, Tryd.results36, go_sem, T0_0, T0_1, T0_2, T0_3]; rfl) rfl ?_
        exact ⟨_, rfl, G.out, by rw [He.out]; rfl⟩
      · have hm0' : ¬ (0 : Int) < (m : Int) := by omega
        have Hno := Lib.hid (show numR bs = if 1048576 < numV (bs.takeWhile isDi) then .error 2 else .ok ⟨3, bs.takeWhile isDi, numV (bs.takeWhile isDi), 0⟩ by
          unfold numR
          rw [HN.out, Hbad.out, decide_eq_false hm0, Bool.or_false]
          split
          · rename_i h
            simp only [Bool.and_eq_true, decide_eq_true_eq, beq_iff_eq] at h
            exact absurd h HA.out
          · rfl)
        have hex : (⟨bs.toArray⟩ : ByteArray).extract 0 n = ⟨(bs.takeWhile isDi).toArray⟩ := by
          rw [ByteArray.extract_mk]
          have h2 : bs.take n = bs.takeWhile isDi := by
            rw [← HN.out]; exact (List.prefix_iff_eq_take.1 (List.takeWhile_prefix (p := isDi) (l := bs))).symm
          simp [h2]
        obtain ⟨t, ht⟩ : ∃ t, bs.takeWhile isDi = t := ⟨_, rfl⟩
        rw [ht] at hex
        have Ht := Lib.hid ht
        have Htn := Lib.hid (show t.length = n by rw [← ht]; exact HN.out)
        have Hdi := Lib.hid (show ∀ c ∈ t, isDi c = true by rw [← ht]; exact fun c hc => List.all_eq_true.1 (List.all_takeWhile (p := isDi) (l := bs)) c hc)
        have hnum : numR bs = if 1048576 < numV t then .error 2 else .ok ⟨3, t, numV t, 0⟩ := by rw [Hno.out, ht]
        have Hnum := Lib.hid hnum
        clear ht Hno HA Hbad HN HM hnum
        have hpx := hex
        go_wp2_with fail
        clear hex hpx
        have B := box4 w7 (.int .i64 3) (.string ⟨t.toArray⟩) (.int .i64 0) (.int .i64 0) 33
        have Hb9 := Lib.hid (show ¬ w7.heap.size < w.heap.size from fun h => by have := G.out.size; omega)
        have Hd9 := Lib.hid (show b0 ≠ w7.heap.size from fun h => by have := T0.out.lt; omega)
        generalize w7.heap.size = b9 at B Hb9 Hd9 ⊢
        generalize w7.alloc _ = w8 at B ⊢
        obtain ⟨g8, h9⟩ := B
        have G := Lib.hid (G.out.trans g8)
        have T0 := Lib.hid (T0.out.grow g8)
        clear g8
        have T9 := Lib.hid h9
        clear h9
        obtain ⟨cap, W, hcv, gW, hB⟩ := bytes_all w8 t
        rw [Htn.out] at hcv
        have Hd8 := Lib.hid (show w8.heap.size ≠ b9 from fun h => by have := T9.out.lt; omega)
        generalize w8.heap.size = bb at hcv hB Hd8
        have G := Lib.hid (G.out.trans gW)
        have T0 := Lib.hid (T0.out.grow gW)
        have T9 := Lib.hid (T9.out.grow gW)
        clear gW
        have HB := Lib.hid hB
        clear hB
        rw [hcv]
        go_simp
        go_wp2_with fail
        clear hcv
        go_loopw [38] (fun i w1 => ∃ k : Nat, k ≤ n ∧ i = .int .i64 k ∧ numV (t.take k) ≤ 1048576 ∧ Four w1 b0 (.int .i64 0) (.string ⟨#[]⟩) (.int .i64 0) (.int .i64 0) ∧ Four w1 b9 (.int .i64 3) (.string ⟨t.toArray⟩) (.int .i64 (numV (t.take k) : Nat)) (.int .i64 0) ∧ BytesAt w1 bb t ∧ Gr w w1) (fun i _ => n - (RowKit.intOf i).toNat)
        case atStart => exact ⟨0, Nat.zero_le _, rfl, by simp [numV], T0.out, T9.out, HB.out, G.out⟩
        case round =>
          clear G T0 T9 HB
          obtain ⟨k, hk, rfl, hX, t0, t9, hB, hg⟩ := hrel
          have T0 := Lib.hid t0
          have T9 := Lib.hid t9
          have HB := Lib.hid hB
          have G := Lib.hid hg
          clear t0 t9 hB hg
          obtain ⟨X, hXe⟩ : ∃ X, numV (t.take k) = X := ⟨_, rfl⟩
          rw [hXe] at hX T9
          have HX := Lib.hid hXe
          clear hXe
          by_cases hlt : k < n
          · have hkt : k < t.length := by rw [Htn.out]; exact hlt
            obtain ⟨c, hc⟩ : ∃ c, t[k]? = some c := ⟨_, List.getElem?_eq_getElem hkt⟩
            have cell := HB.out k c hc
            have hd := Hdi.out c (List.mem_of_getElem? hc)
            have Hs := Lib.hid (show numV (t.take (k + 1)) = 10 * X + (c.toNat - 48) by rw [List.take_add_one, hc]; show numV (_ ++ [c]) = _; rw [numV_snoc, HX.out])
            unfold isDi at hd
            simp only [Bool.and_eq_true, decide_eq_true_eq] at hd
            obtain ⟨hd1, hd2⟩ := hd
            obtain ⟨u, hu⟩ : ∃ u, c.toNat = u := ⟨_, rfl⟩
            rw [hu] at cell hd1 hd2 Hs
            clear hc hkt hu
            have T9_2 := T9.out.load.2.2.1
            have T9_f := T9.out.f0 2
            obtain ⟨Y, hY⟩ : ∃ Y, 10 * X + (u - 48) = Y := ⟨_, rfl⟩
            have E1 : 10 * (X : Int) + ((u : Int) - 48) = (Y : Int) := by omega
            have T0u := T0.out.upd (upd1 wr b9 2 (.int .i64 (Y : Int))) Hd9.out
            have T9u := T9.out.set2 (.int .i64 (Y : Int))
            have HBu := HB.out.upd (upd1 wr b9 2 (.int .i64 (Y : Int))) Hd8.out
            have G' := G.out.one (i := 2) Hb9.out (.int .i64 (Y : Int))
            have x0 := T0.out.load.1
            have x1 := T0.out.load.2.1
            have x2 := T0.out.load.2.2.1
            have x3 := T0.out.load.2.2.2
            have y0 := T0.out.f0 0
            have y1 := T0.out.f0 1
            have y2 := T0.out.f0 2
            have y3 := T0.out.f0 3
            have T0u := Lib.hid T0u
            have T9u := Lib.hid T9u
            have HBu := Lib.hid HBu
            have G' := Lib.hid G'
            by_cases hbig : 1048576 < Y
            · have hbig' : (1048576 : Int) < (Y : Int) := by omega
              have He := Lib.hid (show numR bs = .error 2 by
                rw [Hnum.out, if_pos]
                have := numV_le t (k + 1)
                rw [Hs.out] at this
                omega)
              have hne := Hd9.out
              have hne2 := Hd9.out.symm
              go_wp2_with fail
              clear hne hne2 x0 x1 x2 x3 y0 y1 y2 y3 T9_2 T9_f cell HBu T9u
              have T0 := T0u
              have G := G'
              clear T0u G'
              generalize wr.setCell ⟨b9, 2, none⟩ _ = w10 at T0 G ⊢
              have hu := upd4 w10 b0 (.int .i64 0) (.string ⟨#[]⟩) (.int .i64 0) (.int .i64 0)
              have T0 := Lib.hid (T0.out.set (.int .i64 0) (.string ⟨#[]⟩) (.int .i64 0) (.int .i64 0))
              have G := Lib.hid (G.out.four Hb0.out (.int .i64 0) (.string ⟨#[]⟩) (.int .i64 0) (.int .i64 0))
              clear hu
              generalize (((w10.setCell _ _).setCell _ _).setCell _ _).setCell _ _ = W10 at G T0 ⊢
              have T0_0 := T0.out.load.1
              have T0_1 := T0.out.load.2.1
              have T0_2 := T0.out.load.2.2.1
              have T0_3 := T0.out.load.2.2.2
              refine bodyPost_ret (by simp [results, Tryd.results36, go_sem, T0_0, T0_1, T0_2, T0_3]; rfl) rfl ?_
              exact ⟨_, rfl, G.out, by rw [He.out]; rfl⟩
            · have hbig' : ¬ (1048576 : Int) < (Y : Int) := by omega
              go_wp2_with fail
              refine ⟨⟨k + 1, by omega, by go_num, ?_, T0u.out, ?_, HBu.out, G'.out⟩, by simp [RowKit.intOf]; omega⟩
              · rw [Hs.out]; omega
              · rw [Hs.out, hY]; exact T9u.out
          · obtain rfl : k = n := by omega
            have htk : t.take k = t := List.take_of_length_le (by rw [Htn.out]; exact Nat.le_refl _)
            have HX' := Lib.hid (show numV t = X by rw [← htk]; exact HX.out)
            have He := Lib.hid (show numR bs = .ok ⟨3, t, X, 0⟩ by rw [Hnum.out, HX'.out, if_neg (by omega)])
            clear htk
            have T0_0 := T0.out.load.1
            have T0_f0 := T0.out.f0 0
            have T0_1 := T0.out.load.2.1
            have T0_f1 := T0.out.f0 1
            have T0_2 := T0.out.load.2.2.1
            have T0_f2 := T0.out.f0 2
            have T0_3 := T0.out.load.2.2.2
            have T0_f3 := T0.out.f0 3
            have T9_0 := T9.out.load.1
            have T9_f0 := T9.out.f0 0
            have T9_1 := T9.out.load.2.1
            have T9_f1 := T9.out.f0 1
            have T9_2 := T9.out.load.2.2.1
            have T9_f2 := T9.out.f0 2
            have T9_3 := T9.out.load.2.2.2
            have T9_f3 := T9.out.f0 3
            go_wp2_with fail
            clear T0_0 T0_f0 T0_1 T0_f1 T0_2 T0_f2 T0_3 T0_f3 T9_0 T9_f0 T9_1 T9_f1 T9_2 T9_f2 T9_3 T9_f3
            have hu := upd4 wr b0 (.int .i64 3) (.string ⟨t.toArray⟩) (.int .i64 X) (.int .i64 0)
            have T0 := Lib.hid (T0.out.set (.int .i64 3) (.string ⟨t.toArray⟩) (.int .i64 X) (.int .i64 0))
            have G := Lib.hid (G.out.four Hb0.out (.int .i64 3) (.string ⟨t.toArray⟩) (.int .i64 X) (.int .i64 0))
            clear hu
            generalize (((wr.setCell _ _).setCell _ _).setCell _ _).setCell _ _ = W10 at G T0 ⊢
            have T0_0 := T0.out.load.1
            have T0_1 := T0.out.load.2.1
            have T0_2 := T0.out.load.2.2.1
            have T0_3 := T0.out.load.2.2.2
            refine bodyPost_ret (by simp [results, Tryd.results36, go_sem, T0_0, T0_1, T0_2, T0_3]; rfl) rfl ?_
            exact ⟨_, rfl, G.out, by rw [He.out]; rfl⟩
    · have h1' : ¬ (1 : Int) < (n : Int) := by omega
      refine wp_region_fast [(0, true), (1, true), (2, true), (3, true), (4, true), (5, true), (6, true), (7, true), (8, true), (9, true), (10, true), (11, false), (12, false), (13, false), (14, false), (15, false), (16, true), (17, true)] (by kernel_rfl) (by kernel_rfl) rfl (by kernel_rfl) (fun _ _ d _ _ h => by cases d <;> exact h) ?_
      have T0_0 := T0.out.c0
      have T0_1 := T0.out.c1
      have T0_2 := T0.out.c2
      have T0_3 := T0.out.c3
      have g0 : Gr w2 w2.drew := (Gr.refl _).drew
      have G := Lib.hid (G.out.trans g0)
      have T0 := Lib.hid (T0.out.grow g0)
      repeat (refine wpE_readB (v := ?_) g0 rfl rfl (fun w' hg => ?_) (fun K hK => ?_); rotate_left; (go_simp; rfl); go_simp; refine hK _ _ ?_; clear hK K)
      repeat (refine wpE_skip rfl rfl ?_; go_simp)
      repeat (refine wpE_readB (v := ?_) g0 rfl rfl (fun w' hg => ?_) (fun K hK => ?_); rotate_left; (go_simp; rfl); go_simp; refine hK _ _ ?_; clear hK K)
      repeat (refine wpE_skip rfl rfl ?_; go_simp)
      repeat (refine wpE_readB (v := ?_) g0 rfl rfl (fun w' hg => ?_) (fun K hK => ?_); rotate_left; (go_simp; rfl); go_simp; refine hK _ _ ?_; clear hK K)
      refine wpE_fn (args := ?_) rfl rfl rfl rfl rfl rfl (by kernel_rfl) (by kernel_rfl) ?_ (fun K hK => ?_)
      rotate_left
      · go_simp; rfl
      refine (lex_from _ 97 122).mono ?_
      rintro _ w3 ⟨r3, rfl, g3, h3⟩
      refine ⟨_, rfl, g3, ?_⟩
      go_simp
      refine hK _ _ ?_
      clear hK K
      have G := Lib.hid (G.out.trans g3)
      have T0 := Lib.hid (T0.out.grow g3)
      replace g0 := g0.trans g3
      clear g3
      have H3 := Lib.hid h3
      clear h3
      refine wpE_fn (args := ?_) rfl rfl rfl rfl rfl rfl (by kernel_rfl) (by kernel_rfl) ?_ (fun K hK => ?_)
      rotate_left
      · go_simp; rfl
      refine (lex_among _ [95]).mono ?_
      rintro _ w4 ⟨r4, rfl, g4, h4⟩
      refine ⟨_, rfl, g4, ?_⟩
      go_simp
      refine hK _ _ ?_
      clear hK K
      have G := Lib.hid (G.out.trans g4)
      have T0 := Lib.hid (T0.out.grow g4)
      have H3 := Lib.hid (H3.out.grow g4)
      replace g0 := g0.trans g4
      clear g4
      have H4 := Lib.hid h4
      clear h4
      obtain ⟨f3, k3, rfl⟩ := H3.out.shape
      obtain ⟨f4, k4, rfl⟩ := H4.out.shape
      have B := row2 w4 _ _ _ _ 49 H3.out H4.out
      refine wpE_do rfl rfl (fun K hK => ?_)
      go_simp
      refine ⟨fun _ => B.1, hK _ _ ?_⟩
      clear hK K
      generalize w4.heap.size = b5 at B ⊢
      generalize w4.alloc _ = w5 at B ⊢
      obtain ⟨g5, hr⟩ := B
      have G := Lib.hid (G.out.trans g5)
      have T0 := Lib.hid (T0.out.grow g5)
      have H3 := Lib.hid (H3.out.grow g5)
      have H4 := Lib.hid (H4.out.grow g5)
      replace g0 := g0.trans g5
      clear g5
      have HR := Lib.hid hr
      clear hr
      refine wpE_fn (args := ?_) rfl rfl rfl rfl rfl rfl (by kernel_rfl) (by kernel_rfl) ?_ (fun K hK => ?_)
      rotate_left
      · go_simp; rfl
      refine (lex_anyOf _ b5 2 [inR 97 122, inS [95]] (by decide) (by decide) HR.out).mono ?_
      rintro _ w6 ⟨r6, rfl, g6, h6⟩
      refine ⟨_, rfl, g6, ?_⟩
      go_simp
      refine hK _ _ ?_
      clear hK K
      have G := Lib.hid (G.out.trans g6)
      have T0 := Lib.hid (T0.out.grow g6)
      have H3 := Lib.hid (H3.out.grow g6)
      have H4 := Lib.hid (H4.out.grow g6)
      replace g0 := g0.trans g6
      clear g6
      have H6 := Lib.hid h6
      clear h6
      have H6' := Lib.hid (show Cls _ r6 (fun c => isLo c || c == 95) by rw [← bad_any]; exact H6.out)
      obtain ⟨m, hm⟩ : ∃ m, ((bs.drop n).takeWhile (fun c => isLo c || c == 95)).length = m := ⟨_, rfl⟩
      have HM := Lib.hid hm
      refine wpE_fn (args := ?_) rfl rfl rfl rfl rfl rfl (by kernel_rfl) (by kernel_rfl) ?_ (fun K hK => ?_)
      rotate_left
      · go_simp; rfl
      refine (lex_run _ (bs.drop n) r6 (fun c => isLo c || c == 95) m H6'.out hm (by rw [List.length_drop]; omega)).mono ?_
      rintro _ w7 ⟨_, rfl, g7, rfl⟩
      refine ⟨_, rfl, g7, ?_⟩
      go_simp
      refine hK _ _ ?_
      clear hK K
      have G := Lib.hid (G.out.trans g7)
      have T0 := Lib.hid (T0.out.grow g7)
      have H3 := Lib.hid (H3.out.grow g7)
      have H4 := Lib.hid (H4.out.grow g7)
      have H6 := Lib.hid (H6.out.grow g7)
      replace g0 := g0.trans g7
      clear g7
      clear H3 H4 H6 H6' HR hm
      repeat (refine wpE_readB (v := ?_) g0 rfl rfl (fun w' hg => ?_) (fun K hK => ?_); rotate_left; (go_simp; rfl); go_simp; refine hK _ _ ?_; clear hK K)
      refine wpE_nil ?_
      clear g0
      clear T0_0 T0_1 T0_2 T0_3
      have Hbad := Lib.hid (show nextBad (bs.drop n) = decide (0 < m) by rw [nextBad_run, HM.out])
      by_cases hm0 : 0 < m
      · have hm0' : (0 : Int) < (m : Int) := by omega
        have He := Lib.hid (show numR bs = .error 3 by unfold numR; rw [HN.out, Hbad.out, decide_eq_true hm0]; simp)
        have T0_0 := T0.out.load.1
        have T0_f0 := T0.out.f0 0
        have T0_1 := T0.out.load.2.1
        have T0_f1 := T0.out.f0 1
        have T0_2 := T0.out.load.2.2.1
        have T0_f2 := T0.out.f0 2
        have T0_3 := T0.out.load.2.2.2
        have T0_f3 := T0.out.f0 3
        go_wp2_with fail
        clear T0_0 T0_f0 T0_1 T0_f1 T0_2 T0_f2 T0_3 T0_f3
        have hu := upd4 w7 b0 (.int .i64 0) (.string ⟨#[]⟩) (.int .i64 0) (.int .i64 0)
        have T0 := Lib.hid (T0.out.set (.int .i64 0) (.string ⟨#[]⟩) (.int .i64 0) (.int .i64 0))
        have G := Lib.hid (G.out.four Hb0.out (.int .i64 0) (.string ⟨#[]⟩) (.int .i64 0) (.int .i64 0))
        clear hu
        generalize (((w7.setCell _ _).setCell _ _).setCell _ _).setCell _ _ = W7 at G T0 ⊢
        have T0_0 := T0.out.load.1
        have T0_1 := T0.out.load.2.1
        have T0_2 := T0.out.load.2.2.1
        have T0_3 := T0.out.load.2.2.2
        refine bodyPost_ret (by simp [results, Tryd.results36, go_sem, T0_0, T0_1, T0_2, T0_3]; rfl) rfl ?_
        exact ⟨_, rfl, G.out, by rw [He.out]; rfl⟩
      · have hm0' : ¬ (0 : Int) < (m : Int) := by omega
        have Hno := Lib.hid (show numR bs = if 1048576 < numV (bs.takeWhile isDi) then .error 2 else .ok ⟨3, bs.takeWhile isDi, numV (bs.takeWhile isDi), 0⟩ by
          unfold numR
          rw [HN.out, Hbad.out, decide_eq_false hm0, Bool.or_false]
          split
          · rename_i h
            simp only [Bool.and_eq_true, decide_eq_true_eq, beq_iff_eq] at h
            exact absurd h HA.out
          · rfl)
        have hex : (⟨bs.toArray⟩ : ByteArray).extract 0 n = ⟨(bs.takeWhile isDi).toArray⟩ := by
          rw [ByteArray.extract_mk]
          have h2 : bs.take n = bs.takeWhile isDi := by
            rw [← HN.out]; exact (List.prefix_iff_eq_take.1 (List.takeWhile_prefix (p := isDi) (l := bs))).symm
          simp [h2]
        obtain ⟨t, ht⟩ : ∃ t, bs.takeWhile isDi = t := ⟨_, rfl⟩
        rw [ht] at hex
        have Ht := Lib.hid ht
        have Htn := Lib.hid (show t.length = n by rw [← ht]; exact HN.out)
        have Hdi := Lib.hid (show ∀ c ∈ t, isDi c = true by rw [← ht]; exact fun c hc => List.all_eq_true.1 (List.all_takeWhile (p := isDi) (l := bs)) c hc)
        have hnum : numR bs = if 1048576 < numV t then .error 2 else .ok ⟨3, t, numV t, 0⟩ := by rw [Hno.out, ht]
        have Hnum := Lib.hid hnum
        clear ht Hno HA Hbad HN HM hnum
        have hpx := hex
        go_wp2_with fail
        clear hex hpx
        have B := box4 w7 (.int .i64 3) (.string ⟨t.toArray⟩) (.int .i64 0) (.int .i64 0) 33
        have Hb9 := Lib.hid (show ¬ w7.heap.size < w.heap.size from fun h => by have := G.out.size; omega)
        have Hd9 := Lib.hid (show b0 ≠ w7.heap.size from fun h => by have := T0.out.lt; omega)
        generalize w7.heap.size = b9 at B Hb9 Hd9 ⊢
        generalize w7.alloc _ = w8 at B ⊢
        obtain ⟨g8, h9⟩ := B
        have G := Lib.hid (G.out.trans g8)
        have T0 := Lib.hid (T0.out.grow g8)
        clear g8
        have T9 := Lib.hid h9
        clear h9
        obtain ⟨cap, W, hcv, gW, hB⟩ := bytes_all w8 t
        rw [Htn.out] at hcv
        have Hd8 := Lib.hid (show w8.heap.size ≠ b9 from fun h => by have := T9.out.lt; omega)
        generalize w8.heap.size = bb at hcv hB Hd8
        have G := Lib.hid (G.out.trans gW)
        have T0 := Lib.hid (T0.out.grow gW)
        have T9 := Lib.hid (T9.out.grow gW)
        clear gW
        have HB := Lib.hid hB
        clear hB
        rw [hcv]
        go_simp
        go_wp2_with fail
        clear hcv
        go_loopw [38] (fun i w1 => ∃ k : Nat, k ≤ n ∧ i = .int .i64 k ∧ numV (t.take k) ≤ 1048576 ∧ Four w1 b0 (.int .i64 0) (.string ⟨#[]⟩) (.int .i64 0) (.int .i64 0) ∧ Four w1 b9 (.int .i64 3) (.string ⟨t.toArray⟩) (.int .i64 (numV (t.take k) : Nat)) (.int .i64 0) ∧ BytesAt w1 bb t ∧ Gr w w1) (fun i _ => n - (RowKit.intOf i).toNat)
        case atStart => exact ⟨0, Nat.zero_le _, rfl, by simp [numV], T0.out, T9.out, HB.out, G.out⟩
        case round =>
          clear G T0 T9 HB
          obtain ⟨k, hk, rfl, hX, t0, t9, hB, hg⟩ := hrel
          have T0 := Lib.hid t0
          have T9 := Lib.hid t9
          have HB := Lib.hid hB
          have G := Lib.hid hg
          clear t0 t9 hB hg
          obtain ⟨X, hXe⟩ : ∃ X, numV (t.take k) = X := ⟨_, rfl⟩
          rw [hXe] at hX T9
          have HX := Lib.hid hXe
          clear hXe
          by_cases hlt : k < n
          · have hkt : k < t.length := by rw [Htn.out]; exact hlt
            obtain ⟨c, hc⟩ : ∃ c, t[k]? = some c := ⟨_, List.getElem?_eq_getElem hkt⟩
            have cell := HB.out k c hc
            have hd := Hdi.out c (List.mem_of_getElem? hc)
            have Hs := Lib.hid (show numV (t.take (k + 1)) = 10 * X + (c.toNat - 48) by rw [List.take_add_one, hc]; show numV (_ ++ [c]) = _; rw [numV_snoc, HX.out])
            unfold isDi at hd
            simp only [Bool.and_eq_true, decide_eq_true_eq] at hd
            obtain ⟨hd1, hd2⟩ := hd
            obtain ⟨u, hu⟩ : ∃ u, c.toNat = u := ⟨_, rfl⟩
            rw [hu] at cell hd1 hd2 Hs
            clear hc hkt hu
            have T9_2 := T9.out.load.2.2.1
            have T9_f := T9.out.f0 2
            obtain ⟨Y, hY⟩ : ∃ Y, 10 * X + (u - 48) = Y := ⟨_, rfl⟩
            have E1 : 10 * (X : Int) + ((u : Int) - 48) = (Y : Int) := by omega
            have T0u := T0.out.upd (upd1 wr b9 2 (.int .i64 (Y : Int))) Hd9.out
            have T9u := T9.out.set2 (.int .i64 (Y : Int))
            have HBu := HB.out.upd (upd1 wr b9 2 (.int .i64 (Y : Int))) Hd8.out
            have G' := G.out.one (i := 2) Hb9.out (.int .i64 (Y : Int))
            have x0 := T0.out.load.1
            have x1 := T0.out.load.2.1
            have x2 := T0.out.load.2.2.1
            have x3 := T0.out.load.2.2.2
            have y0 := T0.out.f0 0
            have y1 := T0.out.f0 1
            have y2 := T0.out.f0 2
            have y3 := T0.out.f0 3
            have T0u := Lib.hid T0u
            have T9u := Lib.hid T9u
            have HBu := Lib.hid HBu
            have G' := Lib.hid G'
            by_cases hbig : 1048576 < Y
            · have hbig' : (1048576 : Int) < (Y : Int) := by omega
              have He := Lib.hid (show numR bs = .error 2 by
                rw [Hnum.out, if_pos]
                have := numV_le t (k + 1)
                rw [Hs.out] at this
                omega)
              have hne := Hd9.out
              have hne2 := Hd9.out.symm
              go_wp2_with fail
              clear hne hne2 x0 x1 x2 x3 y0 y1 y2 y3 T9_2 T9_f cell HBu T9u
              have T0 := T0u
              have G := G'
              clear T0u G'
              generalize wr.setCell ⟨b9, 2, none⟩ _ = w10 at T0 G ⊢
              have hu := upd4 w10 b0 (.int .i64 0) (.string ⟨#[]⟩) (.int .i64 0) (.int .i64 0)
              have T0 := Lib.hid (T0.out.set (.int .i64 0) (.string ⟨#[]⟩) (.int .i64 0) (.int .i64 0))
              have G := Lib.hid (G.out.four Hb0.out (.int .i64 0) (.string ⟨#[]⟩) (.int .i64 0) (.int .i64 0))
              clear hu
              generalize (((w10.setCell _ _).setCell _ _).setCell _ _).setCell _ _ = W10 at G T0 ⊢
              have T0_0 := T0.out.load.1
              have T0_1 := T0.out.load.2.1
              have T0_2 := T0.out.load.2.2.1
              have T0_3 := T0.out.load.2.2.2
              refine bodyPost_ret (by simp [results, Tryd.results36, go_sem, T0_0, T0_1, T0_2, T0_3]; rfl) rfl ?_
              exact ⟨_, rfl, G.out, by rw [He.out]; rfl⟩
            · have hbig' : ¬ (1048576 : Int) < (Y : Int) := by omega
              go_wp2_with fail
              refine ⟨⟨k + 1, by omega, by go_num, ?_, T0u.out, ?_, HBu.out, G'.out⟩, by simp [RowKit.intOf]; omega⟩
              · rw [Hs.out]; omega
              · rw [Hs.out, hY]; exact T9u.out
          · obtain rfl : k = n := by omega
            have htk : t.take k = t := List.take_of_length_le (by rw [Htn.out]; exact Nat.le_refl _)
            have HX' := Lib.hid (show numV t = X by rw [← htk]; exact HX.out)
            have He := Lib.hid (show numR bs = .ok ⟨3, t, X, 0⟩ by rw [Hnum.out, HX'.out, if_neg (by omega)])
            clear htk
            have T0_0 := T0.out.load.1
            have T0_f0 := T0.out.f0 0
            have T0_1 := T0.out.load.2.1
            have T0_f1 := T0.out.f0 1
            have T0_2 := T0.out.load.2.2.1
            have T0_f2 := T0.out.f0 2
            have T0_3 := T0.out.load.2.2.2
            have T0_f3 := T0.out.f0 3
            have T9_0 := T9.out.load.1
            have T9_f0 := T9.out.f0 0
            have T9_1 := T9.out.load.2.1
            have T9_f1 := T9.out.f0 1
            have T9_2 := T9.out.load.2.2.1
            have T9_f2 := T9.out.f0 2
            have T9_3 := T9.out.load.2.2.2
            have T9_f3 := T9.out.f0 3
            go_wp2_with fail
            clear T0_0 T0_f0 T0_1 T0_f1 T0_2 T0_f2 T0_3 T0_f3 T9_0 T9_f0 T9_1 T9_f1 T9_2 T9_f2 T9_3 T9_f3
            have hu := upd4 wr b0 (.int .i64 3) (.string ⟨t.toArray⟩) (.int .i64 X) (.int .i64 0)
            have T0 := Lib.hid (T0.out.set (.int .i64 3) (.string ⟨t.toArray⟩) (.int .i64 X) (.int .i64 0))
            have G := Lib.hid (G.out.four Hb0.out (.int .i64 3) (.string ⟨t.toArray⟩) (.int .i64 X) (.int .i64 0))
            clear hu
            generalize (((wr.setCell _ _).setCell _ _).setCell _ _).setCell _ _ = W10 at G T0 ⊢
            have T0_0 := T0.out.load.1
            have T0_1 := T0.out.load.2.1
            have T0_2 := T0.out.load.2.2.1
            have T0_3 := T0.out.load.2.2.2
            refine bodyPost_ret (by simp [results, Tryd.results36, go_sem, T0_0, T0_1, T0_2, T0_3]; rfl) rfl ?_
            exact ⟨_, rfl, G.out, by rw [He.out]; rfl⟩
end Go.Proofs.YtakcolmgbahgiaaDoor

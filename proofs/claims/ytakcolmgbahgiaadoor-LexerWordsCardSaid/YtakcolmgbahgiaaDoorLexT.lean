/-
  LexerComments.
-/
import Derived.Test.YtakcolmgbahgiaaDoorLexS
namespace Go.Proofs.YtakcolmgbahgiaaDoor
open Go.RowKit Go.Lib Lex
set_option linter.unusedVariables false
set_option linter.unusedSimpArgs false

theorem skip_more (cm : List UInt8) (h : ∀ c ∈ cm, c ≠ 10) : ∀ c, skipS c ([32, 35] ++ (cm ++ [10, 9])) = some false := by
  have key : ∀ l : List UInt8, (∀ c ∈ l, c ≠ 10) → skipS true (l ++ [10, 9]) = some false := by
    intro l
    induction l with
    | nil => intro _; rfl
    | cons b l ih =>
      intro h
      show skipS (b != 10) (l ++ [10, 9]) = _
      have : (b != 10) = true := by simpa using h b List.mem_cons_self
      rw [this]
      exact ih fun c hc => h c (List.mem_cons_of_mem _ hc)
  intro c
  cases c
  · show skipS true (cm ++ [10, 9]) = _
    exact key cm h
  · show skipS (35 != 10) (cm ++ [10, 9]) = _
    exact key cm h
theorem moved_at {l : List Tok} {i d : Nat} (hi : i ≤ l.length) : (l.take i ++ (l.drop i).map (Lex.shift d)).length = l.length ∧ ∀ (j : Nat) (x : Tok), l[j]? = some x → (l.take i ++ (l.drop i).map (Lex.shift d))[j]? = some (if j < i then x else Lex.shift d x) := by
  refine ⟨by simp; omega, fun j x hx => ?_⟩
  have hlen : (l.take i).length = i := by rw [List.length_take]; omega
  by_cases hj : j < i
  · rw [List.getElem?_append_left (by omega), List.getElem?_take, if_pos hj, hx, if_pos hj]
  · rw [List.getElem?_append_right (by omega), hlen, List.getElem?_map, List.getElem?_drop, show i + (j - i) = j by omega, hx, if_neg hj]; rfl
theorem str_app (a b : List UInt8) : (⟨a.toArray⟩ : ByteArray) ++ ⟨b.toArray⟩ = ⟨(a ++ b).toArray⟩ := by
  apply ByteArray.ext
  simp

set_option maxRecDepth 100000 in
set_option maxHeartbeats 1600000 in
theorem law_LexerComments (w : World) (ht : Tab w) (s cm : ByteArray) (q : Nat) (hq : q < 256) : Calls Tryd.prog 7 #[.string s, .string cm, .int .u8 (q : Int)] w (Ret w fun r _ => r = .bool true) := by
  obtain ⟨bs, rfl, hs⟩ := str_of s
  obtain ⟨cs, rfl, hs2⟩ := str_of cm
  have HT := Lib.hid ht
  have G := Lib.hid (Gr.refl w)
  clear ht hs hs2
  go_enter Tryd.func7, Tryd.ntmps7
  go_wp2_with fail
  refine (law_awake _ HT.out).mono ?_
  rintro _ w1 ⟨_, rfl, g1, rfl⟩
  have G := Lib.hid (G.out.trans g1)
  clear g1
  by_cases hbig : 5000 < bs.length
  · have hbig' : (5000 : Int) < (bs.length : Int) := by omega
    go_wp2_with fail
    go_ret
    exact ⟨_, rfl, G.out, rfl⟩
  · have hbig' : ¬ (5000 : Int) < (bs.length : Int) := by omega
    by_cases hbig2 : 100 < cs.length
    · have hbig2' : (100 : Int) < (cs.length : Int) := by omega
      go_wp2_with fail
      go_ret
      exact ⟨_, rfl, G.out, rfl⟩
    · have hbig2' : ¬ (100 : Int) < (cs.length : Int) := by omega
      go_wp2_with fail
      go_loopw [7] (fun i w2 => ∃ j : Nat, i = .int .i64 j ∧ j ≤ cs.length ∧ (∀ c ∈ cs.take j, c ≠ 10) ∧ Gr w w2) (fun i _ => cs.length - (RowKit.intOf i).toNat)
      case atStart => exact ⟨0, rfl, Nat.zero_le _, fun c h => by simp at h, G.out⟩
      case round =>
        clear G
        obtain ⟨j, rfl, hj, hp, hg⟩ := hrel
        have HP := Lib.hid hp
        have G := Lib.hid hg
        clear hp hg
        by_cases hlt : j < cs.length
        · have hlt' : (j : Int) < (cs.length : Int) := by omega
          obtain ⟨c, hc⟩ : ∃ c, cs[j] = c := ⟨_, rfl⟩
          have hi : ∀ h, (⟨cs.toArray⟩ : ByteArray)[j]'h = c := fun h => by show cs.toArray[j] = _; simp [hc]
          have HC := Lib.hid hc
          clear hc
          by_cases h10 : c = 10
          · subst h10
            go_wp2_with fail
            go_ret
            exact ⟨_, rfl, G.out, rfl⟩
          · have e10 := u8_beq (n := 10) 10 rfl h10
            have f10 := u8_ne (n := 10) 10 rfl h10
            have H10 := Lib.hid h10
            go_wp2_with fail
            refine ⟨⟨j + 1, by go_num, by omega, fun d hd => ?_, G.out⟩, by simp [RowKit.intOf]; omega⟩
            rw [List.take_succ_eq_append_getElem hlt, HC.out, List.mem_append] at hd
            rcases hd with hd | hd
            · exact HP.out d hd
            · rw [List.mem_singleton.1 hd]; exact H10.out
        · obtain rfl : j = cs.length := by omega
          have hlt' : ¬ (cs.length : Int) < (cs.length : Int) := by omega
          have HP2 := Lib.hid (show ∀ c ∈ cs, c ≠ 10 by have := HP.out; rwa [List.take_length] at this)
          clear HP hlt
          go_wp2_with fail
          refine (lex_Scan _ (HT.out.grow G.out) bs (by omega)).mono ?_
          rintro _ w2 ⟨r2, rfl, g2, h2⟩
          have G := Lib.hid (G.out.trans g2)
          clear g2
          have H2 := Lib.hid h2
          clear h2
          cases hsc : scanX bs with
          | error pe =>
            obtain ⟨p, e⟩ := pe
            have hne := scanX_err hsc
            have hne' : ¬ (e : Int) = 0 := by omega
            have h2 := H2.out
            unfold ScanRes at h2
            rw [hsc] at h2
            obtain rfl := h2
            clear H2 hsc
            go_wp2_with fail
            go_ret
            exact ⟨_, rfl, G.out, by simp [hne]⟩
          | ok l =>
            have HC := Lib.hid (scanX_cov hsc).1
            have HS := Lib.hid hsc
            have Hll := Lib.hid (scanX_len hsc)
            clear hsc
            have h2 := H2.out
            unfold ScanRes at h2
            rw [HS.out] at h2
            obtain ⟨v2, rfl, h2⟩ := h2
            have H2 := Lib.hid h2
            clear h2
            obtain ⟨n, hn⟩ : ∃ n, l.length = n := ⟨_, rfl⟩
            have HN := Lib.hid hn
            obtain ⟨p2, c2, rfl, hc1, hc2⟩ := SlV.parts H2.out
            have hnb : n ≤ 20000 := by rw [← hn]; exact Hll.out
            have hn0 : 0 < n := by rw [← hn]; exact List.length_pos_iff.2 (cov_ne HC.out)
            rw [hn] at hc1 H2 ⊢
            clear hn
            obtain ⟨i, hi⟩ : ∃ i, q % n = i := ⟨_, rfl⟩
            have hin : i < n := by rw [← hi]; exact Nat.mod_lt _ hn0
            have E1 : (q : Int) % (n : Int) = (i : Int) := by omega
            have hn0' : ¬ (n : Int) = 0 := by omega
            obtain ⟨b, o, x, rfl, hx, c0, c1, c2', c3⟩ := H2.out.at HN.out hin
            have HX := Lib.hid hx
            have hpos := (HC.out.pos x (List.mem_of_getElem? hx)).2
            have hxp : x.pos ≤ bs.length := by omega
            have n1 : ¬ (x.pos : Int) < 0 := by omega
            have n2 : ¬ (bs.length : Int) < (x.pos : Int) := by omega
            clear hx c0 c1 c2' hpos
            go_wp2_with fail
            obtain ⟨M, hM⟩ : ∃ M, [32, 35] ++ (cs ++ [10, 9]) = M := ⟨_, rfl⟩
            obtain ⟨u, hu⟩ : ∃ u, bs.take x.pos = u := ⟨_, rfl⟩
            obtain ⟨v, hv⟩ : ∃ v, bs.drop x.pos = v := ⟨_, rfl⟩
            obtain ⟨S, hS⟩ : ∃ S, u ++ M ++ v = S := ⟨_, rfl⟩
            rw [show (⟨#[32, 35]⟩ : ByteArray) ++ ⟨cs.toArray⟩ ++ ⟨#[10, 9]⟩ = ⟨M.toArray⟩ by
              rw [show (⟨#[32, 35]⟩ : ByteArray) = ⟨[32, 35].toArray⟩ from rfl, show (⟨#[10, 9]⟩ : ByteArray) = ⟨[10, 9].toArray⟩ from rfl, str_app, str_app, ← hM, List.append_assoc]]
            have hml : M.length = cs.length + 4 := by rw [← hM]; simp
            have hul : u.length = x.pos := by rw [← hu, List.length_take]; omega
            have hSl : S.length ≤ 16384 := by
              rw [← hS, ← hv]; simp; omega
            have hcv : Cov 0 S (l.take i ++ (l.drop i).map (Lex.shift M.length)) := by
              have := HC.out.insert (more := M) (by rw [← hM]; exact skip_more cs HP2.out) (by rw [← hM]; exact (by decide : isWd 32 = false)) (by rw [← hM]; simp) i x u v HX.out (by rw [← hu, ← hv, List.take_append_drop]) (by omega)
              rw [← hS, List.append_assoc]; exact this
            have HS2 := Lib.hid (cov_scanX hcv hSl)
            have hMv := moved_at (l := l) (i := i) (d := M.length) (by rw [HN.out]; omega)
            obtain ⟨k, hk⟩ : ∃ k, l.take i ++ (l.drop i).map (Lex.shift M.length) = k := ⟨_, rfl⟩
            rw [hk] at hMv HS2
            have HM := Lib.hid hMv.2
            have hkl : k.length = n := by rw [hMv.1, HN.out]
            have hex1 := slice_str bs 0 x.pos u (by simpa using hu) (by omega) hxp
            have hex2 := drop_str bs x.pos
            rw [hv] at hex2
            have hA1 := str_app u M
            have hA2 := str_app (u ++ M) v
            rw [hS] at hA2
            obtain ⟨A, hA⟩ : ∃ A, u ++ M = A := ⟨_, rfl⟩
            rw [hA] at hA1 hA2
            have hz1 : ¬ 9223372036854775807 < u.length + M.length := by omega
            have hz2 : ¬ 9223372036854775807 < A.length + v.length := by rw [← hA, ← hv, List.length_append, List.length_drop]; omega
            have Hml := Lib.hid hml
            clear hM hu hv hS hcv hMv hk hA hul hml
            refine wp_region_fast [(0, true), (1, true), (2, true), (3, true), (4, true), (5, true), (6, true), (7, true), (8, true), (9, false), (10, true), (11, true), (12, true), (13, true), (14, true), (15, true), (16, true)] (by kernel_rfl) (by kernel_rfl) rfl (by kernel_rfl) (fun _ _ d _ _ h => by cases d <;> exact h) ?_
            have g0 : Gr w2 w2.drew := (Gr.refl _).drew
            have G := Lib.hid (G.out.trans g0)
            have H2 := Lib.hid (H2.out.grow g0)
            repeat (refine wpE_readB (v := ?_) g0 rfl rfl (fun w' hg => ?_) (fun K hK => ?_); rotate_left; (go_simp; rfl); go_simp; refine hK _ _ ?_; clear hK K)
            refine wpE_fn (args := ?_) rfl rfl rfl rfl rfl rfl (by kernel_rfl) (by kernel_rfl) ?_ (fun K hK => ?_)
            rotate_left
            · go_simp; rfl
            refine (lex_Scan _ (HT.out.grow G.out) S (by omega)).mono ?_
            rintro _ w4 ⟨r4, rfl, g4, h4⟩
            refine ⟨_, rfl, g4, ?_⟩
            go_simp
            refine hK _ _ ?_
            clear hK K
            have G := Lib.hid (G.out.trans g4)
            have H2 := Lib.hid (H2.out.grow g4)
            replace g0 := g0.trans g4
            clear g4
            have H4 := Lib.hid h4
            clear h4
            have h4 := H4.out
            unfold ScanRes at h4
            rw [HS2.out] at h4
            obtain ⟨v4, rfl, h4⟩ := h4
            have H4 := Lib.hid h4
            clear h4
            repeat (refine wpE_readB (v := ?_) g0 rfl rfl (fun w' hg => ?_) (fun K hK => ?_); rotate_left; (go_simp; rfl); go_simp; refine hK _ _ ?_; clear hK K)
            refine wpE_nil ?_
            clear g0
            clear hex1 hex2 hA1 hA2
            have HKL := Lib.hid hkl
            obtain ⟨p4, c4, rfl, hc3, hc4⟩ := SlV.parts H4.out
            rw [hkl] at hc3 H4 ⊢
            clear hkl
            go_wp2_with fail
            go_loopw [17] (fun z w3 => ∃ j : Nat, z = .int .i64 j ∧ j ≤ n ∧ TokS w3 (.slice (some ⟨b, o, none⟩) n c2) l ∧ TokS w3 (.slice p4 n c4) k ∧ Gr w w3) (fun z _ => n - (RowKit.intOf z).toNat)
            case atStart => exact ⟨0, rfl, Nat.zero_le _, H2.out, H4.out, G.out⟩
            case round =>
              clear H2 H4 G
              obtain ⟨j, rfl, hj, h2, h4, hg⟩ := hrel
              have H2 := Lib.hid h2
              have H4 := Lib.hid h4
              have G := Lib.hid hg
              clear h2 h4 hg
              by_cases hlt : j < n
              · have hlt' : (j : Int) < (n : Int) := by omega
                obtain ⟨_, _, y, hbo, hy, e0, e1, e2, e3⟩ := H2.out.at HN.out hlt
                cases hbo
                obtain ⟨b', o', z, rfl, hz, d0, d1, d2, d3⟩ := H4.out.at HKL.out hlt
                have hzy := HM.out j y hy
                rw [hz] at hzy
                have hyp := (HC.out.pos y (List.mem_of_getElem? hy)).2
                have hyp2 : y.pos ≤ 5000 := by omega
                have hml2 : M.length ≤ 104 := by have := Hml.out; omega
                clear hy hz hyp
                by_cases hji : j < i
                · have hji' : ¬ (i : Int) ≤ (j : Int) := by omega
                  rw [if_pos hji] at hzy
                  obtain rfl : y = z := by simpa using hzy.symm
                  clear hzy
                  go_wp2_with fail
                  have B := box4 wr (.int .i64 (y.kind : Nat)) (.string ⟨y.text.toArray⟩) (.int .i64 (y.num : Nat)) (.int .i64 (y.pos : Nat)) 33
                  have d0 := fun w' (g : Gr wr w') => g.cell d0
                  have d1 := fun w' (g : Gr wr w') => g.cell d1
                  have d2 := fun w' (g : Gr wr w') => g.cell d2
                  have d3 := fun w' (g : Gr wr w') => g.cell d3
                  clear e0 e1 e2 e3
                  generalize wr.heap.size = b8 at B ⊢
                  generalize wr.alloc _ = w6 at B ⊢
                  obtain ⟨g6, t8⟩ := B
                  have d0 := fun w' (g : Gr w6 w') => d0 w' (g6.trans g)
                  have d1 := fun w' (g : Gr w6 w') => d1 w' (g6.trans g)
                  have d2 := fun w' (g : Gr w6 w') => d2 w' (g6.trans g)
                  have d3 := fun w' (g : Gr w6 w') => d3 w' (g6.trans g)
                  have G := Lib.hid (G.out.trans g6)
                  have H2 := Lib.hid (H2.out.grow g6)
                  have H4 := Lib.hid (H4.out.grow g6)
                  clear g6
                  have T8 := Lib.hid t8
                  clear t8
                  refine wp_region_fast [(0, true), (1, true), (2, true), (3, true), (4, true), (5, true)] (by kernel_rfl) (by kernel_rfl) rfl (by kernel_rfl) (fun _ _ d _ _ h => by cases d <;> exact h) ?_
                  have T8_0 := T8.out.c0
                  have T8_1 := T8.out.c1
                  have T8_2 := T8.out.c2
                  have T8_3 := T8.out.c3
                  have g0 : Gr w6 w6.drew := (Gr.refl _).drew
                  have G := Lib.hid (G.out.trans g0)
                  have T8 := Lib.hid (T8.out.grow g0)
                  have H2 := Lib.hid (H2.out.grow g0)
                  have H4 := Lib.hid (H4.out.grow g0)
                  repeat (refine wpE_readB (v := ?_) g0 rfl rfl (fun w' hg => ?_) (fun K hK => ?_); rotate_left; (go_simp; rfl); go_simp; refine hK _ _ ?_; clear hK K)
                  refine wpE_nil ?_
                  clear g0
                  clear T8_0 T8_1 T8_2 T8_3
                  go_wp2_with fail
                  refine ⟨⟨j + 1, by go_num, by omega, H2.out, H4.out, G.out⟩, by simp [RowKit.intOf]; omega⟩
                · have hji' : (i : Int) ≤ (j : Int) := by omega
                  rw [if_neg hji] at hzy
                  obtain rfl : z = Lex.shift M.length y := by simpa using hzy
                  clear hzy
                  obtain ⟨P, hP⟩ : ∃ P, y.pos + M.length = P := ⟨_, rfl⟩
                  have E2 : (y.pos : Int) + (M.length : Int) = (P : Int) := by omega
                  have d0 : _ = some (Value.int .i64 (y.kind : Nat)) := d0
                  have d1 : _ = some (Value.string ⟨y.text.toArray⟩) := d1
                  have d2 : _ = some (Value.int .i64 (y.num : Nat)) := d2
                  have d3 : _ = some (Value.int .i64 ((y.pos + M.length : Nat) : Int)) := d3
                  rw [hP] at d3
                  go_wp2_with fail
                  have B := box4 wr (.int .i64 (y.kind : Nat)) (.string ⟨y.text.toArray⟩) (.int .i64 (y.num : Nat)) (.int .i64 (P : Nat)) 33
                  have d0 := fun w' (g : Gr wr w') => g.cell d0
                  have d1 := fun w' (g : Gr wr w') => g.cell d1
                  have d2 := fun w' (g : Gr wr w') => g.cell d2
                  have d3 := fun w' (g : Gr wr w') => g.cell d3
                  clear e0 e1 e2 e3
                  generalize wr.heap.size = b8 at B ⊢
                  generalize wr.alloc _ = w6 at B ⊢
                  obtain ⟨g6, t8⟩ := B
                  have d0 := fun w' (g : Gr w6 w') => d0 w' (g6.trans g)
                  have d1 := fun w' (g : Gr w6 w') => d1 w' (g6.trans g)
                  have d2 := fun w' (g : Gr w6 w') => d2 w' (g6.trans g)
                  have d3 := fun w' (g : Gr w6 w') => d3 w' (g6.trans g)
                  have G := Lib.hid (G.out.trans g6)
                  have H2 := Lib.hid (H2.out.grow g6)
                  have H4 := Lib.hid (H4.out.grow g6)
                  clear g6
                  have T8 := Lib.hid t8
                  clear t8
                  refine wp_region_fast [(0, true), (1, true), (2, true), (3, true), (4, true), (5, true)] (by kernel_rfl) (by kernel_rfl) rfl (by kernel_rfl) (fun _ _ d _ _ h => by cases d <;> exact h) ?_
                  have T8_0 := T8.out.c0
                  have T8_1 := T8.out.c1
                  have T8_2 := T8.out.c2
                  have T8_3 := T8.out.c3
                  have g0 : Gr w6 w6.drew := (Gr.refl _).drew
                  have G := Lib.hid (G.out.trans g0)
                  have T8 := Lib.hid (T8.out.grow g0)
                  have H2 := Lib.hid (H2.out.grow g0)
                  have H4 := Lib.hid (H4.out.grow g0)
                  repeat (refine wpE_readB (v := ?_) g0 rfl rfl (fun w' hg => ?_) (fun K hK => ?_); rotate_left; (go_simp; rfl); go_simp; refine hK _ _ ?_; clear hK K)
                  refine wpE_nil ?_
                  clear g0
                  clear T8_0 T8_1 T8_2 T8_3
                  go_wp2_with fail
                  refine ⟨⟨j + 1, by go_num, by omega, H2.out, H4.out, G.out⟩, by simp [RowKit.intOf]; omega⟩
              · obtain rfl : n = j := by omega
                go_wp2_with fail
                go_ret
                exact ⟨_, rfl, G.out, rfl⟩
end Go.Proofs.YtakcolmgbahgiaaDoor

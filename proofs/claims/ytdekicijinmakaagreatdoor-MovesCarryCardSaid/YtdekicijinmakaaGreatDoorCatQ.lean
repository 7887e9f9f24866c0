/-
  exodusref15.names.
-/
import Derived.Test.YtdekicijinmakaaGreatDoorCatP
namespace Go.Proofs.YtdekicijinmakaaGreatDoor
open Go.RowKit Go.Lib Lex
set_option linter.unusedVariables false
set_option linter.unusedSimpArgs false

theorem flat_strV : ∀ l : List (List UInt8), l.flatMap encS = l.map strV
  | [] => rfl
  | x :: l => by rw [List.flatMap_cons, flat_strV l]; rfl
theorem StrL.toS {w : World} {v : Value} {l : List (List UInt8)} (h : StrL w v l) : StrS w v l := by
  have h : SlV w 1 v l.length (l.flatMap encS) := h
  rw [flat_strV] at h; exact h
theorem StrS.toL {w : World} {v : Value} {l : List (List UInt8)} (h : StrS w v l) : StrL w v l := by
  have h : SlV w 1 v l.length (l.map strV) := h
  rw [← flat_strV] at h; exact h
theorem names_len {M : Mdl} (h : Few M) : (names M).length ≤ 120 := by
  obtain ⟨h, _⟩ := h
  unfold names
  simp only [List.length_append, List.length_map]
  omega
theorem names_short {M : Mdl} (h : Few M) : ∀ s ∈ names M, s.length ≤ 100 := by
  obtain ⟨_, h0, h1, h2, h3, h4, _⟩ := h
  intro s hs
  unfold names at hs
  simp only [List.mem_append, List.mem_map] at hs
  rcases hs with hs | hs | ⟨x, hx, rfl⟩ | ⟨x, hx, rfl⟩ | ⟨x, hx, rfl⟩
  · exact h0 s hs
  · exact h1 s hs
  · exact h2 x hx
  · exact h3 x hx
  · exact (h4 x hx).1
set_option maxRecDepth 100000 in
set_option maxHeartbeats 800000 in
theorem ref_names (w : World) (P : Ptrs) (M : Mdl) (hm : MdlAt w P M) (hf : Few M) :
    Calls Tryz.prog 60 #[.agg (mcells P M)] w (Ret w fun r _ => Tells (NamesOK (names M)) r) := by
  have HF := Lib.hid hf
  clear hf
  have HM := Lib.hid hm
  have B := Cells.new w (mcells P M) 29
  clear hm
  have m0 := mc0 B.2 _ (Gr.refl _)
  have m1 := mc1 B.2 _ (Gr.refl _)
  have m2 := mc2 B.2 _ (Gr.refl _)
  have m3 := mc3 B.2 _ (Gr.refl _)
  have m4 := mc4 B.2 _ (Gr.refl _)
  have m5 := mc5 B.2 _ (Gr.refl _)
  have m6 := mc6 B.2 _ (Gr.refl _)
  have m7 := mc7 B.2 _ (Gr.refl _)
  have m8 := mc8 B.2 _ (Gr.refl _)
  have m9 := mc9 B.2 _ (Gr.refl _)
  have m10 := mc10 B.2 _ (Gr.refl _)
  unfold mcells at B m0 m1 m2 m3 m4 m5 m6 m7 m8 m9 m10 ⊢
  go_enter Tryz.func60, Tryz.ntmps60
  go_wp2_with fail
  clear m0 m1 m2 m3 m4 m5 m6 m7 m8 m9 m10
  generalize w.heap.size = bm at B ⊢
  generalize w.alloc _ = W at B ⊢
  obtain ⟨g0, tm⟩ := B
  have TM := Lib.hid (show Cells W bm (mcells P M) from tm)
  have G := Lib.hid g0
  have HM := Lib.hid (HM.out.grow g0)
  clear g0 tm
  have m0 := mc0 TM.out _ (Gr.refl _)
  have m1 := mc1 TM.out _ (Gr.refl _)
  have m2 := mc2 TM.out _ (Gr.refl _)
  have m3 := mc3 TM.out _ (Gr.refl _)
  have m4 := mc4 TM.out _ (Gr.refl _)
  have m5 := mc5 TM.out _ (Gr.refl _)
  have m6 := mc6 TM.out _ (Gr.refl _)
  have m7 := mc7 TM.out _ (Gr.refl _)
  have m8 := mc8 TM.out _ (Gr.refl _)
  have m9 := mc9 TM.out _ (Gr.refl _)
  have m10 := mc10 TM.out _ (Gr.refl _)
  clear m0 m1 m2 m3 m4 m5 m6 m7 m8 m9 m10
  refine (ref_Names W P M HM.out HF.out).mono ?_
  rintro _ w1 ⟨v1, rfl, g1, h1⟩
  have HS := Lib.hid (names_short HF.out)
  have hlen := names_len HF.out
  clear HM TM
  have G := Lib.hid (G.out.trans g1)
  clear g1
  generalize hnm : names M = l at h1 HS hlen
  have HN := Lib.hid hnm
  clear hnm
  obtain ⟨p, c, rfl, hc1, hc2⟩ := h1.parts
  have HL := Lib.hid h1
  clear h1
  go_wp2_with fail
  go_loopw [4] (fun i w2 => ∃ k : Nat, i = .int .i64 k ∧ k ≤ l.length ∧ (∀ i s, i < k → l[i]? = some s → isName s = true ∧ ¬ s ∈ l.take i) ∧ Gr w1 w2) (fun i _ => l.length - (RowKit.intOf i).toNat)
  case atStart => exact ⟨0, rfl, Nat.zero_le _, fun i s hi => by omega, Gr.refl _⟩
  case round =>
    obtain ⟨k, rfl, hk, hp, hg⟩ := hrel
    have HP := Lib.hid hp
    have HL := Lib.hid (HL.out.grow hg)
    have G := Lib.hid (G.out.trans hg)
    have GL := Lib.hid hg
    clear hp hg
    by_cases hlt : k < l.length
    · have hlt' : (k : Int) < (l.length : Int) := by omega
      obtain ⟨b, o, x, rfl, hx, hc⟩ := str_at HL.out rfl hlt
      have HX := Lib.hid hx
      have hsh := HS.out x (List.mem_of_getElem? hx)
      have htk := SlL.take encS_len HL.out rfl k (by omega)
      clear hx
      go_wp2_with fail
      have g0 : Gr wr wr.drew := (Gr.refl _).drew
      have hkc : k ≤ c := by omega
      refine wp_region_fast [(0, true), (1, true), (2, true), (3, true), (4, false), (5, true), (6, true), (7, true), (8, true), (9, true), (10, true), (11, true), (12, true), (13, true), (14, false), (15, true)] (by kernel_rfl) (by kernel_rfl) rfl (by kernel_rfl) (fun _ _ d _ _ h => by cases d <;> exact h) ?_
      repeat (refine wpE_readB (v := ?_) g0 rfl rfl (fun w' hg => ?_) (fun K hK => ?_); rotate_left; (go_simp; rfl); go_simp; refine hK _ _ ?_; clear hK K)
      refine wpE_fn (args := ?_) rfl rfl rfl rfl rfl rfl (by kernel_rfl) (by kernel_rfl) ?_ (fun K hK => ?_)
      rotate_left
      · go_simp; rfl
      refine (ref_IsName _ x (by omega)).mono ?_
      rintro _ w4 ⟨_, rfl, g4, rfl⟩
      refine ⟨_, rfl, g4, ?_⟩
      go_simp
      refine hK _ _ ?_
      clear hK K
      replace g0 := g0.trans g4
      obtain ⟨t, ht⟩ : ∃ t, isName x = t := ⟨_, rfl⟩
      rw [ht]
      have HT := Lib.hid ht
      clear ht
      cases t
      · repeat (refine wpE_readB (v := ?_) g0 rfl rfl (fun w' hg => ?_) (fun K hK => ?_); rotate_left; (go_simp; rfl); go_simp; refine hK _ _ ?_; clear hK K)
        repeat (refine wpE_skip rfl rfl ?_; go_simp)
        repeat (refine wpE_readB (v := ?_) g0 rfl rfl (fun w' hg => ?_) (fun K hK => ?_); rotate_left; (go_simp; rfl); go_simp; refine hK _ _ ?_; clear hK K)
        refine wpE_nil ?_
        have G := Lib.hid (G.out.trans g0)
        clear hc htk
        go_wp2_with fail
        try rw [Exit.noGoto_ret]
        go_ret
        exact ⟨_, rfl, G.out, Tells.no fun h => by rw [HN.out] at h; have := (h k x HX.out).1; rw [HT.out] at this; cases this⟩
      · repeat (refine wpE_readB (v := ?_) g0 rfl rfl (fun w' hg => ?_) (fun K hK => ?_); rotate_left; (go_simp; rfl); go_simp; refine hK _ _ ?_; clear hK K)
        refine wpE_fn (args := ?_) rfl rfl rfl rfl rfl rfl (by kernel_rfl) (by kernel_rfl) ?_ (fun K hK => ?_)
        rotate_left
        · go_simp; rfl
        have hHas := ref_Has w4 _ (l.take k) x (StrL.toS (SlL.grow htk g0)) (by rw [List.length_take]; omega)
        obtain ⟨t, ht⟩ : ∃ t, (l.take k).contains x = t := ⟨_, rfl⟩
        rw [ht] at hHas
        have HC := Lib.hid ht
        clear ht
        refine hHas.mono ?_
        rintro _ w5 ⟨_, rfl, g5, rfl⟩
        clear hHas
        refine ⟨_, rfl, g5, ?_⟩
        go_simp
        refine hK _ _ ?_
        clear hK K
        replace g0 := g0.trans g5
        cases t
        · repeat (refine wpE_readB (v := ?_) g0 rfl rfl (fun w' hg => ?_) (fun K hK => ?_); rotate_left; (go_simp; rfl); go_simp; refine hK _ _ ?_; clear hK K)
          refine wpE_nil ?_
          have G0 := Lib.hid g0
          clear hc htk g0 g4 g5
          go_wp2_with fail
          refine ⟨⟨k + 1, by go_num, by omega, fun i s hi hs => ?_, GL.out.trans G0.out⟩, by simp [RowKit.intOf]; omega⟩
          rcases Nat.lt_or_ge i k with h | h
          · exact HP.out i s h hs
          · obtain rfl : i = k := by omega
            have e : s = x := by have := hs.symm.trans HX.out; simpa using this
            subst e
            exact ⟨HT.out, fun hm => by have := HC.out; rw [List.contains_iff_mem.2 hm] at this; cases this⟩
        · repeat (refine wpE_readB (v := ?_) g0 rfl rfl (fun w' hg => ?_) (fun K hK => ?_); rotate_left; (go_simp; rfl); go_simp; refine hK _ _ ?_; clear hK K)
          refine wpE_nil ?_
          have G := Lib.hid (G.out.trans g0)
          clear hc htk g0 g4 g5
          go_wp2_with fail
          try rw [Exit.noGoto_ret]
          go_ret
          exact ⟨_, rfl, G.out, Tells.no fun h => by rw [HN.out] at h; exact (h k x HX.out).2 (List.contains_iff_mem.1 HC.out)⟩
    · obtain rfl : k = l.length := by omega
      go_wp2_with fail
      try rw [Exit.noGoto_ret]
      go_ret
      exact ⟨_, rfl, G.out, Tells.yes (by rw [HN.out]; exact fun i s hs => HP.out i s (List.getElem?_eq_some_iff.1 hs).1 hs)⟩
end Go.Proofs.YtdekicijinmakaaGreatDoor

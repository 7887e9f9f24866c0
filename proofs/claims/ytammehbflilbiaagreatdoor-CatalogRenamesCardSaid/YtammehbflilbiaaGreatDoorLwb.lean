/-
  exoduslaw15.named.
-/
import Derived.Test.YtammehbflilbiaaGreatDoorCatP
import Derived.Test.YtammehbflilbiaaGreatDoorCatQ
import Derived.Test.YtammehbflilbiaaGreatDoorPln
namespace Go.Proofs.YtammehbflilbiaaGreatDoor
open Go.RowKit Go.Lib Lex
set_option linter.unusedVariables false
set_option linter.unusedSimpArgs false

set_option maxRecDepth 100000 in
set_option maxHeartbeats 1600000 in
theorem law_named (w : World) (P : Ptrs) (M : Mdl) (k n : Int) (hm : MdlAt w P M) (hf : Few M) (hi : -9223372036854775808 ≤ n ∧ n ≤ 9223372036854775807) :
    Calls Tryz.prog 14 #[.agg (mcells P M), .int .i64 k, .int .i64 n] w (Ret w fun r _ => r = .string ⟨(namedM M k n).toArray⟩) := by
  have HF := Lib.hid hf
  clear hf
  have hfew := HF.out.1
  have hwa : IntKind.i64.wrap ((M.sites.length : Int) + (M.feeds.length : Int)) = (M.sites.length : Int) + (M.feeds.length : Int) := by rw [IntKind.wrap_i64]; omega
  have hwb : IntKind.i64.wrap ((M.sites.length : Int) + (M.feeds.length : Int) + (M.racks.length : Int)) = (M.sites.length : Int) + (M.feeds.length : Int) + (M.racks.length : Int) := by rw [IntKind.wrap_i64]; omega
  have hwc : IntKind.i64.wrap ((M.sites.length : Int) + (M.feeds.length : Int) + (M.racks.length : Int) + (M.machs.length : Int)) = (M.sites.length : Int) + (M.feeds.length : Int) + (M.racks.length : Int) + (M.machs.length : Int) := by rw [IntKind.wrap_i64]; omega
  by_cases k0 : k = 0
  · subst k0
    have HM := Lib.hid hm
    have B := Cells.new w (mcells P M) 29
    clear hm
    have m0 := mc0 B.2 _ (Gr.refl _)
    have m1 := mc1 B.2 _ (Gr.refl _)
    have m2 := mc2 B.2 _ (Gr.refl _)
    have m3 := mc3 B.2 _ (Gr.refl _)
    have m4 := mc4 B.2 _ (Gr.refl _)
    have m5 := mc5 B.2 _ (Gr.refl _)
    have m6 := mc6 B.2 _ (Gr.refl _)
    have m7 := mc7 B.2 _ (Gr.refl _)
    have m8 := mc8 B.2 _ (Gr.refl _)
    have m9 := mc9 B.2 _ (Gr.refl _)
    have m10 := mc10 B.2 _ (Gr.refl _)
    unfold mcells at B m0 m1 m2 m3 m4 m5 m6 m7 m8 m9 m10 ⊢
    go_enter Tryz.func14, Tryz.ntmps14
    go_wp2_with fail
    clear m0 m1 m2 m3 m4 m5 m6 m7 m8 m9 m10
    generalize w.heap.size = bm at B ⊢
    generalize w.alloc _ = W at B ⊢
    obtain ⟨g0, tm⟩ := B
    have TM := Lib.hid (show Cells W bm (mcells P M) from tm)
    have G := Lib.hid g0
    have HM := Lib.hid (HM.out.grow g0)
    clear g0 tm
    have m0 := mc0 TM.out _ (Gr.refl _)
    have m1 := mc1 TM.out _ (Gr.refl _)
    have m2 := mc2 TM.out _ (Gr.refl _)
    have m3 := mc3 TM.out _ (Gr.refl _)
    have m4 := mc4 TM.out _ (Gr.refl _)
    have m5 := mc5 TM.out _ (Gr.refl _)
    have m6 := mc6 TM.out _ (Gr.refl _)
    have m7 := mc7 TM.out _ (Gr.refl _)
    have m8 := mc8 TM.out _ (Gr.refl _)
    have m9 := mc9 TM.out _ (Gr.refl _)
    have m10 := mc10 TM.out _ (Gr.refl _)
    clear m0 m1 m2 m3 m4 m5 m6 m7 m8 m9 m10
    have g0 : Gr W (W).drew := (Gr.refl _).drew
    have m0 := mc0 TM.out
    have m1 := mc1 TM.out
    have m2 := mc2 TM.out
    have m3 := mc3 TM.out
    have m4 := mc4 TM.out
    have m5 := mc5 TM.out
    have m6 := mc6 TM.out
    have m7 := mc7 TM.out
    have m8 := mc8 TM.out
    have m9 := mc9 TM.out
    have m10 := mc10 TM.out
    try dsimp only at m0 m1 m2 m3 m4 m5 m6 m7 m8 m9 m10
    refine wp_region_fast [(0, true), (1, true), (2, true), (3, true), (4, true)] (by kernel_rfl) (by kernel_rfl) rfl (by kernel_rfl) (fun _ _ d _ _ h => by cases d <;> exact h) ?_
    repeat (refine wpE_readB (v := ?_) g0 rfl rfl (fun w' hg => ?_) (fun K hK => ?_); rotate_left; (go_simp; rfl); go_simp; refine hK _ _ ?_; clear hK K)
    refine wpE_nil ?_
    clear m0 m1 m2 m3 m4 m5 m6 m7 m8 m9 m10
    have G := Lib.hid (G.out.trans g0)
    have TM := Lib.hid (TM.out.grow g0)
    have HM := Lib.hid (HM.out.grow g0)
    clear g0
    generalize (W).drew = W1 at G TM HM ⊢
    by_cases n1 : n < 1
    · have HN := Lib.hid n1
      go_wp2_with fail
      try rw [Exit.noGoto_ret]
      go_ret
      exact ⟨_, rfl, G.out, by unfold namedM; rw [if_pos (.inl HN.out)]; rfl⟩
    · have HN := Lib.hid n1
      have n1 : 1 ≤ n := by omega
      by_cases n2 : (M.sites.length : Int) < n
      · have HN2 := Lib.hid n2
        go_wp2_with fail
        try rw [Exit.noGoto_ret]
        go_ret
        exact ⟨_, rfl, G.out, by unfold namedM; rw [if_pos (.inr (by rw [show sizeOf' M 0 = M.sites.length from rfl]; exact HN2.out))]; rfl⟩
      · have HN2 := Lib.hid n2
        have n2 : n ≤ (M.sites.length : Int) := by omega
        have m0 := mc0 TM.out _ (Gr.refl _)
        have m1 := mc1 TM.out _ (Gr.refl _)
        have m2 := mc2 TM.out _ (Gr.refl _)
        have m3 := mc3 TM.out _ (Gr.refl _)
        have m4 := mc4 TM.out _ (Gr.refl _)
        have m5 := mc5 TM.out _ (Gr.refl _)
        have m6 := mc6 TM.out _ (Gr.refl _)
        have m7 := mc7 TM.out _ (Gr.refl _)
        have m8 := mc8 TM.out _ (Gr.refl _)
        have m9 := mc9 TM.out _ (Gr.refl _)
        have m10 := mc10 TM.out _ (Gr.refl _)
        go_wp2_with fail
        clear m0 m1 m2 m3 m4 m5 m6 m7 m8 m9 m10
        refine (ref_Names _ P M HM.out HF.out).mono ?_
        rintro _ w2 ⟨v2, rfl, g2, hs⟩
        have G := Lib.hid (G.out.trans g2)
        have TM := Lib.hid (TM.out.grow g2)
        have HM := Lib.hid (HM.out.grow g2)
        clear g2
        obtain ⟨p, c, rfl, _, _⟩ := hs.parts
        have hfew := HF.out.1
        have hnl := names_len' M
        have hlt : 0 + n.toNat - 1 < (names M).length := by omega
        obtain ⟨b, o, x, rfl, hx, hc⟩ := str_at hs rfl hlt
        have c0 := hc w2 (Gr.refl _)
        have hix : IntKind.i64.wrap (IntKind.i64.wrap ((((0 : Nat)) : Int) + n) - 1) = ((0 + n.toNat - 1 : Nat) : Int) := by
          rw [IntKind.wrap_i64, IntKind.wrap_i64]; omega
        have hlt' : ((0 + n.toNat - 1 : Nat) : Int) < ((names M).length : Int) := by omega
        have hres : namedM M 0 n = x := by
          unfold namedM
          rw [if_neg (by rw [show sizeOf' M 0 = M.sites.length from rfl]; omega), show offOf M 0 = 0 from rfl, List.getD, hx]; rfl
        have HRS := Lib.hid hres
        rw [show 0 + n.toNat - 1 = ((((0 : Nat)) : Int) + n).toNat - 1 by omega] at c0
        clear hc hx hs hnl hres
        try simp only [Nat.zero_add, Int.natCast_zero, Int.zero_add, Int.natCast_add] at hix hlt' c0
        go_wp2_with fail
        go_ret
        exact ⟨_, rfl, G.out, by rw [HRS.out]; rfl⟩
  by_cases k1 : k = 1
  · subst k1
    have HM := Lib.hid hm
    have B := Cells.new w (mcells P M) 29
    clear hm
    have m0 := mc0 B.2 _ (Gr.refl _)
    have m1 := mc1 B.2 _ (Gr.refl _)
    have m2 := mc2 B.2 _ (Gr.refl _)
    have m3 := mc3 B.2 _ (Gr.refl _)
    have m4 := mc4 B.2 _ (Gr.refl _)
    have m5 := mc5 B.2 _ (Gr.refl _)
    have m6 := mc6 B.2 _ (Gr.refl _)
    have m7 := mc7 B.2 _ (Gr.refl _)
    have m8 := mc8 B.2 _ (Gr.refl _)
    have m9 := mc9 B.2 _ (Gr.refl _)
    have m10 := mc10 B.2 _ (Gr.refl _)
    unfold mcells at B m0 m1 m2 m3 m4 m5 m6 m7 m8 m9 m10 ⊢
    go_enter Tryz.func14, Tryz.ntmps14
    go_wp2_with fail
    clear m0 m1 m2 m3 m4 m5 m6 m7 m8 m9 m10
    generalize w.heap.size = bm at B ⊢
    generalize w.alloc _ = W at B ⊢
    obtain ⟨g0, tm⟩ := B
    have TM := Lib.hid (show Cells W bm (mcells P M) from tm)
    have G := Lib.hid g0
    have HM := Lib.hid (HM.out.grow g0)
    clear g0 tm
    have m0 := mc0 TM.out _ (Gr.refl _)
    have m1 := mc1 TM.out _ (Gr.refl _)
    have m2 := mc2 TM.out _ (Gr.refl _)
    have m3 := mc3 TM.out _ (Gr.refl _)
    have m4 := mc4 TM.out _ (Gr.refl _)
    have m5 := mc5 TM.out _ (Gr.refl _)
    have m6 := mc6 TM.out _ (Gr.refl _)
    have m7 := mc7 TM.out _ (Gr.refl _)
    have m8 := mc8 TM.out _ (Gr.refl _)
    have m9 := mc9 TM.out _ (Gr.refl _)
    have m10 := mc10 TM.out _ (Gr.refl _)
    clear m0 m1 m2 m3 m4 m5 m6 m7 m8 m9 m10
    have g0 : Gr W (W).drew := (Gr.refl _).drew
    have m0 := mc0 TM.out
    have m1 := mc1 TM.out
    have m2 := mc2 TM.out
    have m3 := mc3 TM.out
    have m4 := mc4 TM.out
    have m5 := mc5 TM.out
    have m6 := mc6 TM.out
    have m7 := mc7 TM.out
    have m8 := mc8 TM.out
    have m9 := mc9 TM.out
    have m10 := mc10 TM.out
    try dsimp only at m0 m1 m2 m3 m4 m5 m6 m7 m8 m9 m10
    refine wp_region_fast [(0, true), (1, true), (2, true), (3, true), (4, true)] (by kernel_rfl) (by kernel_rfl) rfl (by kernel_rfl) (fun _ _ d _ _ h => by cases d <;> exact h) ?_
    repeat (refine wpE_readB (v := ?_) g0 rfl rfl (fun w' hg => ?_) (fun K hK => ?_); rotate_left; (go_simp; rfl); go_simp; refine hK _ _ ?_; clear hK K)
    refine wpE_nil ?_
    clear m0 m1 m2 m3 m4 m5 m6 m7 m8 m9 m10
    have G := Lib.hid (G.out.trans g0)
    have TM := Lib.hid (TM.out.grow g0)
    have HM := Lib.hid (HM.out.grow g0)
    clear g0
    generalize (W).drew = W1 at G TM HM ⊢
    go_wp2_with fail
    have g0 : Gr W1 (W1).drew := (Gr.refl _).drew
    have m0 := mc0 TM.out
    have m1 := mc1 TM.out
    have m2 := mc2 TM.out
    have m3 := mc3 TM.out
    have m4 := mc4 TM.out
    have m5 := mc5 TM.out
    have m6 := mc6 TM.out
    have m7 := mc7 TM.out
    have m8 := mc8 TM.out
    have m9 := mc9 TM.out
    have m10 := mc10 TM.out
    try dsimp only at m0 m1 m2 m3 m4 m5 m6 m7 m8 m9 m10
    refine wp_region_fast [(0, true), (1, true), (2, true), (3, true), (4, true), (5, true), (6, true), (7, true)] (by kernel_rfl) (by kernel_rfl) rfl (by kernel_rfl) (fun _ _ d _ _ h => by cases d <;> exact h) ?_
    repeat (refine wpE_readB (v := ?_) g0 rfl rfl (fun w' hg => ?_) (fun K hK => ?_); rotate_left; (go_simp; rfl); go_simp; refine hK _ _ ?_; clear hK K)
    refine wpE_nil ?_
    clear m0 m1 m2 m3 m4 m5 m6 m7 m8 m9 m10
    have G := Lib.hid (G.out.trans g0)
    have TM := Lib.hid (TM.out.grow g0)
    have HM := Lib.hid (HM.out.grow g0)
    clear g0
    generalize (W1).drew = W3 at G TM HM ⊢
    by_cases n1 : n < 1
    · have HN := Lib.hid n1
      go_wp2_with fail
      try rw [Exit.noGoto_ret]
      go_ret
      exact ⟨_, rfl, G.out, by unfold namedM; rw [if_pos (.inl HN.out)]; rfl⟩
    · have HN := Lib.hid n1
      have n1 : 1 ≤ n := by omega
      by_cases n2 : (M.feeds.length : Int) < n
      · have HN2 := Lib.hid n2
        go_wp2_with fail
        try rw [Exit.noGoto_ret]
        go_ret
        exact ⟨_, rfl, G.out, by unfold namedM; rw [if_pos (.inr (by rw [show sizeOf' M 1 = M.feeds.length from rfl]; exact HN2.out))]; rfl⟩
      · have HN2 := Lib.hid n2
        have n2 : n ≤ (M.feeds.length : Int) := by omega
        have m0 := mc0 TM.out _ (Gr.refl _)
        have m1 := mc1 TM.out _ (Gr.refl _)
        have m2 := mc2 TM.out _ (Gr.refl _)
        have m3 := mc3 TM.out _ (Gr.refl _)
        have m4 := mc4 TM.out _ (Gr.refl _)
        have m5 := mc5 TM.out _ (Gr.refl _)
        have m6 := mc6 TM.out _ (Gr.refl _)
        have m7 := mc7 TM.out _ (Gr.refl _)
        have m8 := mc8 TM.out _ (Gr.refl _)
        have m9 := mc9 TM.out _ (Gr.refl _)
        have m10 := mc10 TM.out _ (Gr.refl _)
        go_wp2_with fail
        clear m0 m1 m2 m3 m4 m5 m6 m7 m8 m9 m10
        refine (ref_Names _ P M HM.out HF.out).mono ?_
        rintro _ w2 ⟨v2, rfl, g2, hs⟩
        have G := Lib.hid (G.out.trans g2)
        have TM := Lib.hid (TM.out.grow g2)
        have HM := Lib.hid (HM.out.grow g2)
        clear g2
        obtain ⟨p, c, rfl, _, _⟩ := hs.parts
        have hfew := HF.out.1
        have hnl := names_len' M
        have hlt : M.sites.length + n.toNat - 1 < (names M).length := by omega
        obtain ⟨b, o, x, rfl, hx, hc⟩ := str_at hs rfl hlt
        have c0 := hc w2 (Gr.refl _)
        have hix : IntKind.i64.wrap (IntKind.i64.wrap ((((M.sites.length : Nat)) : Int) + n) - 1) = ((M.sites.length + n.toNat - 1 : Nat) : Int) := by
          rw [IntKind.wrap_i64, IntKind.wrap_i64]; omega
        have hlt' : ((M.sites.length + n.toNat - 1 : Nat) : Int) < ((names M).length : Int) := by omega
        have hres : namedM M 1 n = x := by
          unfold namedM
          rw [if_neg (by rw [show sizeOf' M 1 = M.feeds.length from rfl]; omega), show offOf M 1 = M.sites.length from rfl, List.getD, hx]; rfl
        have HRS := Lib.hid hres
        rw [show M.sites.length + n.toNat - 1 = ((((M.sites.length : Nat)) : Int) + n).toNat - 1 by omega] at c0
        clear hc hx hs hnl hres
        try simp only [Nat.zero_add, Int.natCast_zero, Int.zero_add, Int.natCast_add] at hix hlt' c0
        go_wp2_with fail
        go_ret
        exact ⟨_, rfl, G.out, by rw [HRS.out]; rfl⟩
  by_cases k2 : k = 2
  · subst k2
    have HM := Lib.hid hm
    have B := Cells.new w (mcells P M) 29
    clear hm
    have m0 := mc0 B.2 _ (Gr.refl _)
    have m1 := mc1 B.2 _ (Gr.refl _)
    have m2 := mc2 B.2 _ (Gr.refl _)
    have m3 := mc3 B.2 _ (Gr.refl _)
    have m4 := mc4 B.2 _ (Gr.refl _)
    have m5 := mc5 B.2 _ (Gr.refl _)
    have m6 := mc6 B.2 _ (Gr.refl _)
    have m7 := mc7 B.2 _ (Gr.refl _)
    have m8 := mc8 B.2 _ (Gr.refl _)
    have m9 := mc9 B.2 _ (Gr.refl _)
    have m10 := mc10 B.2 _ (Gr.refl _)
    unfold mcells at B m0 m1 m2 m3 m4 m5 m6 m7 m8 m9 m10 ⊢
    go_enter Tryz.func14, Tryz.ntmps14
    go_wp2_with fail
    clear m0 m1 m2 m3 m4 m5 m6 m7 m8 m9 m10
    generalize w.heap.size = bm at B ⊢
    generalize w.alloc _ = W at B ⊢
    obtain ⟨g0, tm⟩ := B
    have TM := Lib.hid (show Cells W bm (mcells P M) from tm)
    have G := Lib.hid g0
    have HM := Lib.hid (HM.out.grow g0)
    clear g0 tm
    have m0 := mc0 TM.out _ (Gr.refl _)
    have m1 := mc1 TM.out _ (Gr.refl _)
    have m2 := mc2 TM.out _ (Gr.refl _)
    have m3 := mc3 TM.out _ (Gr.refl _)
    have m4 := mc4 TM.out _ (Gr.refl _)
    have m5 := mc5 TM.out _ (Gr.refl _)
    have m6 := mc6 TM.out _ (Gr.refl _)
    have m7 := mc7 TM.out _ (Gr.refl _)
    have m8 := mc8 TM.out _ (Gr.refl _)
    have m9 := mc9 TM.out _ (Gr.refl _)
    have m10 := mc10 TM.out _ (Gr.refl _)
    clear m0 m1 m2 m3 m4 m5 m6 m7 m8 m9 m10
    have g0 : Gr W (W).drew := (Gr.refl _).drew
    have m0 := mc0 TM.out
    have m1 := mc1 TM.out
    have m2 := mc2 TM.out
    have m3 := mc3 TM.out
    have m4 := mc4 TM.out
    have m5 := mc5 TM.out
    have m6 := mc6 TM.out
    have m7 := mc7 TM.out
    have m8 := mc8 TM.out
    have m9 := mc9 TM.out
    have m10 := mc10 TM.out
    try dsimp only at m0 m1 m2 m3 m4 m5 m6 m7 m8 m9 m10
    refine wp_region_fast [(0, true), (1, true), (2, true), (3, true), (4, true)] (by kernel_rfl) (by kernel_rfl) rfl (by kernel_rfl) (fun _ _ d _ _ h => by cases d <;> exact h) ?_
    repeat (refine wpE_readB (v := ?_) g0 rfl rfl (fun w' hg => ?_) (fun K hK => ?_); rotate_left; (go_simp; rfl); go_simp; refine hK _ _ ?_; clear hK K)
    refine wpE_nil ?_
    clear m0 m1 m2 m3 m4 m5 m6 m7 m8 m9 m10
    have G := Lib.hid (G.out.trans g0)
    have TM := Lib.hid (TM.out.grow g0)
    have HM := Lib.hid (HM.out.grow g0)
    clear g0
    generalize (W).drew = W1 at G TM HM ⊢
    go_wp2_with fail
    have g0 : Gr W1 (W1).drew := (Gr.refl _).drew
    have m0 := mc0 TM.out
    have m1 := mc1 TM.out
    have m2 := mc2 TM.out
    have m3 := mc3 TM.out
    have m4 := mc4 TM.out
    have m5 := mc5 TM.out
    have m6 := mc6 TM.out
    have m7 := mc7 TM.out
    have m8 := mc8 TM.out
    have m9 := mc9 TM.out
    have m10 := mc10 TM.out
    try dsimp only at m0 m1 m2 m3 m4 m5 m6 m7 m8 m9 m10
    refine wp_region_fast [(0, true), (1, true), (2, true), (3, true), (4, true), (5, true), (6, true), (7, true), (8, true), (9, true), (10, true), (11, true)] (by kernel_rfl) (by kernel_rfl) rfl (by kernel_rfl) (fun _ _ d _ _ h => by cases d <;> exact h) ?_
    repeat (refine wpE_readB (v := ?_) g0 rfl rfl (fun w' hg => ?_) (fun K hK => ?_); rotate_left; (go_simp; rfl); go_simp; refine hK _ _ ?_; clear hK K)
    refine wpE_nil ?_
    clear m0 m1 m2 m3 m4 m5 m6 m7 m8 m9 m10
    have G := Lib.hid (G.out.trans g0)
    have TM := Lib.hid (TM.out.grow g0)
    have HM := Lib.hid (HM.out.grow g0)
    clear g0
    generalize (W1).drew = W3 at G TM HM ⊢
    by_cases n1 : n < 1
    · have HN := Lib.hid n1
      go_wp2_with fail
      try rw [Exit.noGoto_ret]
      go_ret
      exact ⟨_, rfl, G.out, by unfold namedM; rw [if_pos (.inl HN.out)]; rfl⟩
    · have HN := Lib.hid n1
      have n1 : 1 ≤ n := by omega
      by_cases n2 : (M.racks.length : Int) < n
      · have HN2 := Lib.hid n2
        go_wp2_with fail
        try rw [Exit.noGoto_ret]
        go_ret
        exact ⟨_, rfl, G.out, by unfold namedM; rw [if_pos (.inr (by rw [show sizeOf' M 2 = M.racks.length from rfl]; exact HN2.out))]; rfl⟩
      · have HN2 := Lib.hid n2
        have n2 : n ≤ (M.racks.length : Int) := by omega
        have m0 := mc0 TM.out _ (Gr.refl _)
        have m1 := mc1 TM.out _ (Gr.refl _)
        have m2 := mc2 TM.out _ (Gr.refl _)
        have m3 := mc3 TM.out _ (Gr.refl _)
        have m4 := mc4 TM.out _ (Gr.refl _)
        have m5 := mc5 TM.out _ (Gr.refl _)
        have m6 := mc6 TM.out _ (Gr.refl _)
        have m7 := mc7 TM.out _ (Gr.refl _)
        have m8 := mc8 TM.out _ (Gr.refl _)
        have m9 := mc9 TM.out _ (Gr.refl _)
        have m10 := mc10 TM.out _ (Gr.refl _)
        go_wp2_with fail
        clear m0 m1 m2 m3 m4 m5 m6 m7 m8 m9 m10
        refine (ref_Names _ P M HM.out HF.out).mono ?_
        rintro _ w2 ⟨v2, rfl, g2, hs⟩
        have G := Lib.hid (G.out.trans g2)
        have TM := Lib.hid (TM.out.grow g2)
        have HM := Lib.hid (HM.out.grow g2)
        clear g2
        obtain ⟨p, c, rfl, _, _⟩ := hs.parts
        have hfew := HF.out.1
        have hnl := names_len' M
        have hlt : (M.sites.length + M.feeds.length) + n.toNat - 1 < (names M).length := by omega
        obtain ⟨b, o, x, rfl, hx, hc⟩ := str_at hs rfl hlt
        have c0 := hc w2 (Gr.refl _)
        have hix : IntKind.i64.wrap (IntKind.i64.wrap (((((M.sites.length + M.feeds.length) : Nat)) : Int) + n) - 1) = (((M.sites.length + M.feeds.length) + n.toNat - 1 : Nat) : Int) := by
          rw [IntKind.wrap_i64, IntKind.wrap_i64]; omega
        have hlt' : (((M.sites.length + M.feeds.length) + n.toNat - 1 : Nat) : Int) < ((names M).length : Int) := by omega
        have hres : namedM M 2 n = x := by
          unfold namedM
          rw [if_neg (by rw [show sizeOf' M 2 = M.racks.length from rfl]; omega), show offOf M 2 = (M.sites.length + M.feeds.length) from rfl, List.getD, hx]; rfl
        have HRS := Lib.hid hres
        rw [show (M.sites.length + M.feeds.length) + n.toNat - 1 = (((((M.sites.length + M.feeds.length) : Nat)) : Int) + n).toNat - 1 by omega] at c0
        clear hc hx hs hnl hres
        try simp only [Nat.zero_add, Int.natCast_zero, Int.zero_add, Int.natCast_add] at hix hlt' c0
        go_wp2_with fail
        go_ret
        exact ⟨_, rfl, G.out, by rw [HRS.out]; rfl⟩
  by_cases k3 : k = 3
  · subst k3
    have HM := Lib.hid hm
    have B := Cells.new w (mcells P M) 29
    clear hm
    have m0 := mc0 B.2 _ (Gr.refl _)
    have m1 := mc1 B.2 _ (Gr.refl _)
    have m2 := mc2 B.2 _ (Gr.refl _)
    have m3 := mc3 B.2 _ (Gr.refl _)
    have m4 := mc4 B.2 _ (Gr.refl _)
    have m5 := mc5 B.2 _ (Gr.refl _)
    have m6 := mc6 B.2 _ (Gr.refl _)
    have m7 := mc7 B.2 _ (Gr.refl _)
    have m8 := mc8 B.2 _ (Gr.refl _)
    have m9 := mc9 B.2 _ (Gr.refl _)
    have m10 := mc10 B.2 _ (Gr.refl _)
    unfold mcells at B m0 m1 m2 m3 m4 m5 m6 m7 m8 m9 m10 ⊢
    go_enter Tryz.func14, Tryz.ntmps14
    go_wp2_with fail
    clear m0 m1 m2 m3 m4 m5 m6 m7 m8 m9 m10
    generalize w.heap.size = bm at B ⊢
    generalize w.alloc _ = W at B ⊢
    obtain ⟨g0, tm⟩ := B
    have TM := Lib.hid (show Cells W bm (mcells P M) from tm)
    have G := Lib.hid g0
    have HM := Lib.hid (HM.out.grow g0)
    clear g0 tm
    have m0 := mc0 TM.out _ (Gr.refl _)
    have m1 := mc1 TM.out _ (Gr.refl _)
    have m2 := mc2 TM.out _ (Gr.refl _)
    have m3 := mc3 TM.out _ (Gr.refl _)
    have m4 := mc4 TM.out _ (Gr.refl _)
    have m5 := mc5 TM.out _ (Gr.refl _)
    have m6 := mc6 TM.out _ (Gr.refl _)
    have m7 := mc7 TM.out _ (Gr.refl _)
    have m8 := mc8 TM.out _ (Gr.refl _)
    have m9 := mc9 TM.out _ (Gr.refl _)
    have m10 := mc10 TM.out _ (Gr.refl _)
    clear m0 m1 m2 m3 m4 m5 m6 m7 m8 m9 m10
    have g0 : Gr W (W).drew := (Gr.refl _).drew
    have m0 := mc0 TM.out
    have m1 := mc1 TM.out
    have m2 := mc2 TM.out
    have m3 := mc3 TM.out
    have m4 := mc4 TM.out
    have m5 := mc5 TM.out
    have m6 := mc6 TM.out
    have m7 := mc7 TM.out
    have m8 := mc8 TM.out
    have m9 := mc9 TM.out
    have m10 := mc10 TM.out
    try dsimp only at m0 m1 m2 m3 m4 m5 m6 m7 m8 m9 m10
    refine wp_region_fast [(0, true), (1, true), (2, true), (3, true), (4, true)] (by kernel_rfl) (by kernel_rfl) rfl (by kernel_rfl) (fun _ _ d _ _ h => by cases d <;> exact h) ?_
    repeat (refine wpE_readB (v := ?_) g0 rfl rfl (fun w' hg => ?_) (fun K hK => ?_); rotate_left; (go_simp; rfl); go_simp; refine hK _ _ ?_; clear hK K)
    refine wpE_nil ?_
    clear m0 m1 m2 m3 m4 m5 m6 m7 m8 m9 m10
    have G := Lib.hid (G.out.trans g0)
    have TM := Lib.hid (TM.out.grow g0)
    have HM := Lib.hid (HM.out.grow g0)
    clear g0
    generalize (W).drew = W1 at G TM HM ⊢
    go_wp2_with fail
    have g0 : Gr W1 (W1).drew := (Gr.refl _).drew
    have m0 := mc0 TM.out
    have m1 := mc1 TM.out
    have m2 := mc2 TM.out
    have m3 := mc3 TM.out
    have m4 := mc4 TM.out
    have m5 := mc5 TM.out
    have m6 := mc6 TM.out
    have m7 := mc7 TM.out
    have m8 := mc8 TM.out
    have m9 := mc9 TM.out
    have m10 := mc10 TM.out
    try dsimp only at m0 m1 m2 m3 m4 m5 m6 m7 m8 m9 m10
    refine wp_region_fast [(0, true), (1, true), (2, true), (3, true), (4, true), (5, true), (6, true), (7, true), (8, true), (9, true), (10, true), (11, true), (12, true), (13, true), (14, true), (15, true)] (by kernel_rfl) (by kernel_rfl) rfl (by kernel_rfl) (fun _ _ d _ _ h => by cases d <;> exact h) ?_
    repeat (refine wpE_readB (v := ?_) g0 rfl rfl (fun w' hg => ?_) (fun K hK => ?_); rotate_left; (go_simp; rfl); go_simp; refine hK _ _ ?_; clear hK K)
    refine wpE_nil ?_
    clear m0 m1 m2 m3 m4 m5 m6 m7 m8 m9 m10
    have G := Lib.hid (G.out.trans g0)
    have TM := Lib.hid (TM.out.grow g0)
    have HM := Lib.hid (HM.out.grow g0)
    clear g0
    generalize (W1).drew = W3 at G TM HM ⊢
    by_cases n1 : n < 1
    · have HN := Lib.hid n1
      go_wp2_with fail
      try rw [Exit.noGoto_ret]
      go_ret
      exact ⟨_, rfl, G.out, by unfold namedM; rw [if_pos (.inl HN.out)]; rfl⟩
    · have HN := Lib.hid n1
      have n1 : 1 ≤ n := by omega
      by_cases n2 : (M.machs.length : Int) < n
      · have HN2 := Lib.hid n2
        go_wp2_with fail
        try rw [Exit.noGoto_ret]
        go_ret
        exact ⟨_, rfl, G.out, by unfold namedM; rw [if_pos (.inr (by rw [show sizeOf' M 3 = M.machs.length from rfl]; exact HN2.out))]; rfl⟩
      · have HN2 := Lib.hid n2
        have n2 : n ≤ (M.machs.length : Int) := by omega
        have m0 := mc0 TM.out _ (Gr.refl _)
        have m1 := mc1 TM.out _ (Gr.refl _)
        have m2 := mc2 TM.out _ (Gr.refl _)
        have m3 := mc3 TM.out _ (Gr.refl _)
        have m4 := mc4 TM.out _ (Gr.refl _)
        have m5 := mc5 TM.out _ (Gr.refl _)
        have m6 := mc6 TM.out _ (Gr.refl _)
        have m7 := mc7 TM.out _ (Gr.refl _)
        have m8 := mc8 TM.out _ (Gr.refl _)
        have m9 := mc9 TM.out _ (Gr.refl _)
        have m10 := mc10 TM.out _ (Gr.refl _)
        go_wp2_with fail
        clear m0 m1 m2 m3 m4 m5 m6 m7 m8 m9 m10
        refine (ref_Names _ P M HM.out HF.out).mono ?_
        rintro _ w2 ⟨v2, rfl, g2, hs⟩
        have G := Lib.hid (G.out.trans g2)
        have TM := Lib.hid (TM.out.grow g2)
        have HM := Lib.hid (HM.out.grow g2)
        clear g2
        obtain ⟨p, c, rfl, _, _⟩ := hs.parts
        have hfew := HF.out.1
        have hnl := names_len' M
        have hlt : (M.sites.length + M.feeds.length + M.racks.length) + n.toNat - 1 < (names M).length := by omega
        obtain ⟨b, o, x, rfl, hx, hc⟩ := str_at hs rfl hlt
        have c0 := hc w2 (Gr.refl _)
        have hix : IntKind.i64.wrap (IntKind.i64.wrap (((((M.sites.length + M.feeds.length + M.racks.length) : Nat)) : Int) + n) - 1) = (((M.sites.length + M.feeds.length + M.racks.length) + n.toNat - 1 : Nat) : Int) := by
          rw [IntKind.wrap_i64, IntKind.wrap_i64]; omega
        have hlt' : (((M.sites.length + M.feeds.length + M.racks.length) + n.toNat - 1 : Nat) : Int) < ((names M).length : Int) := by omega
        have hres : namedM M 3 n = x := by
          unfold namedM
          rw [if_neg (by rw [show sizeOf' M 3 = M.machs.length from rfl]; omega), show offOf M 3 = (M.sites.length + M.feeds.length + M.racks.length) from rfl, List.getD, hx]; rfl
        have HRS := Lib.hid hres
        rw [show (M.sites.length + M.feeds.length + M.racks.length) + n.toNat - 1 = (((((M.sites.length + M.feeds.length + M.racks.length) : Nat)) : Int) + n).toNat - 1 by omega] at c0
        clear hc hx hs hnl hres
        try simp only [Nat.zero_add, Int.natCast_zero, Int.zero_add, Int.natCast_add] at hix hlt' c0
        go_wp2_with fail
        go_ret
        exact ⟨_, rfl, G.out, by rw [HRS.out]; rfl⟩
  · have e0 : (k == 0) = false := by simpa using k0
    have e1 : (k == 1) = false := by simpa using k1
    have e2 : (k == 2) = false := by simpa using k2
    have e3 : (k == 3) = false := by simpa using k3
    have HK := Lib.hid (show k ≠ 0 ∧ k ≠ 1 ∧ k ≠ 2 ∧ k ≠ 3 from ⟨k0, k1, k2, k3⟩)
    clear k0 k1 k2 k3
    have HM := Lib.hid hm
    have B := Cells.new w (mcells P M) 29
    clear hm
    have m0 := mc0 B.2 _ (Gr.refl _)
    have m1 := mc1 B.2 _ (Gr.refl _)
    have m2 := mc2 B.2 _ (Gr.refl _)
    have m3 := mc3 B.2 _ (Gr.refl _)
    have m4 := mc4 B.2 _ (Gr.refl _)
    have m5 := mc5 B.2 _ (Gr.refl _)
    have m6 := mc6 B.2 _ (Gr.refl _)
    have m7 := mc7 B.2 _ (Gr.refl _)
    have m8 := mc8 B.2 _ (Gr.refl _)
    have m9 := mc9 B.2 _ (Gr.refl _)
    have m10 := mc10 B.2 _ (Gr.refl _)
    unfold mcells at B m0 m1 m2 m3 m4 m5 m6 m7 m8 m9 m10 ⊢
    go_enter Tryz.func14, Tryz.ntmps14
    go_wp2_with fail
    clear m0 m1 m2 m3 m4 m5 m6 m7 m8 m9 m10
    generalize w.heap.size = bm at B ⊢
    generalize w.alloc _ = W at B ⊢
    obtain ⟨g0, tm⟩ := B
    have TM := Lib.hid (show Cells W bm (mcells P M) from tm)
    have G := Lib.hid g0
    have HM := Lib.hid (HM.out.grow g0)
    clear g0 tm
    have m0 := mc0 TM.out _ (Gr.refl _)
    have m1 := mc1 TM.out _ (Gr.refl _)
    have m2 := mc2 TM.out _ (Gr.refl _)
    have m3 := mc3 TM.out _ (Gr.refl _)
    have m4 := mc4 TM.out _ (Gr.refl _)
    have m5 := mc5 TM.out _ (Gr.refl _)
    have m6 := mc6 TM.out _ (Gr.refl _)
    have m7 := mc7 TM.out _ (Gr.refl _)
    have m8 := mc8 TM.out _ (Gr.refl _)
    have m9 := mc9 TM.out _ (Gr.refl _)
    have m10 := mc10 TM.out _ (Gr.refl _)
    clear m0 m1 m2 m3 m4 m5 m6 m7 m8 m9 m10
    have g0 : Gr W (W).drew := (Gr.refl _).drew
    have m0 := mc0 TM.out
    have m1 := mc1 TM.out
    have m2 := mc2 TM.out
    have m3 := mc3 TM.out
    have m4 := mc4 TM.out
    have m5 := mc5 TM.out
    have m6 := mc6 TM.out
    have m7 := mc7 TM.out
    have m8 := mc8 TM.out
    have m9 := mc9 TM.out
    have m10 := mc10 TM.out
    try dsimp only at m0 m1 m2 m3 m4 m5 m6 m7 m8 m9 m10
    refine wp_region_fast [(0, true), (1, true), (2, true), (3, true), (4, true)] (by kernel_rfl) (by kernel_rfl) rfl (by kernel_rfl) (fun _ _ d _ _ h => by cases d <;> exact h) ?_
    repeat (refine wpE_readB (v := ?_) g0 rfl rfl (fun w' hg => ?_) (fun K hK => ?_); rotate_left; (go_simp; rfl); go_simp; refine hK _ _ ?_; clear hK K)
    refine wpE_nil ?_
    clear m0 m1 m2 m3 m4 m5 m6 m7 m8 m9 m10
    have G := Lib.hid (G.out.trans g0)
    have TM := Lib.hid (TM.out.grow g0)
    have HM := Lib.hid (HM.out.grow g0)
    clear g0
    generalize (W).drew = W1 at G TM HM ⊢
    go_wp2_with fail
    have g0 : Gr W1 (W1).drew := (Gr.refl _).drew
    have m0 := mc0 TM.out
    have m1 := mc1 TM.out
    have m2 := mc2 TM.out
    have m3 := mc3 TM.out
    have m4 := mc4 TM.out
    have m5 := mc5 TM.out
    have m6 := mc6 TM.out
    have m7 := mc7 TM.out
    have m8 := mc8 TM.out
    have m9 := mc9 TM.out
    have m10 := mc10 TM.out
    try dsimp only at m0 m1 m2 m3 m4 m5 m6 m7 m8 m9 m10
    refine wp_region_fast [(0, true), (1, true), (2, true), (3, true), (4, true), (5, true), (6, true), (7, true), (8, true), (9, true), (10, true), (11, true), (12, true), (13, true), (14, true), (15, true), (16, true), (17, true), (18, true), (19, true)] (by kernel_rfl) (by kernel_rfl) rfl (by kernel_rfl) (fun _ _ d _ _ h => by cases d <;> exact h) ?_
    repeat (refine wpE_readB (v := ?_) g0 rfl rfl (fun w' hg => ?_) (fun K hK => ?_); rotate_left; (go_simp; rfl); go_simp; refine hK _ _ ?_; clear hK K)
    refine wpE_nil ?_
    clear m0 m1 m2 m3 m4 m5 m6 m7 m8 m9 m10
    have G := Lib.hid (G.out.trans g0)
    have TM := Lib.hid (TM.out.grow g0)
    have HM := Lib.hid (HM.out.grow g0)
    clear g0
    generalize (W1).drew = W3 at G TM HM ⊢
    by_cases n1 : n < 1
    · have HN := Lib.hid n1
      go_wp2_with fail
      try rw [Exit.noGoto_ret]
      go_ret
      exact ⟨_, rfl, G.out, by unfold namedM; rw [if_pos (.inl HN.out)]; rfl⟩
    · have HN := Lib.hid n1
      have n1 : 1 ≤ n := by omega
      by_cases n2 : (M.items.length : Int) < n
      · have HN2 := Lib.hid n2
        go_wp2_with fail
        try rw [Exit.noGoto_ret]
        go_ret
        exact ⟨_, rfl, G.out, by unfold namedM; rw [if_pos (.inr (by rw [show sizeOf' M k = M.items.length from by unfold sizeOf'; simp [HK.out]]; exact HN2.out))]; rfl⟩
      · have HN2 := Lib.hid n2
        have n2 : n ≤ (M.items.length : Int) := by omega
        have m0 := mc0 TM.out _ (Gr.refl _)
        have m1 := mc1 TM.out _ (Gr.refl _)
        have m2 := mc2 TM.out _ (Gr.refl _)
        have m3 := mc3 TM.out _ (Gr.refl _)
        have m4 := mc4 TM.out _ (Gr.refl _)
        have m5 := mc5 TM.out _ (Gr.refl _)
        have m6 := mc6 TM.out _ (Gr.refl _)
        have m7 := mc7 TM.out _ (Gr.refl _)
        have m8 := mc8 TM.out _ (Gr.refl _)
        have m9 := mc9 TM.out _ (Gr.refl _)
        have m10 := mc10 TM.out _ (Gr.refl _)
        go_wp2_with fail
        clear m0 m1 m2 m3 m4 m5 m6 m7 m8 m9 m10
        refine (ref_Names _ P M HM.out HF.out).mono ?_
        rintro _ w2 ⟨v2, rfl, g2, hs⟩
        have G := Lib.hid (G.out.trans g2)
        have TM := Lib.hid (TM.out.grow g2)
        have HM := Lib.hid (HM.out.grow g2)
        clear g2
        obtain ⟨p, c, rfl, _, _⟩ := hs.parts
        have hfew := HF.out.1
        have hnl := names_len' M
        have hlt : (M.sites.length + M.feeds.length + M.racks.length + M.machs.length) + n.toNat - 1 < (names M).length := by omega
        obtain ⟨b, o, x, rfl, hx, hc⟩ := str_at hs rfl hlt
        have c0 := hc w2 (Gr.refl _)
        have hix : IntKind.i64.wrap (IntKind.i64.wrap (((((M.sites.length + M.feeds.length + M.racks.length + M.machs.length) : Nat)) : Int) + n) - 1) = (((M.sites.length + M.feeds.length + M.racks.length + M.machs.length) + n.toNat - 1 : Nat) : Int) := by
          rw [IntKind.wrap_i64, IntKind.wrap_i64]; omega
        have hlt' : (((M.sites.length + M.feeds.length + M.racks.length + M.machs.length) + n.toNat - 1 : Nat) : Int) < ((names M).length : Int) := by omega
        have hres : namedM M k n = x := by
          unfold namedM
          rw [if_neg (by rw [show sizeOf' M k = M.items.length from by unfold sizeOf'; simp [HK.out]]; omega), show offOf M k = (M.sites.length + M.feeds.length + M.racks.length + M.machs.length) from by unfold offOf; simp [HK.out], List.getD, hx]; rfl
        have HRS := Lib.hid hres
        rw [show (M.sites.length + M.feeds.length + M.racks.length + M.machs.length) + n.toNat - 1 = (((((M.sites.length + M.feeds.length + M.racks.length + M.machs.length) : Nat)) : Int) + n).toNat - 1 by omega] at c0
        clear hc hx hs hnl hres
        try simp only [Nat.zero_add, Int.natCast_zero, Int.zero_add, Int.natCast_add] at hix hlt' c0
        go_wp2_with fail
        go_ret
        exact ⟨_, rfl, G.out, by rw [HRS.out]; rfl⟩
end Go.Proofs.YtammehbflilbiaaGreatDoor

/-
 catalog.Valid.
-/
import Derived.Test.YtnlocdijdfclcaaGreatDoorApp
import Derived.Test.YtnlocdijdfclcaaGreatDoorCatR
namespace Go.Proofs.YtnlocdijdfclcaaGreatDoor
open Go.RowKit Go.Lib Lex
set_option linter.unusedVariables false
set_option linter.unusedSimpArgs false

set_option maxRecDepth 100000 in
set_option maxHeartbeats 1600000 in
theorem cat_Valid (w : World) (P : Ptrs) (M : Mdl) (hm : MdlAt w P M) (hf : Few M) (ht : Tab w) :
  Calls Tryz.prog 36 #[.agg (mcells P M)] w (Ret w fun r _ => Tells (MdlOK M) r) := by
 have HF := Lib.hid hf
 have HT := Lib.hid ht
 clear hf ht
 have hmk := fun w => run_makeMap (P := Tryz.prog) 90 w
 have HM := Lib.hid hm
 have B := Cells.new w (mcells P M) 29
 clear hm
 have m0 := mc0 B.2 _ (Gr.refl _)
 have m1 := mc1 B.2 _ (Gr.refl _)
 have m2 := mc2 B.2 _ (Gr.refl _)
 have m3 := mc3 B.2 _ (Gr.refl _)
 have m4 := mc4 B.2 _ (Gr.refl _)
 have m5 := mc5 B.2 _ (Gr.refl _)
 have m6 := mc6 B.2 _ (Gr.refl _)
 have m7 := mc7 B.2 _ (Gr.refl _)
 have m8 := mc8 B.2 _ (Gr.refl _)
 have m9 := mc9 B.2 _ (Gr.refl _)
 have m10 := mc10 B.2 _ (Gr.refl _)
 unfold mcells at B m0 m1 m2 m3 m4 m5 m6 m7 m8 m9 m10 ⊢
 go_enter Tryz.func36, Tryz.ntmps36
 go_wp2_with fail
 clear m0 m1 m2 m3 m4 m5 m6 m7 m8 m9 m10
 generalize w.heap.size = bm at B ⊢
 generalize w.alloc _ = W at B ⊢
 obtain ⟨g0, tm⟩ := B
 have TM := Lib.hid (show Cells W bm (mcells P M) from tm)
 have G := Lib.hid g0
 have HM := Lib.hid (HM.out.grow g0)
 clear g0 tm
 have m0 := mc0 TM.out _ (Gr.refl _)
 have m1 := mc1 TM.out _ (Gr.refl _)
 have m2 := mc2 TM.out _ (Gr.refl _)
 have m3 := mc3 TM.out _ (Gr.refl _)
 have m4 := mc4 TM.out _ (Gr.refl _)
 have m5 := mc5 TM.out _ (Gr.refl _)
 have m6 := mc6 TM.out _ (Gr.refl _)
 have m7 := mc7 TM.out _ (Gr.refl _)
 have m8 := mc8 TM.out _ (Gr.refl _)
 have m9 := mc9 TM.out _ (Gr.refl _)
 have m10 := mc10 TM.out _ (Gr.refl _)
 have HT := Lib.hid (HT.out.grow G.out)
 clear m0 m1 m2 m3 m4 m5 m6 m7 m8 m9 m10
 refine (site_Valid W P M HM.out HF.out).mono ?_
 rintro _ w1 ⟨v1, rfl, g1, z1⟩
 have G := Lib.hid (G.out.trans g1)
 have TM := Lib.hid (TM.out.grow g1)
 have HM := Lib.hid (HM.out.grow g1)
 have HT := Lib.hid (HT.out.grow g1)
 clear g1
 rcases z1.cases with ⟨rfl, k1⟩ | ⟨rfl, k1⟩ <;> have h1 := Lib.hid k1 <;> clear k1 z1
 ·have m0 := mc0 TM.out _ (Gr.refl _)
  have m1 := mc1 TM.out _ (Gr.refl _)
  have m2 := mc2 TM.out _ (Gr.refl _)
  have m3 := mc3 TM.out _ (Gr.refl _)
  have m4 := mc4 TM.out _ (Gr.refl _)
  have m5 := mc5 TM.out _ (Gr.refl _)
  have m6 := mc6 TM.out _ (Gr.refl _)
  have m7 := mc7 TM.out _ (Gr.refl _)
  have m8 := mc8 TM.out _ (Gr.refl _)
  have m9 := mc9 TM.out _ (Gr.refl _)
  have m10 := mc10 TM.out _ (Gr.refl _)
  by_cases c1 : (8 : Int) < (M.items.length : Int)
  ·have h2 := Lib.hid c1
   go_wp2_with fail
   go_ret
   exact ⟨_, rfl, G.out, Tells.no fun h => by have := h2.out; have := h.2.1; omega⟩
  ·have h2 := Lib.hid c1
   by_cases c2 : (40 : Int) < (M.rules.length : Int)
   ·have h3 := Lib.hid c2
    go_wp2_with fail
    go_ret
    exact ⟨_, rfl, G.out, Tells.no fun h => by have := h3.out; have := h.2.2.1; omega⟩
   ·have h3 := Lib.hid c2
    go_wp2_with fail
    refine (cat_within _ _ _ _).mono ?_
    rintro _ w1 ⟨⟨v1, rfl, h1⟩, rfl⟩
    rcases h1.cases with ⟨rfl, k1⟩ | ⟨rfl, k1⟩ <;> have h7 := Lib.hid k1 <;> clear k1 h1
    ·have c1 : (M.items.length : Int) ≤ 8 := by have := h2.out; omega
     have c2 : (M.rules.length : Int) ≤ 40 := by have := h3.out; omega
     go_wp2_with fail
     refine (cat_within _ _ _ _).mono ?_
     rintro _ w1 ⟨⟨v1, rfl, h1⟩, rfl⟩
     rcases h1.cases with ⟨rfl, k1⟩ | ⟨rfl, k1⟩ <;> have h8 := Lib.hid k1 <;> clear k1 h1
     ·have hw8 : IntKind.i64.wrap (M.slots - 1) = M.slots - 1 := by have := h8.out; unfold Within at this; rw [IntKind.wrap_i64]; omega
      have c1 : (M.items.length : Int) ≤ 8 := by have := h2.out; omega
      have c2 : (M.rules.length : Int) ≤ 40 := by have := h3.out; omega
      go_wp2_with fail
      refine (cat_within _ _ _ _).mono ?_
      rintro _ w1 ⟨⟨v1, rfl, h1⟩, rfl⟩
      rcases h1.cases with ⟨rfl, k1⟩ | ⟨rfl, k1⟩ <;> have h9 := Lib.hid k1 <;> clear k1 h1
      ·have c1 : (M.items.length : Int) ≤ 8 := by have := h2.out; omega
       have c2 : (M.rules.length : Int) ≤ 40 := by have := h3.out; omega
       go_wp2_with fail
       refine (cat_within _ _ _ _).mono ?_
       rintro _ w1 ⟨⟨v1, rfl, h1⟩, rfl⟩
       rcases h1.cases with ⟨rfl, k1⟩ | ⟨rfl, k1⟩ <;> have h10 := Lib.hid k1 <;> clear k1 h1
       ·have c1 : (M.items.length : Int) ≤ 8 := by have := h2.out; omega
        have c2 : (M.rules.length : Int) ≤ 40 := by have := h3.out; omega
        have B := MapAt.new w1
        clear m0 m1 m2 m3 m4 m5 m6 m7 m8 m9 m10
        have m0 := mc0 TM.out _ B.1
        have m1 := mc1 TM.out _ B.1
        have m2 := mc2 TM.out _ B.1
        have m3 := mc3 TM.out _ B.1
        have m4 := mc4 TM.out _ B.1
        have m5 := mc5 TM.out _ B.1
        have m6 := mc6 TM.out _ B.1
        have m7 := mc7 TM.out _ B.1
        have m8 := mc8 TM.out _ B.1
        have m9 := mc9 TM.out _ B.1
        have m10 := mc10 TM.out _ B.1
        go_wp2_with fail
        clear m0 m1 m2 m3 m4 m5 m6 m7 m8 m9 m10
        obtain ⟨gB, mB⟩ := B
        have HR := Lib.hid (show w1.heap.size ≤ w1.heap.size from Nat.le_refl _)
        generalize w1.alloc _ = w2 at gB mB ⊢
        generalize hr : w1.heap.size = r at mB ⊢
        have HR := Lib.hid (show w1.heap.size ≤ r from Nat.le_of_eq hr)
        clear hr
        refine (cat_Names w2 P M (HM.out.grow gB) HF.out).mono ?_
        rintro _ w3 ⟨v3, rfl, g3, hs3⟩
        have GB := Lib.hid (gB.trans g3)
        have HS := Lib.hid (names_short HF.out)
        have hlen := names_len HF.out
        have mB := mB.grow g3
        generalize hnm : names M = l at hs3 HS hlen
        have HN := Lib.hid hnm
        clear hnm gB g3 c1 c2
        obtain ⟨p, c, rfl, hc1, hc2⟩ := hs3.parts
        have HL := Lib.hid hs3
        have HB := Lib.hid mB
        have h7 := Lib.hid (show _ ∧ _ ∧ _ ∧ _ from ⟨h7.out, h8.out, h9.out, h10.out⟩)
        clear hs3 mB h8 h9 h10 hw8
        go_wp2_with fail
        go_loopw [55] (fun i w9 => ∃ k : Nat, i = .int .i64 k ∧ k ≤ l.length ∧ (∀ i s, i < k → l[i]? = some s → isName s = true ∧ ¬ s ∈ l.take i) ∧ MapAt w9 r (seenL (l.take k)) ∧ StrL w9 (.slice p l.length c) l ∧ Gr w1 w9) (fun i _ => l.length - (RowKit.intOf i).toNat)
        case atStart => exact ⟨0, rfl, Nat.zero_le _, fun i s hi => by omega, HB.out, HL.out, GB.out⟩
        case round =>
         clear HB HL GB
         obtain ⟨k, rfl, hk, hp, hmap, hl, hg⟩ := hrel
         have HP := Lib.hid hp
         have HB := Lib.hid hmap
         have HL := Lib.hid hl
         have GL := Lib.hid hg
         clear hp hmap hl hg
         by_cases hlt : k < l.length
         ·have hlt' : (k : Int) < (l.length : Int) := by omega
          obtain ⟨b, o, x, rfl, hx, hc⟩ := str_at HL.out rfl hlt
          have HX := Lib.hid hx
          have hsh := HS.out x (List.mem_of_getElem? hx)
          have c0 := hc wr (Gr.refl _)
          clear hx hc
          go_wp2_with fail
          clear c0
          refine (cat_IsName wr x (HT.out.grow GL.out) (by omega)).mono ?_
          rintro _ w4 ⟨_, rfl, g4, rfl⟩
          have GL := Lib.hid (GL.out.trans g4)
          have HB := Lib.hid (HB.out.grow g4)
          have HL := Lib.hid (SlL.grow HL.out g4)
          clear g4
          obtain ⟨t, ht⟩ : ∃ t, isName x = t := ⟨_, rfl⟩
          rw [ht]
          have HTN := Lib.hid ht
          clear ht
          cases t
          ·have G := Lib.hid (G.out.trans GL.out)
           go_wp2_with fail
           try rw [Exit.noGoto_ret]
           go_ret
           exact ⟨_, rfl, G.out, Tells.no fun h => by have h := h.2.2.2.1; rw [HN.out] at h; have := (h k x HX.out).1; rw [HTN.out] at this; cases this⟩
          ·by_cases hin : x ∈ l.take k
           ·have hlook := seen_yes HB.out hin
            have HI := Lib.hid hin
            have G := Lib.hid (G.out.trans GL.out)
            clear hin
            go_wp2_with fail
            try rw [Exit.noGoto_ret]
            go_ret
            exact ⟨_, rfl, G.out, Tells.no fun h => by have h := h.2.2.2.1; rw [HN.out] at h; exact (h k x HX.out).2 HI.out⟩
           ·have hlook := seen_no HB.out hin
            obtain ⟨w5, hst, hm5, hk5, hgr5⟩ := seen_add HB.out hin
            have HM5 := Lib.hid hm5
            have HL5 := Lib.hid (show StrL w5 _ l from SlV.keptMap HL.out HB.out hk5)
            have G5 := Lib.hid (hgr5 w1 GL.out HR.out)
            have HI := Lib.hid hin
            clear hm5 hk5 hgr5 hin
            go_wp2_with fail
            refine ⟨⟨k + 1, by go_num, by omega, fun i s hi hs => ?_, ?_, HL5.out, G5.out⟩, by simp [RowKit.intOf]; omega⟩
            ·rcases Nat.lt_or_ge i k with h | h
             ·exact HP.out i s h hs
             ·obtain rfl : i = k := by omega
              have e : s = x := by have := hs.symm.trans HX.out; simpa using this
              subst e
              exact ⟨HTN.out, HI.out⟩
            ·have := HM5.out
             rw [List.take_add_one, HX.out]
             exact this
         ·obtain rfl : k = l.length := by omega
          have HNA := Lib.hid (show NamesOK (names M) from by rw [HN.out]; exact fun i s hs => HP.out i s (List.getElem?_eq_some_iff.1 hs).1 hs)
          have G := Lib.hid (G.out.trans GL.out)
          have TM := Lib.hid (TM.out.grow GL.out)
          have HM := Lib.hid (HM.out.grow GL.out)
          clear HP HB HL HS
          have m0 := mc0 TM.out _ (Gr.refl _)
          have m1 := mc1 TM.out _ (Gr.refl _)
          have m2 := mc2 TM.out _ (Gr.refl _)
          have m3 := mc3 TM.out _ (Gr.refl _)
          have m4 := mc4 TM.out _ (Gr.refl _)
          have m5 := mc5 TM.out _ (Gr.refl _)
          have m6 := mc6 TM.out _ (Gr.refl _)
          have m7 := mc7 TM.out _ (Gr.refl _)
          have m8 := mc8 TM.out _ (Gr.refl _)
          have m9 := mc9 TM.out _ (Gr.refl _)
          have m10 := mc10 TM.out _ (Gr.refl _)
          go_wp2_with fail
          clear m0 m1 m2 m3 m4 m5 m6 m7 m8 m9 m10
          refine (item_containsI wr P.p5 M.items.length P.c5 M.items _ _ HM.out.items rfl (by have := h2.out; omega) (prd_1 wr P M bm TM.out HM.out HF.out)).mono ?_
          rintro _ w6 ⟨v6, rfl, g6, z6⟩
          have GL := Lib.hid (GL.out.trans g6)
          have G := Lib.hid (G.out.trans g6)
          have TM := Lib.hid (TM.out.grow g6)
          have HM := Lib.hid (HM.out.grow g6)
          clear g6
          have m0 := mc0 TM.out _ (Gr.refl _)
          have m1 := mc1 TM.out _ (Gr.refl _)
          have m2 := mc2 TM.out _ (Gr.refl _)
          have m3 := mc3 TM.out _ (Gr.refl _)
          have m4 := mc4 TM.out _ (Gr.refl _)
          have m5 := mc5 TM.out _ (Gr.refl _)
          have m6 := mc6 TM.out _ (Gr.refl _)
          have m7 := mc7 TM.out _ (Gr.refl _)
          have m8 := mc8 TM.out _ (Gr.refl _)
          have m9 := mc9 TM.out _ (Gr.refl _)
          have m10 := mc10 TM.out _ (Gr.refl _)
          rcases z6.cases with ⟨rfl, k1⟩ | ⟨rfl, k1⟩ <;> have h4 := Lib.hid k1 <;> clear k1 z6
          ·go_wp2_with fail
           try rw [Exit.noGoto_ret]
           go_ret
           exact ⟨_, rfl, G.out, Tells.no fun h => by obtain ⟨x, hx, hn⟩ := h4.out; exact hn (h.2.2.2.2.1 x hx)⟩
          ·go_wp2_with fail
           clear m0 m1 m2 m3 m4 m5 m6 m7 m8 m9 m10
           refine (rule_containsI w6 P.p6 M.rules.length P.c6 M.rules _ _ HM.out.rules rfl (by have := h3.out; omega) (prd_2 w6 P M bm TM.out HM.out HF.out)).mono ?_
           rintro _ w7 ⟨v7, rfl, g7, z7⟩
           have GL := Lib.hid (GL.out.trans g7)
           have G := Lib.hid (G.out.trans g7)
           have TM := Lib.hid (TM.out.grow g7)
           have HM := Lib.hid (HM.out.grow g7)
           clear g7
           rcases z7.cases with ⟨rfl, k1⟩ | ⟨rfl, k1⟩ <;> have h5 := Lib.hid k1 <;> clear k1 z7
           ·go_wp2_with fail
            try rw [Exit.noGoto_ret]
            go_ret
            exact ⟨_, rfl, G.out, Tells.no fun h => by obtain ⟨x, hx, hn⟩ := h5.out; exact hn (h.2.2.2.2.2.1 x hx)⟩
           ·go_wp2_with fail
            try rw [Exit.noGoto_ret]
            go_ret
            exact ⟨_, rfl, G.out, Tells.yes ⟨h1.out, by have := h2.out; omega, by have := h3.out; omega, HNA.out, fun x hx => Classical.byContradiction fun hn => h4.out ⟨x, hx, hn⟩, fun x hx => Classical.byContradiction fun hn => h5.out ⟨x, hx, hn⟩, h7.out.1, h7.out.2.1, h7.out.2.2.1, h7.out.2.2.2⟩⟩
       ·have c1 : (M.items.length : Int) ≤ 8 := by have := h2.out; omega
        have c2 : (M.rules.length : Int) ≤ 40 := by have := h3.out; omega
        go_wp2_with fail
        try rw [Exit.noGoto_ret]
        go_ret
        exact ⟨_, rfl, G.out, Tells.no fun h => h10.out h.2.2.2.2.2.2.2.2.2⟩
      ·have c1 : (M.items.length : Int) ≤ 8 := by have := h2.out; omega
       have c2 : (M.rules.length : Int) ≤ 40 := by have := h3.out; omega
       go_wp2_with fail
       try rw [Exit.noGoto_ret]
       go_ret
       exact ⟨_, rfl, G.out, Tells.no fun h => h9.out h.2.2.2.2.2.2.2.2.1⟩
     ·have c1 : (M.items.length : Int) ≤ 8 := by have := h2.out; omega
      have c2 : (M.rules.length : Int) ≤ 40 := by have := h3.out; omega
      go_wp2_with fail
      try rw [Exit.noGoto_ret]
      go_ret
      exact ⟨_, rfl, G.out, Tells.no fun h => h8.out h.2.2.2.2.2.2.2.1⟩
    ·have c1 : (M.items.length : Int) ≤ 8 := by have := h2.out; omega
     have c2 : (M.rules.length : Int) ≤ 40 := by have := h3.out; omega
     go_wp2_with fail
     try rw [Exit.noGoto_ret]
     go_ret
     exact ⟨_, rfl, G.out, Tells.no fun h => h7.out h.2.2.2.2.2.2.1⟩
 ·have m0 := mc0 TM.out _ (Gr.refl _)
  have m1 := mc1 TM.out _ (Gr.refl _)
  have m2 := mc2 TM.out _ (Gr.refl _)
  have m3 := mc3 TM.out _ (Gr.refl _)
  have m4 := mc4 TM.out _ (Gr.refl _)
  have m5 := mc5 TM.out _ (Gr.refl _)
  have m6 := mc6 TM.out _ (Gr.refl _)
  have m7 := mc7 TM.out _ (Gr.refl _)
  have m8 := mc8 TM.out _ (Gr.refl _)
  have m9 := mc9 TM.out _ (Gr.refl _)
  have m10 := mc10 TM.out _ (Gr.refl _)
  go_wp2_with fail
  go_ret
  exact ⟨_, rfl, G.out, Tells.no fun h => h1.out h.1⟩
end Go.Proofs.YtnlocdijdfclcaaGreatDoor

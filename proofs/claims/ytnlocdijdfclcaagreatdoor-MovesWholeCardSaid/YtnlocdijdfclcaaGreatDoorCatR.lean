/-
 exodusref15.Valid.
-/
import Derived.Test.YtnlocdijdfclcaaGreatDoorCatP
import Derived.Test.YtnlocdijdfclcaaGreatDoorCatF
namespace Go.Proofs.YtnlocdijdfclcaaGreatDoor
open Go.RowKit Go.Lib Lex
set_option linter.unusedVariables false
set_option linter.unusedSimpArgs false

theorem MdlOK.item {M : Mdl} (h : MdlOK M) : ∀ x ∈ M.items, ItemOK M x := h.2.2.2.2.1
theorem MdlOK.rule {M : Mdl} (h : MdlOK M) : ∀ x ∈ M.rules, RuleOK M x := h.2.2.2.2.2.1
set_option maxRecDepth 100000 in
set_option maxHeartbeats 1600000 in
theorem ref_Valid15 (w : World) (P : Ptrs) (M : Mdl) (hm : MdlAt w P M) (hf : Few M) :
  Calls Tryz.prog 34 #[.agg (mcells P M)] w (Ret w fun r _ => Tells (MdlOK M) r) := by
 have HF := Lib.hid hf
 clear hf
 have HM := Lib.hid hm
 have B := Cells.new w (mcells P M) 29
 clear hm
 have m0 := mc0 B.2 _ (Gr.refl _)
 have m1 := mc1 B.2 _ (Gr.refl _)
 have m2 := mc2 B.2 _ (Gr.refl _)
 have m3 := mc3 B.2 _ (Gr.refl _)
 have m4 := mc4 B.2 _ (Gr.refl _)
 have m5 := mc5 B.2 _ (Gr.refl _)
 have m6 := mc6 B.2 _ (Gr.refl _)
 have m7 := mc7 B.2 _ (Gr.refl _)
 have m8 := mc8 B.2 _ (Gr.refl _)
 have m9 := mc9 B.2 _ (Gr.refl _)
 have m10 := mc10 B.2 _ (Gr.refl _)
 unfold mcells at B m0 m1 m2 m3 m4 m5 m6 m7 m8 m9 m10 ⊢
 go_enter Tryz.func34, Tryz.ntmps34
 go_wp2_with fail
 clear m0 m1 m2 m3 m4 m5 m6 m7 m8 m9 m10
 generalize w.heap.size = bm at B ⊢
 generalize w.alloc _ = W at B ⊢
 obtain ⟨g0, tm⟩ := B
 have TM := Lib.hid (show Cells W bm (mcells P M) from tm)
 have G := Lib.hid g0
 have HM := Lib.hid (HM.out.grow g0)
 clear g0 tm
 have m0 := mc0 TM.out _ (Gr.refl _)
 have m1 := mc1 TM.out _ (Gr.refl _)
 have m2 := mc2 TM.out _ (Gr.refl _)
 have m3 := mc3 TM.out _ (Gr.refl _)
 have m4 := mc4 TM.out _ (Gr.refl _)
 have m5 := mc5 TM.out _ (Gr.refl _)
 have m6 := mc6 TM.out _ (Gr.refl _)
 have m7 := mc7 TM.out _ (Gr.refl _)
 have m8 := mc8 TM.out _ (Gr.refl _)
 have m9 := mc9 TM.out _ (Gr.refl _)
 have m10 := mc10 TM.out _ (Gr.refl _)
 clear m0 m1 m2 m3 m4 m5 m6 m7 m8 m9 m10
 refine (ref_Valid14 W P M HM.out HF.out).mono ?_
 rintro _ w1 ⟨v1, rfl, g1, z1⟩
 have G := Lib.hid (G.out.trans g1)
 have TM := Lib.hid (TM.out.grow g1)
 have HM := Lib.hid (HM.out.grow g1)
 clear g1
 rcases z1.cases with ⟨rfl, k1⟩ | ⟨rfl, k1⟩ <;> have h1 := Lib.hid k1 <;> clear k1 z1
 ·have m0 := mc0 TM.out _ (Gr.refl _)
  have m1 := mc1 TM.out _ (Gr.refl _)
  have m2 := mc2 TM.out _ (Gr.refl _)
  have m3 := mc3 TM.out _ (Gr.refl _)
  have m4 := mc4 TM.out _ (Gr.refl _)
  have m5 := mc5 TM.out _ (Gr.refl _)
  have m6 := mc6 TM.out _ (Gr.refl _)
  have m7 := mc7 TM.out _ (Gr.refl _)
  have m8 := mc8 TM.out _ (Gr.refl _)
  have m9 := mc9 TM.out _ (Gr.refl _)
  have m10 := mc10 TM.out _ (Gr.refl _)
  by_cases c1 : (8 : Int) < (M.items.length : Int)
  ·have h2 := Lib.hid c1
   go_wp2_with fail
   try rw [Exit.noGoto_ret]
   go_ret
   exact ⟨_, rfl, G.out, Tells.no fun h => by have := h2.out; have := h.2.1; omega⟩
  ·have h2 := Lib.hid c1
   by_cases c2 : (40 : Int) < (M.rules.length : Int)
   ·have h3 := Lib.hid c2
    go_wp2_with fail
    try rw [Exit.noGoto_ret]
    go_ret
    exact ⟨_, rfl, G.out, Tells.no fun h => by have := h3.out; have := h.2.2.1; omega⟩
   ·have h3 := Lib.hid c2
    go_wp2_with fail
    clear m0 m1 m2 m3 m4 m5 m6 m7 m8 m9 m10
    refine (ref_names _ P M HM.out HF.out).mono ?_
    rintro _ w2 ⟨v1, rfl, g1, z1⟩
    have G := Lib.hid (G.out.trans g1)
    have TM := Lib.hid (TM.out.grow g1)
    have HM := Lib.hid (HM.out.grow g1)
    clear g1
    rcases z1.cases with ⟨rfl, k1⟩ | ⟨rfl, k1⟩ <;> have h4 := Lib.hid k1 <;> clear k1 z1
    ·have c1 : (M.items.length : Int) ≤ 8 := by have := h2.out; omega
     have c2 : (M.rules.length : Int) ≤ 40 := by have := h3.out; omega
     go_wp2_with fail
     clear c1 c2
     go_loopw [3] (fun i w9 => ∃ k : Nat, i = .int .i64 k ∧ k ≤ M.items.length ∧ (∀ i x, i < k → M.items[i]? = some x → ItemOK M x) ∧ Gr w2 w9) (fun i _ => M.items.length - (RowKit.intOf i).toNat)
     case atStart => exact ⟨0, rfl, Nat.zero_le _, fun i s hi => by omega, Gr.refl _⟩
     case round =>
      obtain ⟨k, rfl, hk, hp, hg⟩ := hrel
      have HP := Lib.hid hp
      have GL := Lib.hid hg
      clear hp hg
      have TM := Lib.hid (TM.out.grow GL.out)
      have HM := Lib.hid (HM.out.grow GL.out)
      have G := Lib.hid (G.out.trans GL.out)
      by_cases hlt : k < M.items.length
      ·have hlt' : (k : Int) < (M.items.length : Int) := by omega
       obtain ⟨b, o, x, hpp, hx, hc⟩ := item_at HM.out.items rfl hlt
       have hin := List.mem_of_getElem? hx
       have HX := Lib.hid hx
       have HI := Lib.hid hin
       have hlen := (show x.on.length ≤ 1000000 by have := (HF.out.2.2.2.2.2.1 x HI.out).2; omega)
       have hon := HM.out.ons x hin
       clear hx hin
       have HPP := Lib.hid hpp
       have HC := Lib.hid hc
       clear hpp hc
       have m0 := mc0 TM.out _ (Gr.refl _)
       have m1 := mc1 TM.out _ (Gr.refl _)
       have m2 := mc2 TM.out _ (Gr.refl _)
       have m3 := mc3 TM.out _ (Gr.refl _)
       have m4 := mc4 TM.out _ (Gr.refl _)
       have m5 := mc5 TM.out _ (Gr.refl _)
       have m6 := mc6 TM.out _ (Gr.refl _)
       have m7 := mc7 TM.out _ (Gr.refl _)
       have m8 := mc8 TM.out _ (Gr.refl _)
       have m9 := mc9 TM.out _ (Gr.refl _)
       have m10 := mc10 TM.out _ (Gr.refl _)
       go_wp2_with fail
       clear m0 m1 m2 m3 m4 m5 m6 m7 m8 m9 m10
       have m0 := mc0 TM.out
       have m1 := mc1 TM.out
       have m2 := mc2 TM.out
       have m3 := mc3 TM.out
       have m4 := mc4 TM.out
       have m5 := mc5 TM.out
       have m6 := mc6 TM.out
       have m7 := mc7 TM.out
       have m8 := mc8 TM.out
       have m9 := mc9 TM.out
       have m10 := mc10 TM.out
       try dsimp only at m0 m1 m2 m3 m4 m5 m6 m7 m8 m9 m10
       rw [HPP.out] at m5
       have g0 : Gr wr wr.drew := (Gr.refl _).drew
       have c0 := fun w' g => (HC.out w' g).1
       have c1 := fun w' g => (HC.out w' g).2.1
       have c2 := fun w' g => (HC.out w' g).2.2.1
       have c3 := fun w' g => (HC.out w' g).2.2.2.1
       have c4 := fun w' g => (HC.out w' g).2.2.2.2.1
       have c5 := fun w' g => (HC.out w' g).2.2.2.2.2.1
       have c6 := fun w' g => (HC.out w' g).2.2.2.2.2.2
       refine wp_region_fast [(0, true), (1, true), (2, true), (3, true), (4, true), (5, true), (6, false), (7, true)] (by kernel_rfl) (by kernel_rfl) rfl (by kernel_rfl) (fun _ _ d _ _ h => by cases d <;> exact h) ?_
       repeat (refine wpE_readB (v := ?_) g0 rfl rfl (fun w' hg => ?_) (fun K hK => ?_); rotate_left; (go_simp; rfl); go_simp; refine hK _ _ ?_; clear hK K)
       refine wpE_fn (args := ?_) rfl rfl rfl rfl rfl rfl (by kernel_rfl) (by kernel_rfl) ?_ (fun K hK => ?_)
       rotate_left
       ·go_simp; rfl
       have hcall := ref_Item wr.drew P M x (HM.out.grow g0) (ItemOn.grow hon g0) hlen
       unfold mcells at hcall
       rw [HPP.out] at hcall
       refine hcall.mono ?_
       clear hcall
       rintro _ w4 ⟨r4, rfl, g4, z4⟩
       refine ⟨_, rfl, g4, ?_⟩
       go_simp
       refine hK _ _ ?_
       clear hK K
       replace g0 := g0.trans g4
       rcases z4.cases with ⟨rfl, k1⟩ | ⟨rfl, k1⟩ <;> have hok := Lib.hid k1 <;> clear k1 z4
       ·repeat (refine wpE_readB (v := ?_) g0 rfl rfl (fun w' hg => ?_) (fun K hK => ?_); rotate_left; (go_simp; rfl); go_simp; refine hK _ _ ?_; clear hK K)
        refine wpE_nil ?_
        have G0 := Lib.hid g0
        clear c0 c1 c2 c3 c4 c5 c6 m0 m1 m2 m3 m4 m5 m6 m7 m8 m9 m10 g0 g4
        have hB := HF.out.1
        go_wp2_with fail
        refine ⟨⟨k + 1, by go_num, by omega, fun i s hi hs => ?_, GL.out.trans G0.out⟩, by simp [RowKit.intOf]; omega⟩
        rcases Nat.lt_or_ge i k with h | h
        ·exact HP.out i s h hs
        ·obtain rfl : i = k := by omega
         have e : s = x := by have := hs.symm.trans HX.out; simpa using this
         subst e
         exact hok.out
       ·repeat (refine wpE_readB (v := ?_) g0 rfl rfl (fun w' hg => ?_) (fun K hK => ?_); rotate_left; (go_simp; rfl); go_simp; refine hK _ _ ?_; clear hK K)
        refine wpE_nil ?_
        have G := Lib.hid (G.out.trans g0)
        clear c0 c1 c2 c3 c4 c5 c6 m0 m1 m2 m3 m4 m5 m6 m7 m8 m9 m10 g0 g4
        go_wp2_with fail
        try rw [Exit.noGoto_ret]
        go_ret
        exact ⟨_, rfl, G.out, Tells.no fun h => hok.out (MdlOK.item h x HI.out)⟩
      ·obtain rfl : k = M.items.length := by omega
       have h5 := Lib.hid (show ∀ x ∈ M.items, ItemOK M x from fun x hx => by
        obtain ⟨i, hi, e⟩ := List.getElem_of_mem hx
        exact HP.out i x hi (by rw [List.getElem?_eq_getElem hi, e]))
       have m0 := mc0 TM.out _ (Gr.refl _)
       have m1 := mc1 TM.out _ (Gr.refl _)
       have m2 := mc2 TM.out _ (Gr.refl _)
       have m3 := mc3 TM.out _ (Gr.refl _)
       have m4 := mc4 TM.out _ (Gr.refl _)
       have m5 := mc5 TM.out _ (Gr.refl _)
       have m6 := mc6 TM.out _ (Gr.refl _)
       have m7 := mc7 TM.out _ (Gr.refl _)
       have m8 := mc8 TM.out _ (Gr.refl _)
       have m9 := mc9 TM.out _ (Gr.refl _)
       have m10 := mc10 TM.out _ (Gr.refl _)
       go_wp2_with fail
       clear m0 m1 m2 m3 m4 m5 m6 m7 m8 m9 m10
       clear hlt hk
       go_loopw [4] (fun i w9 => ∃ k : Nat, i = .int .i64 k ∧ k ≤ M.rules.length ∧ (∀ i x, i < k → M.rules[i]? = some x → RuleOK M x) ∧ Gr wr w9) (fun i _ => M.rules.length - (RowKit.intOf i).toNat)
       case atStart => exact ⟨0, rfl, Nat.zero_le _, fun i s hi => by omega, Gr.refl _⟩
       case round =>
        obtain ⟨k, rfl, hk, hp, hg⟩ := hrel
        have HP := Lib.hid hp
        have GL := Lib.hid hg
        clear hp hg
        have TM := Lib.hid (TM.out.grow GL.out)
        have HM := Lib.hid (HM.out.grow GL.out)
        have G := Lib.hid (G.out.trans GL.out)
        by_cases hlt : k < M.rules.length
        ·have hlt' : (k : Int) < (M.rules.length : Int) := by omega
         obtain ⟨b, o, x, hpp, hx, hc⟩ := rule_at HM.out.rules rfl hlt
         have hin := List.mem_of_getElem? hx
         have HX := Lib.hid hx
         have HI := Lib.hid hin
         have hlen := (show x.ms.length ≤ 1000000 by have := HF.out.2.2.2.2.2.2 x HI.out; omega)
         have hon := HM.out.mss x hin
         clear hx hin
         have HPP := Lib.hid hpp
         have HC := Lib.hid hc
         clear hpp hc
         have m0 := mc0 TM.out _ (Gr.refl _)
         have m1 := mc1 TM.out _ (Gr.refl _)
         have m2 := mc2 TM.out _ (Gr.refl _)
         have m3 := mc3 TM.out _ (Gr.refl _)
         have m4 := mc4 TM.out _ (Gr.refl _)
         have m5 := mc5 TM.out _ (Gr.refl _)
         have m6 := mc6 TM.out _ (Gr.refl _)
         have m7 := mc7 TM.out _ (Gr.refl _)
         have m8 := mc8 TM.out _ (Gr.refl _)
         have m9 := mc9 TM.out _ (Gr.refl _)
         have m10 := mc10 TM.out _ (Gr.refl _)
         go_wp2_with fail
         clear m0 m1 m2 m3 m4 m5 m6 m7 m8 m9 m10
         have m0 := mc0 TM.out
         have m1 := mc1 TM.out
         have m2 := mc2 TM.out
         have m3 := mc3 TM.out
         have m4 := mc4 TM.out
         have m5 := mc5 TM.out
         have m6 := mc6 TM.out
         have m7 := mc7 TM.out
         have m8 := mc8 TM.out
         have m9 := mc9 TM.out
         have m10 := mc10 TM.out
         try dsimp only at m0 m1 m2 m3 m4 m5 m6 m7 m8 m9 m10
         rw [HPP.out] at m10
         have g0 : Gr wr wr.drew := (Gr.refl _).drew
         have c0 := fun w' g => (HC.out w' g).1
         have c1 := fun w' g => (HC.out w' g).2.1
         have c2 := fun w' g => (HC.out w' g).2.2.1
         have c3 := fun w' g => (HC.out w' g).2.2.2.1
         have c4 := fun w' g => (HC.out w' g).2.2.2.2.1
         have c5 := fun w' g => (HC.out w' g).2.2.2.2.2.1
         have c6 := fun w' g => (HC.out w' g).2.2.2.2.2.2
         refine wp_region_fast [(0, true), (1, true), (2, true), (3, true), (4, true), (5, true), (6, false), (7, true)] (by kernel_rfl) (by kernel_rfl) rfl (by kernel_rfl) (fun _ _ d _ _ h => by cases d <;> exact h) ?_
         repeat (refine wpE_readB (v := ?_) g0 rfl rfl (fun w' hg => ?_) (fun K hK => ?_); rotate_left; (go_simp; rfl); go_simp; refine hK _ _ ?_; clear hK K)
         refine wpE_fn (args := ?_) rfl rfl rfl rfl rfl rfl (by kernel_rfl) (by kernel_rfl) ?_ (fun K hK => ?_)
         rotate_left
         ·go_simp; rfl
         have hcall := ref_Rule wr.drew P M x (HM.out.grow g0) (RuleMs.grow hon g0) hlen
         unfold mcells at hcall
         rw [HPP.out] at hcall
         refine hcall.mono ?_
         clear hcall
         rintro _ w4 ⟨r4, rfl, g4, z4⟩
         refine ⟨_, rfl, g4, ?_⟩
         go_simp
         refine hK _ _ ?_
         clear hK K
         replace g0 := g0.trans g4
         rcases z4.cases with ⟨rfl, k1⟩ | ⟨rfl, k1⟩ <;> have hok := Lib.hid k1 <;> clear k1 z4
         ·repeat (refine wpE_readB (v := ?_) g0 rfl rfl (fun w' hg => ?_) (fun K hK => ?_); rotate_left; (go_simp; rfl); go_simp; refine hK _ _ ?_; clear hK K)
          refine wpE_nil ?_
          have G0 := Lib.hid g0
          clear c0 c1 c2 c3 c4 c5 c6 m0 m1 m2 m3 m4 m5 m6 m7 m8 m9 m10 g0 g4
          have hB := HF.out.1
          go_wp2_with fail
          refine ⟨⟨k + 1, by go_num, by omega, fun i s hi hs => ?_, GL.out.trans G0.out⟩, by simp [RowKit.intOf]; omega⟩
          rcases Nat.lt_or_ge i k with h | h
          ·exact HP.out i s h hs
          ·obtain rfl : i = k := by omega
           have e : s = x := by have := hs.symm.trans HX.out; simpa using this
           subst e
           exact hok.out
         ·repeat (refine wpE_readB (v := ?_) g0 rfl rfl (fun w' hg => ?_) (fun K hK => ?_); rotate_left; (go_simp; rfl); go_simp; refine hK _ _ ?_; clear hK K)
          refine wpE_nil ?_
          have G := Lib.hid (G.out.trans g0)
          clear c0 c1 c2 c3 c4 c5 c6 m0 m1 m2 m3 m4 m5 m6 m7 m8 m9 m10 g0 g4
          go_wp2_with fail
          try rw [Exit.noGoto_ret]
          go_ret
          exact ⟨_, rfl, G.out, Tells.no fun h => hok.out (MdlOK.rule h x HI.out)⟩
        ·obtain rfl : k = M.rules.length := by omega
         have h6 := Lib.hid (show ∀ x ∈ M.rules, RuleOK M x from fun x hx => by
          obtain ⟨i, hi, e⟩ := List.getElem_of_mem hx
          exact HP.out i x hi (by rw [List.getElem?_eq_getElem hi, e]))
         have m0 := mc0 TM.out _ (Gr.refl _)
         have m1 := mc1 TM.out _ (Gr.refl _)
         have m2 := mc2 TM.out _ (Gr.refl _)
         have m3 := mc3 TM.out _ (Gr.refl _)
         have m4 := mc4 TM.out _ (Gr.refl _)
         have m5 := mc5 TM.out _ (Gr.refl _)
         have m6 := mc6 TM.out _ (Gr.refl _)
         have m7 := mc7 TM.out _ (Gr.refl _)
         have m8 := mc8 TM.out _ (Gr.refl _)
         have m9 := mc9 TM.out _ (Gr.refl _)
         have m10 := mc10 TM.out _ (Gr.refl _)
         go_wp2_with fail
         clear m0 m1 m2 m3 m4 m5 m6 m7 m8 m9 m10
         refine (ref_Exists _ _ _).mono ?_
         rintro _ w7 ⟨⟨v7, rfl, z7⟩, rfl⟩
         have m0 := mc0 TM.out _ (Gr.refl _)
         have m1 := mc1 TM.out _ (Gr.refl _)
         have m2 := mc2 TM.out _ (Gr.refl _)
         have m3 := mc3 TM.out _ (Gr.refl _)
         have m4 := mc4 TM.out _ (Gr.refl _)
         have m5 := mc5 TM.out _ (Gr.refl _)
         have m6 := mc6 TM.out _ (Gr.refl _)
         have m7 := mc7 TM.out _ (Gr.refl _)
         have m8 := mc8 TM.out _ (Gr.refl _)
         have m9 := mc9 TM.out _ (Gr.refl _)
         have m10 := mc10 TM.out _ (Gr.refl _)
         rcases z7.cases with ⟨rfl, k1⟩ | ⟨rfl, k1⟩ <;> have h7 := Lib.hid k1 <;> clear k1 z7
         ·go_wp2_with fail
          refine (ref_within _ _ _ _).mono ?_
          rintro _ w1 ⟨⟨v1, rfl, h1⟩, rfl⟩
          rcases h1.cases with ⟨rfl, k1⟩ | ⟨rfl, k1⟩ <;> have h8 := Lib.hid k1 <;> clear k1 h1
          ·have hw8 : IntKind.i64.wrap (M.slots - 1) = M.slots - 1 := by have := h8.out; unfold Within at this; rw [IntKind.wrap_i64]; omega
           go_wp2_with fail
           refine (ref_within _ _ _ _).mono ?_
           rintro _ w1 ⟨⟨v1, rfl, h1⟩, rfl⟩
           rcases h1.cases with ⟨rfl, k1⟩ | ⟨rfl, k1⟩ <;> have h9 := Lib.hid k1 <;> clear k1 h1
           ·go_wp2_with fail
            refine (ref_within _ _ _ _).mono ?_
            rintro _ w1 ⟨⟨v1, rfl, h1⟩, rfl⟩
            rcases h1.cases with ⟨rfl, k1⟩ | ⟨rfl, k1⟩ <;> have h10 := Lib.hid k1 <;> clear k1 h1
            ·go_wp2_with fail
             go_ret
             exact ⟨_, rfl, G.out, Tells.yes ⟨h1.out, by have := h2.out; omega, by have := h3.out; omega, h4.out, h5.out, h6.out, h7.out, h8.out, h9.out, h10.out⟩⟩
            ·go_wp2_with fail
             try rw [Exit.noGoto_ret]
             go_ret
             exact ⟨_, rfl, G.out, Tells.no fun h => h10.out h.2.2.2.2.2.2.2.2.2⟩
           ·go_wp2_with fail
            try rw [Exit.noGoto_ret]
            go_ret
            exact ⟨_, rfl, G.out, Tells.no fun h => h9.out h.2.2.2.2.2.2.2.2.1⟩
          ·go_wp2_with fail
           try rw [Exit.noGoto_ret]
           go_ret
           exact ⟨_, rfl, G.out, Tells.no fun h => h8.out h.2.2.2.2.2.2.2.1⟩
         ·go_wp2_with fail
          try rw [Exit.noGoto_ret]
          go_ret
          exact ⟨_, rfl, G.out, Tells.no fun h => h7.out h.2.2.2.2.2.2.1⟩
    ·have c1 : (M.items.length : Int) ≤ 8 := by have := h2.out; omega
     have c2 : (M.rules.length : Int) ≤ 40 := by have := h3.out; omega
     go_wp2_with fail
     try rw [Exit.noGoto_ret]
     go_ret
     exact ⟨_, rfl, G.out, Tells.no fun h => h4.out h.2.2.2.1⟩
 ·have m0 := mc0 TM.out _ (Gr.refl _)
  have m1 := mc1 TM.out _ (Gr.refl _)
  have m2 := mc2 TM.out _ (Gr.refl _)
  have m3 := mc3 TM.out _ (Gr.refl _)
  have m4 := mc4 TM.out _ (Gr.refl _)
  have m5 := mc5 TM.out _ (Gr.refl _)
  have m6 := mc6 TM.out _ (Gr.refl _)
  have m7 := mc7 TM.out _ (Gr.refl _)
  have m8 := mc8 TM.out _ (Gr.refl _)
  have m9 := mc9 TM.out _ (Gr.refl _)
  have m10 := mc10 TM.out _ (Gr.refl _)
  go_wp2_with fail
  try rw [Exit.noGoto_ret]
  go_ret
  exact ⟨_, rfl, G.out, Tells.no fun h => h1.out h.1⟩
end Go.Proofs.YtnlocdijdfclcaaGreatDoor

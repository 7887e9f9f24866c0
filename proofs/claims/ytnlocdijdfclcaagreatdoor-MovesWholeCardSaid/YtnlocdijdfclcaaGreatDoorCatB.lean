/-
  exodusref15.Machines, catalog.machines.
  exodusref15.Item.
-/
import Derived.Test.YtnlocdijdfclcaaGreatDoorSiteE
namespace Go.Proofs.YtnlocdijdfclcaaGreatDoor
open Go.RowKit Go.Lib Lex
set_option linter.unusedVariables false
set_option linter.unusedSimpArgs false

def MsUp (M : Mdl) (l : List Int) (k : Nat) : Prop := ∀ i n, i < k → l[i]? = some n → Ex n M.machs.length ∧ (0 < i → ∀ p, l[i - 1]? = some p → p < n)
theorem MsUp.step {M : Mdl} {l : List Int} {k : Nat} {x : Int} (h : MsUp M l k) (hx : l[k]? = some x) (h1 : Ex x M.machs.length) (h2 : 0 < k → ∀ p, l[k - 1]? = some p → p < x) : MsUp M l (k + 1) := fun i n hi hn => by
 by_cases e : i = k
 ·subst e
  rw [hx] at hn
  cases hn
  exact ⟨h1, h2⟩
 ·exact h i n (by omega) hn
theorem MsUp.all {M : Mdl} {l : List Int} (h : MsUp M l l.length) (hne : l ≠ []) : MsOK M l := ⟨hne, fun i n hn => h i n (List.getElem?_eq_some_iff.1 hn).1 hn⟩

set_option maxRecDepth 100000 in
set_option maxHeartbeats 1600000 in
theorem ref_Machines (w : World) (P : Ptrs) (M : Mdl) (p : Option Addr) (c : Nat) (l : List Int) (hm : MdlAt w P M) (hl : IntL w (.slice p l.length c) l) (hb : l.length ≤ 1000000) :
  Calls Tryz.prog 98 #[.agg (mcells P M), .slice p l.length c] w (Ret w fun r _ => Tells (MsOK M l) r) := by
 have HL := Lib.hid hl
 clear hl
 have HM := Lib.hid hm
 have B := Cells.new w (mcells P M) 29
 clear hm
 have m0 := mc0 B.2 _ (Gr.refl _)
 have m1 := mc1 B.2 _ (Gr.refl _)
 have m2 := mc2 B.2 _ (Gr.refl _)
 have m3 := mc3 B.2 _ (Gr.refl _)
 have m4 := mc4 B.2 _ (Gr.refl _)
 have m5 := mc5 B.2 _ (Gr.refl _)
 have m6 := mc6 B.2 _ (Gr.refl _)
 have m7 := mc7 B.2 _ (Gr.refl _)
 have m8 := mc8 B.2 _ (Gr.refl _)
 have m9 := mc9 B.2 _ (Gr.refl _)
 have m10 := mc10 B.2 _ (Gr.refl _)
 unfold mcells at B m0 m1 m2 m3 m4 m5 m6 m7 m8 m9 m10 ⊢
 go_enter Tryz.func98, Tryz.ntmps98
 go_wp2_with fail
 clear m0 m1 m2 m3 m4 m5 m6 m7 m8 m9 m10
 generalize w.heap.size = bm at B ⊢
 generalize w.alloc _ = W at B ⊢
 obtain ⟨g0, tm⟩ := B
 have TM := Lib.hid (show Cells W bm (mcells P M) from tm)
 have G := Lib.hid g0
 have HM := Lib.hid (HM.out.grow g0)
 clear g0 tm
 have m0 := mc0 TM.out _ (Gr.refl _)
 have m1 := mc1 TM.out _ (Gr.refl _)
 have m2 := mc2 TM.out _ (Gr.refl _)
 have m3 := mc3 TM.out _ (Gr.refl _)
 have m4 := mc4 TM.out _ (Gr.refl _)
 have m5 := mc5 TM.out _ (Gr.refl _)
 have m6 := mc6 TM.out _ (Gr.refl _)
 have m7 := mc7 TM.out _ (Gr.refl _)
 have m8 := mc8 TM.out _ (Gr.refl _)
 have m9 := mc9 TM.out _ (Gr.refl _)
 have m10 := mc10 TM.out _ (Gr.refl _)
 clear m0 m1 m2 m3 m4 m5 m6 m7 m8 m9 m10
 obtain ⟨p0, c0, p1, c1, p2, c2, p3, c3, p4, c4, p5, c5, p6, c6⟩ := P
 try dsimp only
 have HL := Lib.hid (HL.out.grow G.out)
 go_loopw [5] (fun i w1 => ∃ k : Nat, i = .int .i64 k ∧ k ≤ l.length ∧ MsUp M l k ∧ Gr W w1) (fun i _ => l.length - (RowKit.intOf i).toNat)
 case atStart => exact ⟨0, rfl, Nat.zero_le _, fun i n hi => by omega, Gr.refl _⟩
 case round =>
  obtain ⟨k, rfl, hk, hp, g1⟩ := hrel
  have HP := Lib.hid hp
  have G := Lib.hid (G.out.trans g1)
  have HL := Lib.hid (HL.out.grow g1)
  have TM := Lib.hid (TM.out.grow g1)
  have G1 := Lib.hid g1
  clear hp g1
  by_cases hlt : k < l.length
  ·have hlt' : (k : Int) < (l.length : Int) := by omega
   obtain ⟨b, o, x, rfl, hx, hc⟩ := int_at HL.out rfl hlt
   have HX := Lib.hid hx
   have m3 := mc3 TM.out
   dsimp only at m3
   clear hx
   by_cases h0 : k = 0
   ·subst h0
    have hc0 : ∀ w', Gr wr w' → w'.cell? ⟨b, o, none⟩ = some (.int .i64 x) := hc
    clear hc
    go_wp2_with fail
    refine wp_region_fast [(0, true), (1, true), (2, true), (3, true), (4, true), (5, true), (6, true), (7, false), (8, true), (9, true), (10, true), (11, true), (12, true), (13, true), (14, true), (15, true), (16, true), (17, true), (18, true), (19, true), (20, true), (21, true), (22, true), (23, true), (24, true)] (by kernel_rfl) (by kernel_rfl) rfl (by kernel_rfl) (fun _ _ d _ _ h => by cases d <;> exact h) ?_
    have g0 : Gr wr wr.drew := (Gr.refl _).drew
    have G := Lib.hid (G.out.trans g0)
    have G1 := Lib.hid (G1.out.trans g0)
    repeat (refine wpE_readB (v := ?_) g0 rfl rfl (fun w' hg => ?_) (fun K hK => ?_); rotate_left; (go_simp; rfl); go_simp; refine hK _ _ ?_; clear hK K)
    refine wpE_fn (args := ?_) rfl rfl rfl rfl rfl rfl (by kernel_rfl) (by kernel_rfl) ?_ (fun K hK => ?_)
    rotate_left
    ·go_simp; rfl
    refine (ref_Exists _ _ _).mono ?_
    rintro _ _ ⟨⟨v1, rfl, h1⟩, rfl⟩
    rcases h1.cases with ⟨rfl, k1⟩ | ⟨rfl, k1⟩ <;> have H1 := Lib.hid k1 <;> clear k1 h1
    ·refine ⟨_, rfl, Gr.refl _, ?_⟩
     go_simp
     refine hK _ _ ?_
     clear hK K
     repeat (refine wpE_readB (v := ?_) g0 rfl rfl (fun w' hg => ?_) (fun K hK => ?_); rotate_left; (go_simp; rfl); go_simp; refine hK _ _ ?_; clear hK K)
     repeat (refine wpE_skip rfl rfl ?_; go_simp)
     have HS := Lib.hid (HP.out.step HX.out H1.out (fun h => absurd h (by omega)))
     repeat (refine wpE_readB (v := ?_) g0 rfl rfl (fun w' hg => ?_) (fun K hK => ?_); rotate_left; (go_simp; rfl); go_simp; refine hK _ _ ?_; clear hK K)
     refine wpE_nil ?_
     go_wp2_with fail
     refine ⟨⟨1, by go_num, by omega, HS.out, G1.out⟩, by simp [RowKit.intOf]; omega⟩
    ·refine ⟨_, rfl, Gr.refl _, ?_⟩
     go_simp
     refine hK _ _ ?_
     clear hK K
     repeat (refine wpE_readB (v := ?_) g0 rfl rfl (fun w' hg => ?_) (fun K hK => ?_); rotate_left; (go_simp; rfl); go_simp; refine hK _ _ ?_; clear hK K)
     repeat (refine wpE_skip rfl rfl ?_; go_simp)
     repeat (refine wpE_readB (v := ?_) g0 rfl rfl (fun w' hg => ?_) (fun K hK => ?_); rotate_left; (go_simp; rfl); go_simp; refine hK _ _ ?_; clear hK K)
     refine wpE_nil ?_
     go_wp2_with fail
     go_ret
     exact ⟨_, rfl, G.out, Tells.no fun h => H1.out (h.2 0 x HX.out).1⟩
   ·obtain ⟨j, rfl⟩ : ∃ j, k = j + 1 := ⟨k - 1, by omega⟩
    obtain ⟨_, _, y, hbo, hy, hd⟩ := int_at HL.out rfl (show j < l.length by omega)
    cases hbo
    have HY := Lib.hid hy
    have hjl : j < l.length := by omega
    clear hy h0
    have hjl' : (j : Int) < (l.length : Int) := by omega
    have hwj : IntKind.i64.wrap (j : Int) = (j : Int) := by rw [IntKind.wrap_i64]; omega
    have hpj : (0 : Int) < (j : Int) + 1 := by omega
    by_cases hyx : y < x
    ·have hyx' : ¬ x ≤ y := by omega
     have HYX := Lib.hid hyx
     go_wp2_with fail
     refine wp_region_fast [(0, true), (1, true), (2, true), (3, true), (4, true), (5, true), (6, true), (7, false), (8, true), (9, true), (10, true), (11, true), (12, true), (13, true), (14, true), (15, true), (16, true), (17, true), (18, true), (19, true), (20, true), (21, true), (22, true), (23, true), (24, true)] (by kernel_rfl) (by kernel_rfl) rfl (by kernel_rfl) (fun _ _ d _ _ h => by cases d <;> exact h) ?_
     have g0 : Gr wr wr.drew := (Gr.refl _).drew
     have G := Lib.hid (G.out.trans g0)
     have G1 := Lib.hid (G1.out.trans g0)
     repeat (refine wpE_readB (v := ?_) g0 rfl rfl (fun w' hg => ?_) (fun K hK => ?_); rotate_left; (go_simp; rfl); go_simp; refine hK _ _ ?_; clear hK K)
     refine wpE_fn (args := ?_) rfl rfl rfl rfl rfl rfl (by kernel_rfl) (by kernel_rfl) ?_ (fun K hK => ?_)
     rotate_left
     ·go_simp; rfl
     refine (ref_Exists _ _ _).mono ?_
     rintro _ _ ⟨⟨v1, rfl, h1⟩, rfl⟩
     rcases h1.cases with ⟨rfl, k1⟩ | ⟨rfl, k1⟩ <;> have H1 := Lib.hid k1 <;> clear k1 h1
     ·refine ⟨_, rfl, Gr.refl _, ?_⟩
      go_simp
      refine hK _ _ ?_
      clear hK K
      repeat (refine wpE_readB (v := ?_) g0 rfl rfl (fun w' hg => ?_) (fun K hK => ?_); rotate_left; (go_simp; rfl); go_simp; refine hK _ _ ?_; clear hK K)
      refine wpE_nil ?_
      have HS := Lib.hid (HP.out.step HX.out H1.out (fun _ p hp => by
       have e := HY.out.symm.trans hp
       cases e
       exact HYX.out))
      go_wp2_with fail
      refine ⟨⟨j + 1 + 1, by go_num, by omega, HS.out, G1.out⟩, by simp [RowKit.intOf]; omega⟩
     ·refine ⟨_, rfl, Gr.refl _, ?_⟩
      go_simp
      refine hK _ _ ?_
      clear hK K
      repeat (refine wpE_readB (v := ?_) g0 rfl rfl (fun w' hg => ?_) (fun K hK => ?_); rotate_left; (go_simp; rfl); go_simp; refine hK _ _ ?_; clear hK K)
      repeat (refine wpE_skip rfl rfl ?_; go_simp)
      repeat (refine wpE_readB (v := ?_) g0 rfl rfl (fun w' hg => ?_) (fun K hK => ?_); rotate_left; (go_simp; rfl); go_simp; refine hK _ _ ?_; clear hK K)
      refine wpE_nil ?_
      go_wp2_with fail
      go_ret
      exact ⟨_, rfl, G.out, Tells.no fun h => H1.out (h.2 (j + 1) x HX.out).1⟩
    ·have hyx' : x ≤ y := by omega
     go_wp2_with fail
     refine wp_region_fast [(0, true), (1, true), (2, true), (3, true), (4, true), (5, true), (6, true), (7, false), (8, true), (9, true), (10, true), (11, true), (12, true), (13, true), (14, true), (15, true), (16, true), (17, true), (18, true), (19, true), (20, true), (21, true), (22, true), (23, true), (24, true)] (by kernel_rfl) (by kernel_rfl) rfl (by kernel_rfl) (fun _ _ d _ _ h => by cases d <;> exact h) ?_
     have g0 : Gr wr wr.drew := (Gr.refl _).drew
     have G := Lib.hid (G.out.trans g0)
     have G1 := Lib.hid (G1.out.trans g0)
     repeat (refine wpE_readB (v := ?_) g0 rfl rfl (fun w' hg => ?_) (fun K hK => ?_); rotate_left; (go_simp; rfl); go_simp; refine hK _ _ ?_; clear hK K)
     refine wpE_fn (args := ?_) rfl rfl rfl rfl rfl rfl (by kernel_rfl) (by kernel_rfl) ?_ (fun K hK => ?_)
     rotate_left
     ·go_simp; rfl
     refine (ref_Exists _ _ _).mono ?_
     rintro _ _ ⟨⟨v1, rfl, h1⟩, rfl⟩
     rcases h1.cases with ⟨rfl, k1⟩ | ⟨rfl, k1⟩ <;> have H1 := Lib.hid k1 <;> clear k1 h1
     ·refine ⟨_, rfl, Gr.refl _, ?_⟩
      go_simp
      refine hK _ _ ?_
      clear hK K
      repeat (refine wpE_readB (v := ?_) g0 rfl rfl (fun w' hg => ?_) (fun K hK => ?_); rotate_left; (go_simp; rfl); go_simp; refine hK _ _ ?_; clear hK K)
      refine wpE_nil ?_
      go_wp2_with fail
      go_ret
      exact ⟨_, rfl, G.out, Tells.no fun h => by have := (h.2 (j + 1) x HX.out).2 (by omega) y HY.out; omega⟩
     ·refine ⟨_, rfl, Gr.refl _, ?_⟩
      go_simp
      refine hK _ _ ?_
      clear hK K
      repeat (refine wpE_readB (v := ?_) g0 rfl rfl (fun w' hg => ?_) (fun K hK => ?_); rotate_left; (go_simp; rfl); go_simp; refine hK _ _ ?_; clear hK K)
      repeat (refine wpE_skip rfl rfl ?_; go_simp)
      repeat (refine wpE_readB (v := ?_) g0 rfl rfl (fun w' hg => ?_) (fun K hK => ?_); rotate_left; (go_simp; rfl); go_simp; refine hK _ _ ?_; clear hK K)
      refine wpE_nil ?_
      go_wp2_with fail
      go_ret
      exact ⟨_, rfl, G.out, Tells.no fun h => H1.out (h.2 (j + 1) x HX.out).1⟩
  ·obtain rfl : k = l.length := by omega
   by_cases hne : l = []
   ·have h0 : ¬ (0 : Int) < (l.length : Int) := by rw [hne]; simp
    have h0' : ¬ 0 < l.length := by rw [hne]; simp
    have HNe := Lib.hid hne
    clear hne
    go_wp2_with fail
    go_ret
    exact ⟨_, rfl, G.out, Tells.no fun h => h.1 HNe.out⟩
   ·have h0 : (0 : Int) < (l.length : Int) := by have := List.length_pos_iff.2 hne; omega
    have h0' : 0 < l.length := List.length_pos_iff.2 hne
    have HNe := Lib.hid hne
    clear hne
    go_wp2_with fail
    go_ret
    exact ⟨_, rfl, G.out, Tells.yes (HP.out.all HNe.out)⟩

set_option maxRecDepth 100000 in
set_option maxHeartbeats 1600000 in
theorem cat_machines (w : World) (P : Ptrs) (M : Mdl) (p : Option Addr) (c : Nat) (l : List Int) (hm : MdlAt w P M) (hl : IntL w (.slice p l.length c) l) (hb : l.length ≤ 1000000) :
  Calls Tryz.prog 121 #[.agg (mcells P M), .slice p l.length c] w (Ret w fun r _ => Tells (MsOK M l) r) := by
 have HL := Lib.hid hl
 clear hl
 have HM := Lib.hid hm
 have B := Cells.new w (mcells P M) 29
 clear hm
 have m0 := mc0 B.2 _ (Gr.refl _)
 have m1 := mc1 B.2 _ (Gr.refl _)
 have m2 := mc2 B.2 _ (Gr.refl _)
 have m3 := mc3 B.2 _ (Gr.refl _)
 have m4 := mc4 B.2 _ (Gr.refl _)
 have m5 := mc5 B.2 _ (Gr.refl _)
 have m6 := mc6 B.2 _ (Gr.refl _)
 have m7 := mc7 B.2 _ (Gr.refl _)
 have m8 := mc8 B.2 _ (Gr.refl _)
 have m9 := mc9 B.2 _ (Gr.refl _)
 have m10 := mc10 B.2 _ (Gr.refl _)
 unfold mcells at B m0 m1 m2 m3 m4 m5 m6 m7 m8 m9 m10 ⊢
 go_enter Tryz.func121, Tryz.ntmps121
 go_wp2_with fail
 clear m0 m1 m2 m3 m4 m5 m6 m7 m8 m9 m10
 generalize w.heap.size = bm at B ⊢
 generalize w.alloc _ = W at B ⊢
 obtain ⟨g0, tm⟩ := B
 have TM := Lib.hid (show Cells W bm (mcells P M) from tm)
 have G := Lib.hid g0
 have HM := Lib.hid (HM.out.grow g0)
 clear g0 tm
 have m0 := mc0 TM.out _ (Gr.refl _)
 have m1 := mc1 TM.out _ (Gr.refl _)
 have m2 := mc2 TM.out _ (Gr.refl _)
 have m3 := mc3 TM.out _ (Gr.refl _)
 have m4 := mc4 TM.out _ (Gr.refl _)
 have m5 := mc5 TM.out _ (Gr.refl _)
 have m6 := mc6 TM.out _ (Gr.refl _)
 have m7 := mc7 TM.out _ (Gr.refl _)
 have m8 := mc8 TM.out _ (Gr.refl _)
 have m9 := mc9 TM.out _ (Gr.refl _)
 have m10 := mc10 TM.out _ (Gr.refl _)
 clear m0 m1 m2 m3 m4 m5 m6 m7 m8 m9 m10
 obtain ⟨p0, c0, p1, c1, p2, c2, p3, c3, p4, c4, p5, c5, p6, c6⟩ := P
 try dsimp only
 have HL := Lib.hid (HL.out.grow G.out)
 go_loopw [9] (fun i w1 => ∃ k : Nat, i = .int .i64 k ∧ k ≤ l.length ∧ MsUp M l k ∧ Gr W w1) (fun i _ => l.length - (RowKit.intOf i).toNat)
 case atStart => exact ⟨0, rfl, Nat.zero_le _, fun i n hi => by omega, Gr.refl _⟩
 case round =>
  obtain ⟨k, rfl, hk, hp, g1⟩ := hrel
  have HP := Lib.hid hp
  have G := Lib.hid (G.out.trans g1)
  have HL := Lib.hid (HL.out.grow g1)
  have TM := Lib.hid (TM.out.grow g1)
  have G1 := Lib.hid g1
  clear hp g1
  by_cases hlt : k < l.length
  ·have hlt' : (k : Int) < (l.length : Int) := by omega
   obtain ⟨b, o, x, rfl, hx, hc⟩ := int_at HL.out rfl hlt
   have HX := Lib.hid hx
   have m3 := mc3 TM.out wr (Gr.refl _)
   dsimp only at m3
   clear hx
   by_cases h0 : k = 0
   ·subst h0
    have hc0 : wr.cell? ⟨b, o, none⟩ = some (.int .i64 x) := hc wr (Gr.refl _)
    clear hc
    go_wp2_with fail
    refine (cat_within _ _ _ _).mono ?_
    rintro _ w1 ⟨⟨v1, rfl, h1⟩, rfl⟩
    rcases h1.cases with ⟨rfl, k1⟩ | ⟨rfl, k1⟩ <;> have H1 := Lib.hid k1 <;> clear k1 h1
    ·have HS := Lib.hid (HP.out.step HX.out H1.out (fun h => absurd h (by omega)))
     go_wp2_with fail
     refine ⟨⟨1, by go_num, by omega, HS.out, G1.out⟩, by simp [RowKit.intOf]; omega⟩
    ·go_wp2_with fail
     go_ret
     exact ⟨_, rfl, G.out, Tells.no fun h => H1.out (h.2 0 x HX.out).1⟩
   ·obtain ⟨j, rfl⟩ : ∃ j, k = j + 1 := ⟨k - 1, by omega⟩
    obtain ⟨_, _, y, hbo, hy, hd⟩ := int_at HL.out rfl (show j < l.length by omega)
    cases hbo
    have HY := Lib.hid hy
    have hjl : j < l.length := by omega
    have hc1 := hc wr (Gr.refl _)
    have hd1 := hd wr (Gr.refl _)
    clear hy h0 hc hd
    have hjl' : (j : Int) < (l.length : Int) := by omega
    have hwj : IntKind.i64.wrap (j : Int) = (j : Int) := by rw [IntKind.wrap_i64]; omega
    have hpj : (0 : Int) < (j : Int) + 1 := by omega
    by_cases hyx : y < x
    ·have hyx' : ¬ x ≤ y := by omega
     have HYX := Lib.hid hyx
     go_wp2_with fail
     refine (cat_within _ _ _ _).mono ?_
     rintro _ w1 ⟨⟨v1, rfl, h1⟩, rfl⟩
     rcases h1.cases with ⟨rfl, k1⟩ | ⟨rfl, k1⟩ <;> have H1 := Lib.hid k1 <;> clear k1 h1
     ·have HS := Lib.hid (HP.out.step HX.out H1.out (fun _ p hp => by
       have e := HY.out.symm.trans hp
       cases e
       exact HYX.out))
      go_wp2_with fail
      refine ⟨⟨j + 1 + 1, by go_num, by omega, HS.out, G1.out⟩, by simp [RowKit.intOf]; omega⟩
     ·go_wp2_with fail
      go_ret
      exact ⟨_, rfl, G.out, Tells.no fun h => H1.out (h.2 (j + 1) x HX.out).1⟩
    ·have hyx' : x ≤ y := by omega
     go_wp2_with fail
     refine (cat_within _ _ _ _).mono ?_
     rintro _ w1 ⟨⟨v1, rfl, h1⟩, rfl⟩
     rcases h1.cases with ⟨rfl, k1⟩ | ⟨rfl, k1⟩ <;> have H1 := Lib.hid k1 <;> clear k1 h1
     ·go_wp2_with fail
      go_ret
      exact ⟨_, rfl, G.out, Tells.no fun h => by have := (h.2 (j + 1) x HX.out).2 (by omega) y HY.out; omega⟩
     ·go_wp2_with fail
      go_ret
      exact ⟨_, rfl, G.out, Tells.no fun h => H1.out (h.2 (j + 1) x HX.out).1⟩
  ·obtain rfl : k = l.length := by omega
   by_cases hne : l = []
   ·have h0 : ¬ (0 : Int) < (l.length : Int) := by rw [hne]; simp
    have h0' : ¬ 0 < l.length := by rw [hne]; simp
    have HNe := Lib.hid hne
    clear hne
    go_wp2_with fail
    go_ret
    exact ⟨_, rfl, G.out, Tells.no fun h => h.1 HNe.out⟩
   ·have h0 : (0 : Int) < (l.length : Int) := by have := List.length_pos_iff.2 hne; omega
    have h0' : 0 < l.length := List.length_pos_iff.2 hne
    have HNe := Lib.hid hne
    clear hne
    go_wp2_with fail
    go_ret
    exact ⟨_, rfl, G.out, Tells.yes (HP.out.all HNe.out)⟩
end Go.Proofs.YtnlocdijdfclcaaGreatDoor
namespace Go.Proofs.YtnlocdijdfclcaaGreatDoor
open Go.RowKit Go.Lib Lex
set_option linter.unusedVariables false
set_option linter.unusedSimpArgs false

set_option maxRecDepth 100000 in
set_option maxHeartbeats 1600000 in
theorem ref_Item (w : World) (P : Ptrs) (M : Mdl) (x : ItemM) (hm : MdlAt w P M) (hx : ItemOn w x) (hb : x.on.length ≤ 1000000) :
  Calls Tryz.prog 63 #[.agg (mcells P M), .agg #[.string ⟨x.name.toArray⟩, .int .i64 x.kind, .int .i64 x.count, .int .i64 x.load, .int .i64 x.size, .int .i64 x.share, .slice x.onP x.on.length x.onC]] w (Ret w fun r _ => Tells (ItemOK M x) r) := by
 have HM := Lib.hid hm
 have HX := Lib.hid hx
 have B0 := Cells.new w (mcells P M) 29
 have B := Cells.new (w.alloc (.cells (mcells P M) 29)) #[.string ⟨x.name.toArray⟩, .int .i64 x.kind, .int .i64 x.count, .int .i64 x.load, .int .i64 x.size, .int .i64 x.share, .slice x.onP x.on.length x.onC] 61
 rw [World.size_alloc] at B
 clear hm hx
 have m0 := mc0 B0.2 _ B.1
 have m1 := mc1 B0.2 _ B.1
 have m2 := mc2 B0.2 _ B.1
 have m3 := mc3 B0.2 _ B.1
 have m4 := mc4 B0.2 _ B.1
 have m5 := mc5 B0.2 _ B.1
 have m6 := mc6 B0.2 _ B.1
 have m7 := mc7 B0.2 _ B.1
 have m8 := mc8 B0.2 _ B.1
 have m9 := mc9 B0.2 _ B.1
 have m10 := mc10 B0.2 _ B.1
 have x0 := B.2.at 0 rfl
 have x1 := B.2.at 1 rfl
 have x2 := B.2.at 2 rfl
 have x3 := B.2.at 3 rfl
 have x4 := B.2.at 4 rfl
 have x5 := B.2.at 5 rfl
 have x6 := B.2.at 6 rfl
 have H0 := Lib.hid (B0.1.trans B.1)
 have H1 := Lib.hid (B0.2.grow B.1)
 have H2 := Lib.hid B.2
 clear B0 B
 unfold mcells at H0 H1 H2 m0 m1 m2 m3 m4 m5 m6 m7 m8 m9 m10 x0 x1 x2 x3 x4 x5 x6 ⊢
 go_enter Tryz.func63, Tryz.ntmps63
 go_wp2_with fail
 clear m0 m1 m2 m3 m4 m5 m6 m7 m8 m9 m10 x0 x1 x2 x3 x4 x5 x6
 generalize w.heap.size + 1 = bx at H2 ⊢
 generalize w.heap.size = bm at H1 ⊢
 generalize (w.alloc _).alloc _ = W at H0 H1 H2 ⊢
 have TM := Lib.hid (show Cells W bm (mcells P M) from H1.out)
 have TX := Lib.hid H2.out
 have G := Lib.hid H0.out
 have HM := Lib.hid (HM.out.grow G.out)
 have HX := Lib.hid (SlL.grow HX.out G.out)
 clear H0 H1 H2
 have m0 := mc0 TM.out _ (Gr.refl _)
 have m1 := mc1 TM.out _ (Gr.refl _)
 have m2 := mc2 TM.out _ (Gr.refl _)
 have m3 := mc3 TM.out _ (Gr.refl _)
 have m4 := mc4 TM.out _ (Gr.refl _)
 have m5 := mc5 TM.out _ (Gr.refl _)
 have m6 := mc6 TM.out _ (Gr.refl _)
 have m7 := mc7 TM.out _ (Gr.refl _)
 have m8 := mc8 TM.out _ (Gr.refl _)
 have m9 := mc9 TM.out _ (Gr.refl _)
 have m10 := mc10 TM.out _ (Gr.refl _)
 have x0 := TX.out.at 0 rfl
 have x1 := TX.out.at 1 rfl
 have x2 := TX.out.at 2 rfl
 have x3 := TX.out.at 3 rfl
 have x4 := TX.out.at 4 rfl
 have x5 := TX.out.at 5 rfl
 have x6 := TX.out.at 6 rfl
 clear m0 m1 m2 m3 m4 m5 m6 m7 m8 m9 m10
 clear x0 x1 x2 x3 x4 x5 x6
 refine (ref_Machines W P M x.onP x.onC x.on HM.out HX.out hb).mono ?_
 rintro _ w2 ⟨v2, rfl, g2, t2⟩
 have G := Lib.hid (G.out.trans g2)
 have TM := Lib.hid (TM.out.grow g2)
 have TX := Lib.hid (TX.out.grow g2)
 clear g2
 rcases t2.cases with ⟨rfl, k1⟩ | ⟨rfl, k1⟩ <;> have H1 := Lib.hid k1 <;> clear k1 t2
 ·have x0 := TX.out.at 0 rfl
  have x1 := TX.out.at 1 rfl
  have x2 := TX.out.at 2 rfl
  have x3 := TX.out.at 3 rfl
  have x4 := TX.out.at 4 rfl
  have x5 := TX.out.at 5 rfl
  have x6 := TX.out.at 6 rfl
  go_wp2_with fail
  refine (ref_within _ _ _ _).mono ?_
  rintro _ w1 ⟨⟨v1, rfl, h1⟩, rfl⟩
  rcases h1.cases with ⟨rfl, k1⟩ | ⟨rfl, k1⟩ <;> have H2 := Lib.hid k1 <;> clear k1 h1
  ·go_wp2_with fail
   refine (ref_within _ _ _ _).mono ?_
   rintro _ w1 ⟨⟨v1, rfl, h1⟩, rfl⟩
   rcases h1.cases with ⟨rfl, k1⟩ | ⟨rfl, k1⟩ <;> have H3 := Lib.hid k1 <;> clear k1 h1
   ·go_wp2_with fail
    refine (ref_within _ _ _ _).mono ?_
    rintro _ w1 ⟨⟨v1, rfl, h1⟩, rfl⟩
    rcases h1.cases with ⟨rfl, k1⟩ | ⟨rfl, k1⟩ <;> have H4 := Lib.hid k1 <;> clear k1 h1
    ·have HR := Lib.hid (show CountOK x ↔ ItemOK M x from ⟨fun h => ⟨h, H1.out, H2.out, H3.out, H4.out⟩, fun h => h.1⟩)
     by_cases k0 : x.kind = 0
     ·have b0 : (x.kind == 0) = true := by simpa using k0
      have HC := Lib.hid (show CountOK x ↔ (x.count = 1 ∨ x.count = 3 ∨ x.count = 5) ∧ x.count = (x.on.length : Int) by unfold CountOK; omega)
      clear k0
      by_cases c : x.count = (x.on.length : Int)
      ·have d1 : ((x.on.length : Int) == x.count) = true := by simpa using c.symm
       have C := Lib.hid c
       clear c
       by_cases c1 : x.count = 1
       ·have e1 : (x.count == 1) = true := by simpa using c1
        have C1 := Lib.hid c1
        clear c1
        go_wp2_with fail
        go_ret
        exact ⟨_, rfl, G.out, Tells.yes (HR.out.1 (HC.out.2 ⟨.inl C1.out, C.out⟩))⟩
       ·have e1 : (x.count == 1) = false := by simpa using c1
        have C1 := Lib.hid c1
        clear c1
        by_cases c3 : x.count = 3
        ·have e3 : (x.count == 3) = true := by simpa using c3
         have C3 := Lib.hid c3
         clear c3
         go_wp2_with fail
         go_ret
         exact ⟨_, rfl, G.out, Tells.yes (HR.out.1 (HC.out.2 ⟨.inr (.inl C3.out), C.out⟩))⟩
        ·have e3 : (x.count == 3) = false := by simpa using c3
         have C3 := Lib.hid c3
         clear c3
         by_cases c5 : x.count = 5
         ·have e5 : (x.count == 5) = true := by simpa using c5
          have C5 := Lib.hid c5
          clear c5
          go_wp2_with fail
          go_ret
          exact ⟨_, rfl, G.out, Tells.yes (HR.out.1 (HC.out.2 ⟨.inr (.inr C5.out), C.out⟩))⟩
         ·have e5 : (x.count == 5) = false := by simpa using c5
          have C5 := Lib.hid c5
          clear c5
          go_wp2_with fail
          go_ret
          exact ⟨_, rfl, G.out, Tells.no fun h => by have := (HC.out.1 (HR.out.2 h)).1; have := C1.out; have := C3.out; have := C5.out; omega⟩
      ·have d1 : ((x.on.length : Int) == x.count) = false := by simpa using Ne.symm c
       have C := Lib.hid c
       clear c
       by_cases c1 : x.count = 1
       ·have e1 : (x.count == 1) = true := by simpa using c1
        clear c1
        go_wp2_with fail
        go_ret
        exact ⟨_, rfl, G.out, Tells.no fun h => C.out (HC.out.1 (HR.out.2 h)).2⟩
       ·have e1 : (x.count == 1) = false := by simpa using c1
        clear c1
        by_cases c3 : x.count = 3
        ·have e3 : (x.count == 3) = true := by simpa using c3
         clear c3
         go_wp2_with fail
         go_ret
         exact ⟨_, rfl, G.out, Tells.no fun h => C.out (HC.out.1 (HR.out.2 h)).2⟩
        ·have e3 : (x.count == 3) = false := by simpa using c3
         clear c3
         by_cases c5 : x.count = 5
         ·have e5 : (x.count == 5) = true := by simpa using c5
          clear c5
          go_wp2_with fail
          go_ret
          exact ⟨_, rfl, G.out, Tells.no fun h => C.out (HC.out.1 (HR.out.2 h)).2⟩
         ·have e5 : (x.count == 5) = false := by simpa using c5
          clear c5
          go_wp2_with fail
          go_ret
          exact ⟨_, rfl, G.out, Tells.no fun h => C.out (HC.out.1 (HR.out.2 h)).2⟩
     ·have b0 : (x.kind == 0) = false := by simpa using k0
      by_cases k2 : x.kind = 2
      ·have b2 : (x.kind == 2) = true := by simpa using k2
       have HC := Lib.hid (show CountOK x ↔ x.count = 1 ∧ x.on.length = 1 by unfold CountOK; omega)
       clear k0 k2
       by_cases c1 : x.count = 1
       ·have e1 : (x.count == 1) = true := by simpa using c1
        have C1 := Lib.hid c1
        clear c1
        by_cases c2 : x.on.length = 1
        ·have e2 : ((x.on.length : Int) == 1) = true := by
          have : (x.on.length : Int) = 1 := by omega
          simpa using this
         have C2 := Lib.hid c2
         clear c2
         go_wp2_with fail
         go_ret
         exact ⟨_, rfl, G.out, Tells.yes (HR.out.1 (HC.out.2 ⟨C1.out, C2.out⟩))⟩
        ·have e2 : ((x.on.length : Int) == 1) = false := by
          have : ¬ (x.on.length : Int) = 1 := by omega
          simpa using this
         have C2 := Lib.hid c2
         clear c2
         go_wp2_with fail
         go_ret
         exact ⟨_, rfl, G.out, Tells.no fun h => C2.out (HC.out.1 (HR.out.2 h)).2⟩
       ·have e1 : (x.count == 1) = false := by simpa using c1
        have C1 := Lib.hid c1
        clear c1
        go_wp2_with fail
        go_ret
        exact ⟨_, rfl, G.out, Tells.no fun h => C1.out (HC.out.1 (HR.out.2 h)).1⟩
      ·have b2 : (x.kind == 2) = false := by simpa using k2
       by_cases k1 : x.kind = 1
       ·have b1 : (x.kind == 1) = true := by simpa using k1
        have HC := Lib.hid (show CountOK x ↔ Within x.count 1 8 by unfold CountOK Within; omega)
        clear k0 k1 k2
        go_wp2_with fail
        refine (ref_within _ _ _ _).mono ?_
        rintro _ w1 ⟨⟨v1, rfl, h1⟩, rfl⟩
        rcases h1.cases with ⟨rfl, k1⟩ | ⟨rfl, k1⟩ <;> have H5 := Lib.hid k1 <;> clear k1 h1
        ·go_wp2_with fail
         go_ret
         exact ⟨_, rfl, G.out, Tells.yes (HR.out.1 (HC.out.2 H5.out))⟩
        ·go_wp2_with fail
         go_ret
         exact ⟨_, rfl, G.out, Tells.no fun h => H5.out (HC.out.1 (HR.out.2 h))⟩
       ·have b1 : (x.kind == 1) = false := by simpa using k1
        have HC := Lib.hid (show ¬ CountOK x by unfold CountOK; omega)
        clear k0 k1 k2
        go_wp2_with fail
        go_ret
        exact ⟨_, rfl, G.out, Tells.no fun h => HC.out (HR.out.2 h)⟩
    ·go_wp2_with fail
     go_ret
     exact ⟨_, rfl, G.out, Tells.no fun h => H4.out h.2.2.2.2⟩
   ·go_wp2_with fail
    go_ret
    exact ⟨_, rfl, G.out, Tells.no fun h => H3.out h.2.2.2.1⟩
  ·go_wp2_with fail
   go_ret
   exact ⟨_, rfl, G.out, Tells.no fun h => H2.out h.2.2.1⟩
 ·go_wp2_with fail
  go_ret
  exact ⟨_, rfl, G.out, Tells.no fun h => H1.out h.2.1⟩
end Go.Proofs.YtnlocdijdfclcaaGreatDoor

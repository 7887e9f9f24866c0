/-
  exodusref15.Rule (the walks are printed by rulegen.py).
  exodusref15.Rule, further kinds (printed by rulegen.py).
  exodusref15.Rule, further kinds (printed by rulegen.py).
-/
import Derived.Test.YtnlocdijdfclcaaGreatDoorMap
namespace Go.Proofs.YtnlocdijdfclcaaGreatDoor
open Go.RowKit Go.Lib Lex
set_option linter.unusedVariables false
set_option linter.unusedSimpArgs false

abbrev ruleV (x : RuleM) : Array Value := #[.int .i64 x.kind, .int .i64 x.item, .int .i64 x.other, .int .i64 x.n, .int .i64 x.bye, .bool x.always, .slice x.msP x.ms.length x.msC]
theorem rule_0 {M : Mdl} {x : RuleM} (hk : x.kind = 0) : RuleOK M x ↔ Ex x.item M.items.length ∧ (∃ it, M.items[(x.item - 1).toNat]? = some it ∧ it.kind = 0) ∧ x.other = 0 ∧ x.n = 0 ∧ x.bye = 0 ∧ x.always = false ∧ x.ms = [] := by
 unfold RuleOK; rw [hk]; simp [ItemNo, Within, Ex, and_assoc]
theorem rule_1 {M : Mdl} {x : RuleM} (hk : x.kind = 1) : RuleOK M x ↔ Ex x.item M.items.length ∧ Within x.n 0 16 ∧ x.other = 0 ∧ x.bye = 0 ∧ x.ms = [] := by
 unfold RuleOK; rw [hk]; simp [ItemNo, Within, Ex, and_assoc]
theorem rule_2 {M : Mdl} {x : RuleM} (hk : x.kind = 2) : RuleOK M x ↔ Ex x.item M.items.length ∧ Within x.n 0 16 ∧ Within x.bye 2 4 ∧ x.other = 0 ∧ x.always = false ∧ x.ms = [] := by
 unfold RuleOK; rw [hk]; simp [ItemNo, Within, Ex, and_assoc]
theorem rule_3 {M : Mdl} {x : RuleM} (hk : x.kind = 3) : RuleOK M x ↔ Ex x.item M.items.length ∧ MsOK M x.ms ∧ x.other = 0 ∧ x.n = 0 ∧ x.bye = 0 ∧ x.always = false := by
 unfold RuleOK; rw [hk]; simp [ItemNo, Within, Ex, and_assoc]
theorem rule_4 {M : Mdl} {x : RuleM} (hk : x.kind = 4) : RuleOK M x ↔ Ex x.item M.items.length ∧ Ex x.other M.items.length ∧ x.item ≠ x.other ∧ x.n = 0 ∧ x.bye = 0 ∧ x.always = false ∧ x.ms = [] := by
 unfold RuleOK; rw [hk]; simp [ItemNo, Within, Ex, and_assoc]
theorem rule_5 {M : Mdl} {x : RuleM} (hk : x.kind = 5) : RuleOK M x ↔ Within x.n 0 200 ∧ x.item = 0 ∧ x.other = 0 ∧ x.bye = 0 ∧ x.always = false ∧ x.ms = [] := by
 unfold RuleOK; rw [hk]; simp [ItemNo, Within, Ex, and_assoc]
theorem rule_6 {M : Mdl} {x : RuleM} (hk : x.kind = 6) : RuleOK M x ↔ Ex x.item M.items.length ∧ Within x.n 0 16 ∧ x.other = 0 ∧ x.bye = 0 ∧ x.always = false ∧ x.ms = [] := by
 unfold RuleOK; rw [hk]; simp [ItemNo, Within, Ex, and_assoc]
theorem rule_7 {M : Mdl} {x : RuleM} (hk : ¬ x.kind = 0 ∧ ¬ x.kind = 1 ∧ ¬ x.kind = 2 ∧ ¬ x.kind = 3 ∧ ¬ x.kind = 4 ∧ ¬ x.kind = 5 ∧ ¬ x.kind = 6) : ¬ RuleOK M x := by
 obtain ⟨h0, h1, h2, h3, h4, h5, h6⟩ := hk
 unfold RuleOK; simp [h0, h1, h2, h3, h4, h5, h6]
theorem con_B_W24 {n : Int} (h : n = 0) (k : Within n 2 4) : False := by unfold Within at k; omega
theorem con_L_MS {M : Mdl} {l : List Int} (h : l = []) (k : MsOK M l) : False := k.1 h
theorem con_O_EO {n : Int} {l : Nat} (h : n = 0) (k : Ex n l) : False := by unfold Ex at k; omega
theorem con_I_E {n : Int} {l : Nat} (h : n = 0) (k : Ex n l) : False := by unfold Ex at k; omega
theorem item_of {w : World} {P : Ptrs} {M : Mdl} {n : Int} (hm : MdlAt w P M) (h : Ex n M.items.length) : ∃ (k : Nat) (it : ItemM) (b o : Nat), n = (k : Int) + 1 ∧ (IntKind.i64.wrap (k : Int) = (k : Int) ∧ (k : Int) < (M.items.length : Int)) ∧ P.p5 = some ⟨b, o, none⟩ ∧ M.items[k]? = some it ∧ ∀ w', Gr w w' → ItemCell w' b (o + k * 7) it := by
 obtain ⟨h1, h2⟩ := h
 obtain ⟨b, o, it, hp, hx, hc⟩ := item_at hm.items rfl (k := (n - 1).toNat) (by omega)
 have := hm.big.2.2.2.2.2.1
 exact ⟨(n - 1).toNat, it, b, o, by omega, ⟨by rw [IntKind.wrap_i64]; omega, by omega⟩, hp, hx, hc⟩
theorem kind_of {M : Mdl} {n : Int} {k : Nat} {it : ItemM} {p q r : Prop} (e : n = (k : Int) + 1) (hit : M.items[k]? = some it) (h : p ↔ q ∧ (∃ it, M.items[(n - 1).toNat]? = some it ∧ it.kind = 0) ∧ r) : p ↔ q ∧ it.kind = 0 ∧ r := by
 have e1 : (n - 1).toNat = k := by omega
 rw [h, e1, hit]
 simp
set_option maxRecDepth 100000 in
set_option maxHeartbeats 3200000 in
theorem ref_Rule0 (w : World) (P : Ptrs) (M : Mdl) (x : RuleM) (hm : MdlAt w P M) (hx : RuleMs w x) (hb : x.ms.length ≤ 1000000) (hk : x.kind = 0) :
  Calls Tryz.prog 64 #[.agg (mcells P M), .agg (ruleV x)] w (Ret w fun r _ => Tells (RuleOK M x) r) := by
 have HC := Lib.hid (show RuleOK M x ↔ Ex x.item M.items.length ∧ (∃ it, M.items[(x.item - 1).toNat]? = some it ∧ it.kind = 0) ∧ x.other = 0 ∧ x.n = 0 ∧ x.bye = 0 ∧ x.always = false ∧ x.ms = [] from rule_0 hk)
 have ek0 : (x.kind == 0) = true := by rw [hk]; decide
 clear hk
 have HM := Lib.hid hm
 have HX := Lib.hid hx
 have B0 := Cells.new w (mcells P M) 29
 have B := Cells.new (w.alloc (.cells (mcells P M) 29)) #[.int .i64 x.kind, .int .i64 x.item, .int .i64 x.other, .int .i64 x.n, .int .i64 x.bye, .bool x.always, .slice x.msP x.ms.length x.msC] 63
 rw [World.size_alloc] at B
 clear hm hx
 have m0 := mc0 B0.2 _ B.1
 have m1 := mc1 B0.2 _ B.1
 have m2 := mc2 B0.2 _ B.1
 have m3 := mc3 B0.2 _ B.1
 have m4 := mc4 B0.2 _ B.1
 have m5 := mc5 B0.2 _ B.1
 have m6 := mc6 B0.2 _ B.1
 have m7 := mc7 B0.2 _ B.1
 have m8 := mc8 B0.2 _ B.1
 have m9 := mc9 B0.2 _ B.1
 have m10 := mc10 B0.2 _ B.1
 have x0 : World.cell? _ ⟨_, 0, none⟩ = some (.int .i64 x.kind) := (B.2).at 0 rfl
 have x1 : World.cell? _ ⟨_, 1, none⟩ = some (.int .i64 x.item) := (B.2).at 1 rfl
 have x2 : World.cell? _ ⟨_, 2, none⟩ = some (.int .i64 x.other) := (B.2).at 2 rfl
 have x3 : World.cell? _ ⟨_, 3, none⟩ = some (.int .i64 x.n) := (B.2).at 3 rfl
 have x4 : World.cell? _ ⟨_, 4, none⟩ = some (.int .i64 x.bye) := (B.2).at 4 rfl
 have x5 : World.cell? _ ⟨_, 5, none⟩ = some (.bool x.always) := (B.2).at 5 rfl
 have x6 : World.cell? _ ⟨_, 6, none⟩ = some (.slice x.msP x.ms.length x.msC) := (B.2).at 6 rfl
 have H0 := Lib.hid (B0.1.trans B.1)
 have H1 := Lib.hid (B0.2.grow B.1)
 have H2 := Lib.hid B.2
 clear B0 B
 unfold ruleV
 unfold mcells at H0 H1 H2 m0 m1 m2 m3 m4 m5 m6 m7 m8 m9 m10 x0 x1 x2 x3 x4 x5 x6 ⊢
 go_enter Tryz.func64, Tryz.ntmps64
 go_wp2_with fail
 clear m0 m1 m2 m3 m4 m5 m6 m7 m8 m9 m10 x0 x1 x2 x3 x4 x5 x6
 generalize w.heap.size + 1 = bx at H2 ⊢
 generalize w.heap.size = bm at H1 ⊢
 generalize (w.alloc _).alloc _ = W at H0 H1 H2 ⊢
 have TM := Lib.hid (show Cells W bm (mcells P M) from H1.out)
 have TX := Lib.hid H2.out
 have G := Lib.hid H0.out
 have HM := Lib.hid (HM.out.grow G.out)
 have HX := Lib.hid (SlL.grow HX.out G.out)
 clear H0 H1 H2
 have m0 := mc0 TM.out _ (Gr.refl _)
 have m1 := mc1 TM.out _ (Gr.refl _)
 have m2 := mc2 TM.out _ (Gr.refl _)
 have m3 := mc3 TM.out _ (Gr.refl _)
 have m4 := mc4 TM.out _ (Gr.refl _)
 have m5 := mc5 TM.out _ (Gr.refl _)
 have m6 := mc6 TM.out _ (Gr.refl _)
 have m7 := mc7 TM.out _ (Gr.refl _)
 have m8 := mc8 TM.out _ (Gr.refl _)
 have m9 := mc9 TM.out _ (Gr.refl _)
 have m10 := mc10 TM.out _ (Gr.refl _)
 have x0 : World.cell? W ⟨_, 0, none⟩ = some (.int .i64 x.kind) := (TX.out).at 0 rfl
 have x1 : World.cell? W ⟨_, 1, none⟩ = some (.int .i64 x.item) := (TX.out).at 1 rfl
 have x2 : World.cell? W ⟨_, 2, none⟩ = some (.int .i64 x.other) := (TX.out).at 2 rfl
 have x3 : World.cell? W ⟨_, 3, none⟩ = some (.int .i64 x.n) := (TX.out).at 3 rfl
 have x4 : World.cell? W ⟨_, 4, none⟩ = some (.int .i64 x.bye) := (TX.out).at 4 rfl
 have x5 : World.cell? W ⟨_, 5, none⟩ = some (.bool x.always) := (TX.out).at 5 rfl
 have x6 : World.cell? W ⟨_, 6, none⟩ = some (.slice x.msP x.ms.length x.msC) := (TX.out).at 6 rfl
 refine (ref_Exists _ _ _).mono ?_
 rintro _ w1 ⟨⟨v1, rfl, z1⟩, rfl⟩
 rcases z1.cases with ⟨rfl, k1⟩ | ⟨rfl, k1⟩ <;> have hE := Lib.hid k1 <;> clear k1 z1
 ·skip
  by_cases c : x.other = 0
  ·have eO : (x.other == 0) = true := by simpa using c
   have hO := Lib.hid c
   clear c
   by_cases c : x.bye = 0
   ·have eB : (x.bye == 0) = true := by simpa using c
    have hB := Lib.hid c
    clear c
    cases cA : x.always
    ·have hA := Lib.hid (show x.always = false by simp [cA])
     rw [cA] at x5
     have hcA := Lib.hid cA
     clear cA
     by_cases c : x.ms = []
     ·have eL : ((x.ms.length : Int) == 0) = true := by simp [c]
      have hL := Lib.hid c
      clear c
      obtain ⟨k, it, bi, oi, e1, ⟨e2, e4⟩, e3, hit, hcell⟩ := item_of HM.out hE.out
      have HIt := Lib.hid hit
      have ci := hcell _ (Gr.refl _)
      obtain ⟨ci0, ci1, _⟩ := ci
      clear hit hcell
      rw [e1] at x1
      rw [e3] at m5
      have HE1 := Lib.hid e1
      clear e1 e3
      have HC := Lib.hid (kind_of HE1.out HIt.out HC.out)
      by_cases c : it.kind = 0
      ·have eK : (it.kind == 0) = true := by simpa using c
       have hK := Lib.hid c
       clear c
       by_cases c : x.n = 0
       ·have eN : (x.n == 0) = true := by simpa using c
        have hN := Lib.hid c
        clear c
        go_wp2_with fail
        try rw [Exit.noGoto_ret]
        go_ret
        exact ⟨_, rfl, G.out, Tells.yes (HC.out.2 ⟨hE.out, hK.out, hO.out, hN.out, hB.out, hA.out, hL.out⟩)⟩
       ·have eN : (x.n == 0) = false := by simpa using c
        have hN := Lib.hid c
        clear c
        go_wp2_with fail
        try rw [Exit.noGoto_ret]
        go_ret
        exact ⟨_, rfl, G.out, Tells.no fun h => hN.out (HC.out.1 h).2.2.2.1⟩
      ·have eK : (it.kind == 0) = false := by simpa using c
       have hK := Lib.hid c
       clear c
       go_wp2_with fail
       try rw [Exit.noGoto_ret]
       go_ret
       exact ⟨_, rfl, G.out, Tells.no fun h => hK.out (HC.out.1 h).2.1⟩
     ·have eL : ((x.ms.length : Int) == 0) = false := by simpa using c
      have hL := Lib.hid c
      clear c
      obtain ⟨k, it, bi, oi, e1, ⟨e2, e4⟩, e3, hit, hcell⟩ := item_of HM.out hE.out
      have HIt := Lib.hid hit
      have ci := hcell _ (Gr.refl _)
      obtain ⟨ci0, ci1, _⟩ := ci
      clear hit hcell
      rw [e1] at x1
      rw [e3] at m5
      have HE1 := Lib.hid e1
      clear e1 e3
      have HC := Lib.hid (kind_of HE1.out HIt.out HC.out)
      by_cases c : it.kind = 0
      ·have eK : (it.kind == 0) = true := by simpa using c
       have hK := Lib.hid c
       clear c
       go_wp2_with fail
       try rw [Exit.noGoto_ret]
       go_ret
       exact ⟨_, rfl, G.out, Tells.no fun h => hL.out (HC.out.1 h).2.2.2.2.2.2⟩
      ·have eK : (it.kind == 0) = false := by simpa using c
       have hK := Lib.hid c
       clear c
       go_wp2_with fail
       try rw [Exit.noGoto_ret]
       go_ret
       exact ⟨_, rfl, G.out, Tells.no fun h => hK.out (HC.out.1 h).2.1⟩
    ·have hA := Lib.hid (show ¬ x.always = false by simp [cA])
     rw [cA] at x5
     have hcA := Lib.hid cA
     clear cA
     obtain ⟨k, it, bi, oi, e1, ⟨e2, e4⟩, e3, hit, hcell⟩ := item_of HM.out hE.out
     have HIt := Lib.hid hit
     have ci := hcell _ (Gr.refl _)
     obtain ⟨ci0, ci1, _⟩ := ci
     clear hit hcell
     rw [e1] at x1
     rw [e3] at m5
     have HE1 := Lib.hid e1
     clear e1 e3
     have HC := Lib.hid (kind_of HE1.out HIt.out HC.out)
     by_cases c : it.kind = 0
     ·have eK : (it.kind == 0) = true := by simpa using c
      have hK := Lib.hid c
      clear c
      go_wp2_with fail
      try rw [Exit.noGoto_ret]
      go_ret
      exact ⟨_, rfl, G.out, Tells.no fun h => hA.out (HC.out.1 h).2.2.2.2.2.1⟩
     ·have eK : (it.kind == 0) = false := by simpa using c
      have hK := Lib.hid c
      clear c
      go_wp2_with fail
      try rw [Exit.noGoto_ret]
      go_ret
      exact ⟨_, rfl, G.out, Tells.no fun h => hK.out (HC.out.1 h).2.1⟩
   ·have eB : (x.bye == 0) = false := by simpa using c
    have hB := Lib.hid c
    clear c
    obtain ⟨k, it, bi, oi, e1, ⟨e2, e4⟩, e3, hit, hcell⟩ := item_of HM.out hE.out
    have HIt := Lib.hid hit
    have ci := hcell _ (Gr.refl _)
    obtain ⟨ci0, ci1, _⟩ := ci
    clear hit hcell
    rw [e1] at x1
    rw [e3] at m5
    have HE1 := Lib.hid e1
    clear e1 e3
    have HC := Lib.hid (kind_of HE1.out HIt.out HC.out)
    by_cases c : it.kind = 0
    ·have eK : (it.kind == 0) = true := by simpa using c
     have hK := Lib.hid c
     clear c
     go_wp2_with fail
     try rw [Exit.noGoto_ret]
     go_ret
     exact ⟨_, rfl, G.out, Tells.no fun h => hB.out (HC.out.1 h).2.2.2.2.1⟩
    ·have eK : (it.kind == 0) = false := by simpa using c
     have hK := Lib.hid c
     clear c
     go_wp2_with fail
     try rw [Exit.noGoto_ret]
     go_ret
     exact ⟨_, rfl, G.out, Tells.no fun h => hK.out (HC.out.1 h).2.1⟩
  ·have eO : (x.other == 0) = false := by simpa using c
   have hO := Lib.hid c
   clear c
   obtain ⟨k, it, bi, oi, e1, ⟨e2, e4⟩, e3, hit, hcell⟩ := item_of HM.out hE.out
   have HIt := Lib.hid hit
   have ci := hcell _ (Gr.refl _)
   obtain ⟨ci0, ci1, _⟩ := ci
   clear hit hcell
   rw [e1] at x1
   rw [e3] at m5
   have HE1 := Lib.hid e1
   clear e1 e3
   have HC := Lib.hid (kind_of HE1.out HIt.out HC.out)
   by_cases c : it.kind = 0
   ·have eK : (it.kind == 0) = true := by simpa using c
    have hK := Lib.hid c
    clear c
    go_wp2_with fail
    try rw [Exit.noGoto_ret]
    go_ret
    exact ⟨_, rfl, G.out, Tells.no fun h => hO.out (HC.out.1 h).2.2.1⟩
   ·have eK : (it.kind == 0) = false := by simpa using c
    have hK := Lib.hid c
    clear c
    go_wp2_with fail
    try rw [Exit.noGoto_ret]
    go_ret
    exact ⟨_, rfl, G.out, Tells.no fun h => hK.out (HC.out.1 h).2.1⟩
 ·skip
  by_cases c : x.other = 0
  ·have eO : (x.other == 0) = true := by simpa using c
   have hO := Lib.hid c
   clear c
   by_cases c : x.bye = 0
   ·have eB : (x.bye == 0) = true := by simpa using c
    have hB := Lib.hid c
    clear c
    cases cA : x.always
    ·have hA := Lib.hid (show x.always = false by simp [cA])
     rw [cA] at x5
     have hcA := Lib.hid cA
     clear cA
     by_cases c : x.ms = []
     ·have eL : ((x.ms.length : Int) == 0) = true := by simp [c]
      have hL := Lib.hid c
      clear c
      go_wp2_with fail
      try rw [Exit.noGoto_ret]
      go_ret
      exact ⟨_, rfl, G.out, Tells.no fun h => hE.out (HC.out.1 h).1⟩
     ·have eL : ((x.ms.length : Int) == 0) = false := by simpa using c
      have hL := Lib.hid c
      clear c
      go_wp2_with fail
      try rw [Exit.noGoto_ret]
      go_ret
      exact ⟨_, rfl, G.out, Tells.no fun h => hE.out (HC.out.1 h).1⟩
    ·have hA := Lib.hid (show ¬ x.always = false by simp [cA])
     rw [cA] at x5
     have hcA := Lib.hid cA
     clear cA
     go_wp2_with fail
     try rw [Exit.noGoto_ret]
     go_ret
     exact ⟨_, rfl, G.out, Tells.no fun h => hE.out (HC.out.1 h).1⟩
   ·have eB : (x.bye == 0) = false := by simpa using c
    have hB := Lib.hid c
    clear c
    go_wp2_with fail
    try rw [Exit.noGoto_ret]
    go_ret
    exact ⟨_, rfl, G.out, Tells.no fun h => hE.out (HC.out.1 h).1⟩
  ·have eO : (x.other == 0) = false := by simpa using c
   have hO := Lib.hid c
   clear c
   go_wp2_with fail
   try rw [Exit.noGoto_ret]
   go_ret
   exact ⟨_, rfl, G.out, Tells.no fun h => hE.out (HC.out.1 h).1⟩
end Go.Proofs.YtnlocdijdfclcaaGreatDoor
namespace Go.Proofs.YtnlocdijdfclcaaGreatDoor
open Go.RowKit Go.Lib Lex
set_option linter.unusedVariables false
set_option linter.unusedSimpArgs false

set_option maxRecDepth 100000 in
set_option maxHeartbeats 3200000 in
theorem ref_Rule1 (w : World) (P : Ptrs) (M : Mdl) (x : RuleM) (hm : MdlAt w P M) (hx : RuleMs w x) (hb : x.ms.length ≤ 1000000) (hk : x.kind = 1) :
  Calls Tryz.prog 64 #[.agg (mcells P M), .agg (ruleV x)] w (Ret w fun r _ => Tells (RuleOK M x) r) := by
 have HC := Lib.hid (show RuleOK M x ↔ Ex x.item M.items.length ∧ Within x.n 0 16 ∧ x.other = 0 ∧ x.bye = 0 ∧ x.ms = [] from rule_1 hk)
 have ek0 : (x.kind == 0) = false := by rw [hk]; decide
 have ek1 : (x.kind == 1) = true := by rw [hk]; decide
 clear hk
 have HM := Lib.hid hm
 have HX := Lib.hid hx
 have B0 := Cells.new w (mcells P M) 29
 have B := Cells.new (w.alloc (.cells (mcells P M) 29)) #[.int .i64 x.kind, .int .i64 x.item, .int .i64 x.other, .int .i64 x.n, .int .i64 x.bye, .bool x.always, .slice x.msP x.ms.length x.msC] 63
 rw [World.size_alloc] at B
 clear hm hx
 have m0 := mc0 B0.2 _ B.1
 have m1 := mc1 B0.2 _ B.1
 have m2 := mc2 B0.2 _ B.1
 have m3 := mc3 B0.2 _ B.1
 have m4 := mc4 B0.2 _ B.1
 have m5 := mc5 B0.2 _ B.1
 have m6 := mc6 B0.2 _ B.1
 have m7 := mc7 B0.2 _ B.1
 have m8 := mc8 B0.2 _ B.1
 have m9 := mc9 B0.2 _ B.1
 have m10 := mc10 B0.2 _ B.1
 have x0 : World.cell? _ ⟨_, 0, none⟩ = some (.int .i64 x.kind) := (B.2).at 0 rfl
 have x1 : World.cell? _ ⟨_, 1, none⟩ = some (.int .i64 x.item) := (B.2).at 1 rfl
 have x2 : World.cell? _ ⟨_, 2, none⟩ = some (.int .i64 x.other) := (B.2).at 2 rfl
 have x3 : World.cell? _ ⟨_, 3, none⟩ = some (.int .i64 x.n) := (B.2).at 3 rfl
 have x4 : World.cell? _ ⟨_, 4, none⟩ = some (.int .i64 x.bye) := (B.2).at 4 rfl
 have x5 : World.cell? _ ⟨_, 5, none⟩ = some (.bool x.always) := (B.2).at 5 rfl
 have x6 : World.cell? _ ⟨_, 6, none⟩ = some (.slice x.msP x.ms.length x.msC) := (B.2).at 6 rfl
 have H0 := Lib.hid (B0.1.trans B.1)
 have H1 := Lib.hid (B0.2.grow B.1)
 have H2 := Lib.hid B.2
 clear B0 B
 unfold ruleV
 unfold mcells at H0 H1 H2 m0 m1 m2 m3 m4 m5 m6 m7 m8 m9 m10 x0 x1 x2 x3 x4 x5 x6 ⊢
 go_enter Tryz.func64, Tryz.ntmps64
 go_wp2_with fail
 clear m0 m1 m2 m3 m4 m5 m6 m7 m8 m9 m10 x0 x1 x2 x3 x4 x5 x6
 generalize w.heap.size + 1 = bx at H2 ⊢
 generalize w.heap.size = bm at H1 ⊢
 generalize (w.alloc _).alloc _ = W at H0 H1 H2 ⊢
 have TM := Lib.hid (show Cells W bm (mcells P M) from H1.out)
 have TX := Lib.hid H2.out
 have G := Lib.hid H0.out
 have HM := Lib.hid (HM.out.grow G.out)
 have HX := Lib.hid (SlL.grow HX.out G.out)
 clear H0 H1 H2
 have m0 := mc0 TM.out _ (Gr.refl _)
 have m1 := mc1 TM.out _ (Gr.refl _)
 have m2 := mc2 TM.out _ (Gr.refl _)
 have m3 := mc3 TM.out _ (Gr.refl _)
 have m4 := mc4 TM.out _ (Gr.refl _)
 have m5 := mc5 TM.out _ (Gr.refl _)
 have m6 := mc6 TM.out _ (Gr.refl _)
 have m7 := mc7 TM.out _ (Gr.refl _)
 have m8 := mc8 TM.out _ (Gr.refl _)
 have m9 := mc9 TM.out _ (Gr.refl _)
 have m10 := mc10 TM.out _ (Gr.refl _)
 have x0 : World.cell? W ⟨_, 0, none⟩ = some (.int .i64 x.kind) := (TX.out).at 0 rfl
 have x1 : World.cell? W ⟨_, 1, none⟩ = some (.int .i64 x.item) := (TX.out).at 1 rfl
 have x2 : World.cell? W ⟨_, 2, none⟩ = some (.int .i64 x.other) := (TX.out).at 2 rfl
 have x3 : World.cell? W ⟨_, 3, none⟩ = some (.int .i64 x.n) := (TX.out).at 3 rfl
 have x4 : World.cell? W ⟨_, 4, none⟩ = some (.int .i64 x.bye) := (TX.out).at 4 rfl
 have x5 : World.cell? W ⟨_, 5, none⟩ = some (.bool x.always) := (TX.out).at 5 rfl
 have x6 : World.cell? W ⟨_, 6, none⟩ = some (.slice x.msP x.ms.length x.msC) := (TX.out).at 6 rfl
 refine (ref_Exists _ _ _).mono ?_
 rintro _ w1 ⟨⟨v1, rfl, z1⟩, rfl⟩
 rcases z1.cases with ⟨rfl, k1⟩ | ⟨rfl, k1⟩ <;> have hE := Lib.hid k1 <;> clear k1 z1
 ·skip
  by_cases c : x.other = 0
  ·have eO : (x.other == 0) = true := by simpa using c
   have hO := Lib.hid c
   clear c
   by_cases c : x.bye = 0
   ·have eB : (x.bye == 0) = true := by simpa using c
    have hB := Lib.hid c
    clear c
    cases cA : x.always
    ·have hA := Lib.hid (show x.always = false by simp [cA])
     rw [cA] at x5
     have hcA := Lib.hid cA
     clear cA
     by_cases c : x.ms = []
     ·have eL : ((x.ms.length : Int) == 0) = true := by simp [c]
      have hL := Lib.hid c
      clear c
      go_wp2_with fail
      refine (ref_within _ _ _ _).mono ?_
      rintro _ w1 ⟨⟨v1, rfl, z1⟩, rfl⟩
      rcases z1.cases with ⟨rfl, k1⟩ | ⟨rfl, k1⟩ <;> have hW16 := Lib.hid k1 <;> clear k1 z1
      ·skip
       go_wp2_with fail
       try rw [Exit.noGoto_ret]
       go_ret
       exact ⟨_, rfl, G.out, Tells.yes (HC.out.2 ⟨hE.out, hW16.out, hO.out, hB.out, hL.out⟩)⟩
      ·skip
       go_wp2_with fail
       try rw [Exit.noGoto_ret]
       go_ret
       exact ⟨_, rfl, G.out, Tells.no fun h => hW16.out (HC.out.1 h).2.1⟩
     ·have eL : ((x.ms.length : Int) == 0) = false := by simpa using c
      have hL := Lib.hid c
      clear c
      go_wp2_with fail
      try rw [Exit.noGoto_ret]
      go_ret
      exact ⟨_, rfl, G.out, Tells.no fun h => hL.out (HC.out.1 h).2.2.2.2⟩
    ·have hA := Lib.hid (show ¬ x.always = false by simp [cA])
     rw [cA] at x5
     have hcA := Lib.hid cA
     clear cA
     by_cases c : x.ms = []
     ·have eL : ((x.ms.length : Int) == 0) = true := by simp [c]
      have hL := Lib.hid c
      clear c
      go_wp2_with fail
      refine (ref_within _ _ _ _).mono ?_
      rintro _ w1 ⟨⟨v1, rfl, z1⟩, rfl⟩
      rcases z1.cases with ⟨rfl, k1⟩ | ⟨rfl, k1⟩ <;> have hW16 := Lib.hid k1 <;> clear k1 z1
      ·skip
       go_wp2_with fail
       try rw [Exit.noGoto_ret]
       go_ret
       exact ⟨_, rfl, G.out, Tells.yes (HC.out.2 ⟨hE.out, hW16.out, hO.out, hB.out, hL.out⟩)⟩
      ·skip
       go_wp2_with fail
       try rw [Exit.noGoto_ret]
       go_ret
       exact ⟨_, rfl, G.out, Tells.no fun h => hW16.out (HC.out.1 h).2.1⟩
     ·have eL : ((x.ms.length : Int) == 0) = false := by simpa using c
      have hL := Lib.hid c
      clear c
      go_wp2_with fail
      try rw [Exit.noGoto_ret]
      go_ret
      exact ⟨_, rfl, G.out, Tells.no fun h => hL.out (HC.out.1 h).2.2.2.2⟩
   ·have eB : (x.bye == 0) = false := by simpa using c
    have hB := Lib.hid c
    clear c
    go_wp2_with fail
    try rw [Exit.noGoto_ret]
    go_ret
    exact ⟨_, rfl, G.out, Tells.no fun h => hB.out (HC.out.1 h).2.2.2.1⟩
  ·have eO : (x.other == 0) = false := by simpa using c
   have hO := Lib.hid c
   clear c
   go_wp2_with fail
   try rw [Exit.noGoto_ret]
   go_ret
   exact ⟨_, rfl, G.out, Tells.no fun h => hO.out (HC.out.1 h).2.2.1⟩
 ·skip
  by_cases c : x.other = 0
  ·have eO : (x.other == 0) = true := by simpa using c
   have hO := Lib.hid c
   clear c
   by_cases c : x.bye = 0
   ·have eB : (x.bye == 0) = true := by simpa using c
    have hB := Lib.hid c
    clear c
    cases cA : x.always
    ·have hA := Lib.hid (show x.always = false by simp [cA])
     rw [cA] at x5
     have hcA := Lib.hid cA
     clear cA
     by_cases c : x.ms = []
     ·have eL : ((x.ms.length : Int) == 0) = true := by simp [c]
      have hL := Lib.hid c
      clear c
      go_wp2_with fail
      try rw [Exit.noGoto_ret]
      go_ret
      exact ⟨_, rfl, G.out, Tells.no fun h => hE.out (HC.out.1 h).1⟩
     ·have eL : ((x.ms.length : Int) == 0) = false := by simpa using c
      have hL := Lib.hid c
      clear c
      go_wp2_with fail
      try rw [Exit.noGoto_ret]
      go_ret
      exact ⟨_, rfl, G.out, Tells.no fun h => hE.out (HC.out.1 h).1⟩
    ·have hA := Lib.hid (show ¬ x.always = false by simp [cA])
     rw [cA] at x5
     have hcA := Lib.hid cA
     clear cA
     go_wp2_with fail
     try rw [Exit.noGoto_ret]
     go_ret
     exact ⟨_, rfl, G.out, Tells.no fun h => hE.out (HC.out.1 h).1⟩
   ·have eB : (x.bye == 0) = false := by simpa using c
    have hB := Lib.hid c
    clear c
    go_wp2_with fail
    try rw [Exit.noGoto_ret]
    go_ret
    exact ⟨_, rfl, G.out, Tells.no fun h => hE.out (HC.out.1 h).1⟩
  ·have eO : (x.other == 0) = false := by simpa using c
   have hO := Lib.hid c
   clear c
   go_wp2_with fail
   try rw [Exit.noGoto_ret]
   go_ret
   exact ⟨_, rfl, G.out, Tells.no fun h => hE.out (HC.out.1 h).1⟩
set_option maxRecDepth 100000 in
set_option maxHeartbeats 3200000 in
theorem ref_Rule2 (w : World) (P : Ptrs) (M : Mdl) (x : RuleM) (hm : MdlAt w P M) (hx : RuleMs w x) (hb : x.ms.length ≤ 1000000) (hk : x.kind = 2) :
  Calls Tryz.prog 64 #[.agg (mcells P M), .agg (ruleV x)] w (Ret w fun r _ => Tells (RuleOK M x) r) := by
 have HC := Lib.hid (show RuleOK M x ↔ Ex x.item M.items.length ∧ Within x.n 0 16 ∧ Within x.bye 2 4 ∧ x.other = 0 ∧ x.always = false ∧ x.ms = [] from rule_2 hk)
 have ek0 : (x.kind == 0) = false := by rw [hk]; decide
 have ek1 : (x.kind == 1) = false := by rw [hk]; decide
 have ek2 : (x.kind == 2) = true := by rw [hk]; decide
 clear hk
 have HM := Lib.hid hm
 have HX := Lib.hid hx
 have B0 := Cells.new w (mcells P M) 29
 have B := Cells.new (w.alloc (.cells (mcells P M) 29)) #[.int .i64 x.kind, .int .i64 x.item, .int .i64 x.other, .int .i64 x.n, .int .i64 x.bye, .bool x.always, .slice x.msP x.ms.length x.msC] 63
 rw [World.size_alloc] at B
 clear hm hx
 have m0 := mc0 B0.2 _ B.1
 have m1 := mc1 B0.2 _ B.1
 have m2 := mc2 B0.2 _ B.1
 have m3 := mc3 B0.2 _ B.1
 have m4 := mc4 B0.2 _ B.1
 have m5 := mc5 B0.2 _ B.1
 have m6 := mc6 B0.2 _ B.1
 have m7 := mc7 B0.2 _ B.1
 have m8 := mc8 B0.2 _ B.1
 have m9 := mc9 B0.2 _ B.1
 have m10 := mc10 B0.2 _ B.1
 have x0 : World.cell? _ ⟨_, 0, none⟩ = some (.int .i64 x.kind) := (B.2).at 0 rfl
 have x1 : World.cell? _ ⟨_, 1, none⟩ = some (.int .i64 x.item) := (B.2).at 1 rfl
 have x2 : World.cell? _ ⟨_, 2, none⟩ = some (.int .i64 x.other) := (B.2).at 2 rfl
 have x3 : World.cell? _ ⟨_, 3, none⟩ = some (.int .i64 x.n) := (B.2).at 3 rfl
 have x4 : World.cell? _ ⟨_, 4, none⟩ = some (.int .i64 x.bye) := (B.2).at 4 rfl
 have x5 : World.cell? _ ⟨_, 5, none⟩ = some (.bool x.always) := (B.2).at 5 rfl
 have x6 : World.cell? _ ⟨_, 6, none⟩ = some (.slice x.msP x.ms.length x.msC) := (B.2).at 6 rfl
 have H0 := Lib.hid (B0.1.trans B.1)
 have H1 := Lib.hid (B0.2.grow B.1)
 have H2 := Lib.hid B.2
 clear B0 B
 unfold ruleV
 unfold mcells at H0 H1 H2 m0 m1 m2 m3 m4 m5 m6 m7 m8 m9 m10 x0 x1 x2 x3 x4 x5 x6 ⊢
 go_enter Tryz.func64, Tryz.ntmps64
 go_wp2_with fail
 clear m0 m1 m2 m3 m4 m5 m6 m7 m8 m9 m10 x0 x1 x2 x3 x4 x5 x6
 generalize w.heap.size + 1 = bx at H2 ⊢
 generalize w.heap.size = bm at H1 ⊢
 generalize (w.alloc _).alloc _ = W at H0 H1 H2 ⊢
 have TM := Lib.hid (show Cells W bm (mcells P M) from H1.out)
 have TX := Lib.hid H2.out
 have G := Lib.hid H0.out
 have HM := Lib.hid (HM.out.grow G.out)
 have HX := Lib.hid (SlL.grow HX.out G.out)
 clear H0 H1 H2
 have m0 := mc0 TM.out _ (Gr.refl _)
 have m1 := mc1 TM.out _ (Gr.refl _)
 have m2 := mc2 TM.out _ (Gr.refl _)
 have m3 := mc3 TM.out _ (Gr.refl _)
 have m4 := mc4 TM.out _ (Gr.refl _)
 have m5 := mc5 TM.out _ (Gr.refl _)
 have m6 := mc6 TM.out _ (Gr.refl _)
 have m7 := mc7 TM.out _ (Gr.refl _)
 have m8 := mc8 TM.out _ (Gr.refl _)
 have m9 := mc9 TM.out _ (Gr.refl _)
 have m10 := mc10 TM.out _ (Gr.refl _)
 have x0 : World.cell? W ⟨_, 0, none⟩ = some (.int .i64 x.kind) := (TX.out).at 0 rfl
 have x1 : World.cell? W ⟨_, 1, none⟩ = some (.int .i64 x.item) := (TX.out).at 1 rfl
 have x2 : World.cell? W ⟨_, 2, none⟩ = some (.int .i64 x.other) := (TX.out).at 2 rfl
 have x3 : World.cell? W ⟨_, 3, none⟩ = some (.int .i64 x.n) := (TX.out).at 3 rfl
 have x4 : World.cell? W ⟨_, 4, none⟩ = some (.int .i64 x.bye) := (TX.out).at 4 rfl
 have x5 : World.cell? W ⟨_, 5, none⟩ = some (.bool x.always) := (TX.out).at 5 rfl
 have x6 : World.cell? W ⟨_, 6, none⟩ = some (.slice x.msP x.ms.length x.msC) := (TX.out).at 6 rfl
 refine (ref_Exists _ _ _).mono ?_
 rintro _ w1 ⟨⟨v1, rfl, z1⟩, rfl⟩
 rcases z1.cases with ⟨rfl, k1⟩ | ⟨rfl, k1⟩ <;> have hE := Lib.hid k1 <;> clear k1 z1
 ·skip
  by_cases c : x.other = 0
  ·have eO : (x.other == 0) = true := by simpa using c
   have hO := Lib.hid c
   clear c
   by_cases c : x.bye = 0
   ·have eB : (x.bye == 0) = true := by simpa using c
    have hB := Lib.hid c
    clear c
    cases cA : x.always
    ·have hA := Lib.hid (show x.always = false by simp [cA])
     rw [cA] at x5
     have hcA := Lib.hid cA
     clear cA
     by_cases c : x.ms = []
     ·have eL : ((x.ms.length : Int) == 0) = true := by simp [c]
      have hL := Lib.hid c
      clear c
      go_wp2_with fail
      refine (ref_within _ _ _ _).mono ?_
      rintro _ w1 ⟨⟨v1, rfl, z1⟩, rfl⟩
      rcases z1.cases with ⟨rfl, k1⟩ | ⟨rfl, k1⟩ <;> have hW24 := Lib.hid k1 <;> clear k1 z1
      ·skip
       exact (con_B_W24 hB.out hW24.out).elim
      ·skip
       go_wp2_with fail
       try rw [Exit.noGoto_ret]
       go_ret
       exact ⟨_, rfl, G.out, Tells.no fun h => hW24.out (HC.out.1 h).2.2.1⟩
     ·have eL : ((x.ms.length : Int) == 0) = false := by simpa using c
      have hL := Lib.hid c
      clear c
      go_wp2_with fail
      refine (ref_within _ _ _ _).mono ?_
      rintro _ w1 ⟨⟨v1, rfl, z1⟩, rfl⟩
      rcases z1.cases with ⟨rfl, k1⟩ | ⟨rfl, k1⟩ <;> have hW24 := Lib.hid k1 <;> clear k1 z1
      ·skip
       exact (con_B_W24 hB.out hW24.out).elim
      ·skip
       go_wp2_with fail
       try rw [Exit.noGoto_ret]
       go_ret
       exact ⟨_, rfl, G.out, Tells.no fun h => hW24.out (HC.out.1 h).2.2.1⟩
    ·have hA := Lib.hid (show ¬ x.always = false by simp [cA])
     rw [cA] at x5
     have hcA := Lib.hid cA
     clear cA
     go_wp2_with fail
     refine (ref_within _ _ _ _).mono ?_
     rintro _ w1 ⟨⟨v1, rfl, z1⟩, rfl⟩
     rcases z1.cases with ⟨rfl, k1⟩ | ⟨rfl, k1⟩ <;> have hW24 := Lib.hid k1 <;> clear k1 z1
     ·skip
      exact (con_B_W24 hB.out hW24.out).elim
     ·skip
      go_wp2_with fail
      try rw [Exit.noGoto_ret]
      go_ret
      exact ⟨_, rfl, G.out, Tells.no fun h => hW24.out (HC.out.1 h).2.2.1⟩
   ·have eB : (x.bye == 0) = false := by simpa using c
    have hB := Lib.hid c
    clear c
    go_wp2_with fail
    refine (ref_within _ _ _ _).mono ?_
    rintro _ w1 ⟨⟨v1, rfl, z1⟩, rfl⟩
    rcases z1.cases with ⟨rfl, k1⟩ | ⟨rfl, k1⟩ <;> have hW24 := Lib.hid k1 <;> clear k1 z1
    ·skip
     cases cA : x.always
     ·have hA := Lib.hid (show x.always = false by simp [cA])
      rw [cA] at x5
      have hcA := Lib.hid cA
      clear cA
      by_cases c : x.ms = []
      ·have eL : ((x.ms.length : Int) == 0) = true := by simp [c]
       have hL := Lib.hid c
       clear c
       go_wp2_with fail
       refine (ref_within _ _ _ _).mono ?_
       rintro _ w1 ⟨⟨v1, rfl, z1⟩, rfl⟩
       rcases z1.cases with ⟨rfl, k1⟩ | ⟨rfl, k1⟩ <;> have hW16 := Lib.hid k1 <;> clear k1 z1
       ·skip
        go_wp2_with fail
        try rw [Exit.noGoto_ret]
        go_ret
        exact ⟨_, rfl, G.out, Tells.yes (HC.out.2 ⟨hE.out, hW16.out, hW24.out, hO.out, hA.out, hL.out⟩)⟩
       ·skip
        go_wp2_with fail
        try rw [Exit.noGoto_ret]
        go_ret
        exact ⟨_, rfl, G.out, Tells.no fun h => hW16.out (HC.out.1 h).2.1⟩
      ·have eL : ((x.ms.length : Int) == 0) = false := by simpa using c
       have hL := Lib.hid c
       clear c
       go_wp2_with fail
       try rw [Exit.noGoto_ret]
       go_ret
       exact ⟨_, rfl, G.out, Tells.no fun h => hL.out (HC.out.1 h).2.2.2.2.2⟩
     ·have hA := Lib.hid (show ¬ x.always = false by simp [cA])
      rw [cA] at x5
      have hcA := Lib.hid cA
      clear cA
      go_wp2_with fail
      try rw [Exit.noGoto_ret]
      go_ret
      exact ⟨_, rfl, G.out, Tells.no fun h => hA.out (HC.out.1 h).2.2.2.2.1⟩
    ·skip
     go_wp2_with fail
     try rw [Exit.noGoto_ret]
     go_ret
     exact ⟨_, rfl, G.out, Tells.no fun h => hW24.out (HC.out.1 h).2.2.1⟩
  ·have eO : (x.other == 0) = false := by simpa using c
   have hO := Lib.hid c
   clear c
   go_wp2_with fail
   refine (ref_within _ _ _ _).mono ?_
   rintro _ w1 ⟨⟨v1, rfl, z1⟩, rfl⟩
   rcases z1.cases with ⟨rfl, k1⟩ | ⟨rfl, k1⟩ <;> have hW24 := Lib.hid k1 <;> clear k1 z1
   ·skip
    go_wp2_with fail
    try rw [Exit.noGoto_ret]
    go_ret
    exact ⟨_, rfl, G.out, Tells.no fun h => hO.out (HC.out.1 h).2.2.2.1⟩
   ·skip
    go_wp2_with fail
    try rw [Exit.noGoto_ret]
    go_ret
    exact ⟨_, rfl, G.out, Tells.no fun h => hW24.out (HC.out.1 h).2.2.1⟩
 ·skip
  by_cases c : x.other = 0
  ·have eO : (x.other == 0) = true := by simpa using c
   have hO := Lib.hid c
   clear c
   by_cases c : x.bye = 0
   ·have eB : (x.bye == 0) = true := by simpa using c
    have hB := Lib.hid c
    clear c
    cases cA : x.always
    ·have hA := Lib.hid (show x.always = false by simp [cA])
     rw [cA] at x5
     have hcA := Lib.hid cA
     clear cA
     by_cases c : x.ms = []
     ·have eL : ((x.ms.length : Int) == 0) = true := by simp [c]
      have hL := Lib.hid c
      clear c
      go_wp2_with fail
      try rw [Exit.noGoto_ret]
      go_ret
      exact ⟨_, rfl, G.out, Tells.no fun h => hE.out (HC.out.1 h).1⟩
     ·have eL : ((x.ms.length : Int) == 0) = false := by simpa using c
      have hL := Lib.hid c
      clear c
      go_wp2_with fail
      try rw [Exit.noGoto_ret]
      go_ret
      exact ⟨_, rfl, G.out, Tells.no fun h => hE.out (HC.out.1 h).1⟩
    ·have hA := Lib.hid (show ¬ x.always = false by simp [cA])
     rw [cA] at x5
     have hcA := Lib.hid cA
     clear cA
     go_wp2_with fail
     try rw [Exit.noGoto_ret]
     go_ret
     exact ⟨_, rfl, G.out, Tells.no fun h => hE.out (HC.out.1 h).1⟩
   ·have eB : (x.bye == 0) = false := by simpa using c
    have hB := Lib.hid c
    clear c
    go_wp2_with fail
    try rw [Exit.noGoto_ret]
    go_ret
    exact ⟨_, rfl, G.out, Tells.no fun h => hE.out (HC.out.1 h).1⟩
  ·have eO : (x.other == 0) = false := by simpa using c
   have hO := Lib.hid c
   clear c
   go_wp2_with fail
   try rw [Exit.noGoto_ret]
   go_ret
   exact ⟨_, rfl, G.out, Tells.no fun h => hE.out (HC.out.1 h).1⟩
set_option maxRecDepth 100000 in
set_option maxHeartbeats 3200000 in
theorem ref_Rule3 (w : World) (P : Ptrs) (M : Mdl) (x : RuleM) (hm : MdlAt w P M) (hx : RuleMs w x) (hb : x.ms.length ≤ 1000000) (hk : x.kind = 3) :
  Calls Tryz.prog 64 #[.agg (mcells P M), .agg (ruleV x)] w (Ret w fun r _ => Tells (RuleOK M x) r) := by
 have HC := Lib.hid (show RuleOK M x ↔ Ex x.item M.items.length ∧ MsOK M x.ms ∧ x.other = 0 ∧ x.n = 0 ∧ x.bye = 0 ∧ x.always = false from rule_3 hk)
 have ek0 : (x.kind == 0) = false := by rw [hk]; decide
 have ek1 : (x.kind == 1) = false := by rw [hk]; decide
 have ek2 : (x.kind == 2) = false := by rw [hk]; decide
 have ek3 : (x.kind == 3) = true := by rw [hk]; decide
 clear hk
 have HM := Lib.hid hm
 have HX := Lib.hid hx
 have B0 := Cells.new w (mcells P M) 29
 have B := Cells.new (w.alloc (.cells (mcells P M) 29)) #[.int .i64 x.kind, .int .i64 x.item, .int .i64 x.other, .int .i64 x.n, .int .i64 x.bye, .bool x.always, .slice x.msP x.ms.length x.msC] 63
 rw [World.size_alloc] at B
 clear hm hx
 have m0 := mc0 B0.2 _ B.1
 have m1 := mc1 B0.2 _ B.1
 have m2 := mc2 B0.2 _ B.1
 have m3 := mc3 B0.2 _ B.1
 have m4 := mc4 B0.2 _ B.1
 have m5 := mc5 B0.2 _ B.1
 have m6 := mc6 B0.2 _ B.1
 have m7 := mc7 B0.2 _ B.1
 have m8 := mc8 B0.2 _ B.1
 have m9 := mc9 B0.2 _ B.1
 have m10 := mc10 B0.2 _ B.1
 have x0 : World.cell? _ ⟨_, 0, none⟩ = some (.int .i64 x.kind) := (B.2).at 0 rfl
 have x1 : World.cell? _ ⟨_, 1, none⟩ = some (.int .i64 x.item) := (B.2).at 1 rfl
 have x2 : World.cell? _ ⟨_, 2, none⟩ = some (.int .i64 x.other) := (B.2).at 2 rfl
 have x3 : World.cell? _ ⟨_, 3, none⟩ = some (.int .i64 x.n) := (B.2).at 3 rfl
 have x4 : World.cell? _ ⟨_, 4, none⟩ = some (.int .i64 x.bye) := (B.2).at 4 rfl
 have x5 : World.cell? _ ⟨_, 5, none⟩ = some (.bool x.always) := (B.2).at 5 rfl
 have x6 : World.cell? _ ⟨_, 6, none⟩ = some (.slice x.msP x.ms.length x.msC) := (B.2).at 6 rfl
 have H0 := Lib.hid (B0.1.trans B.1)
 have H1 := Lib.hid (B0.2.grow B.1)
 have H2 := Lib.hid B.2
 clear B0 B
 unfold ruleV
 unfold mcells at H0 H1 H2 m0 m1 m2 m3 m4 m5 m6 m7 m8 m9 m10 x0 x1 x2 x3 x4 x5 x6 ⊢
 go_enter Tryz.func64, Tryz.ntmps64
 go_wp2_with fail
 clear m0 m1 m2 m3 m4 m5 m6 m7 m8 m9 m10 x0 x1 x2 x3 x4 x5 x6
 generalize w.heap.size + 1 = bx at H2 ⊢
 generalize w.heap.size = bm at H1 ⊢
 generalize (w.alloc _).alloc _ = W at H0 H1 H2 ⊢
 have TM := Lib.hid (show Cells W bm (mcells P M) from H1.out)
 have TX := Lib.hid H2.out
 have G := Lib.hid H0.out
 have HM := Lib.hid (HM.out.grow G.out)
 have HX := Lib.hid (SlL.grow HX.out G.out)
 clear H0 H1 H2
 have m0 := mc0 TM.out _ (Gr.refl _)
 have m1 := mc1 TM.out _ (Gr.refl _)
 have m2 := mc2 TM.out _ (Gr.refl _)
 have m3 := mc3 TM.out _ (Gr.refl _)
 have m4 := mc4 TM.out _ (Gr.refl _)
 have m5 := mc5 TM.out _ (Gr.refl _)
 have m6 := mc6 TM.out _ (Gr.refl _)
 have m7 := mc7 TM.out _ (Gr.refl _)
 have m8 := mc8 TM.out _ (Gr.refl _)
 have m9 := mc9 TM.out _ (Gr.refl _)
 have m10 := mc10 TM.out _ (Gr.refl _)
 have x0 : World.cell? W ⟨_, 0, none⟩ = some (.int .i64 x.kind) := (TX.out).at 0 rfl
 have x1 : World.cell? W ⟨_, 1, none⟩ = some (.int .i64 x.item) := (TX.out).at 1 rfl
 have x2 : World.cell? W ⟨_, 2, none⟩ = some (.int .i64 x.other) := (TX.out).at 2 rfl
 have x3 : World.cell? W ⟨_, 3, none⟩ = some (.int .i64 x.n) := (TX.out).at 3 rfl
 have x4 : World.cell? W ⟨_, 4, none⟩ = some (.int .i64 x.bye) := (TX.out).at 4 rfl
 have x5 : World.cell? W ⟨_, 5, none⟩ = some (.bool x.always) := (TX.out).at 5 rfl
 have x6 : World.cell? W ⟨_, 6, none⟩ = some (.slice x.msP x.ms.length x.msC) := (TX.out).at 6 rfl
 refine (ref_Exists _ _ _).mono ?_
 rintro _ w1 ⟨⟨v1, rfl, z1⟩, rfl⟩
 rcases z1.cases with ⟨rfl, k1⟩ | ⟨rfl, k1⟩ <;> have hE := Lib.hid k1 <;> clear k1 z1
 ·skip
  by_cases c : x.other = 0
  ·have eO : (x.other == 0) = true := by simpa using c
   have hO := Lib.hid c
   clear c
   by_cases c : x.bye = 0
   ·have eB : (x.bye == 0) = true := by simpa using c
    have hB := Lib.hid c
    clear c
    cases cA : x.always
    ·have hA := Lib.hid (show x.always = false by simp [cA])
     rw [cA] at x5
     have hcA := Lib.hid cA
     clear cA
     by_cases c : x.ms = []
     ·have eL : ((x.ms.length : Int) == 0) = true := by simp [c]
      have hL := Lib.hid c
      clear c
      go_wp2_with fail
      clear m0 m1 m2 m3 m4 m5 m6 m7 m8 m9 m10 x0 x1 x2 x3 x4 x5 x6
      refine (ref_Machines _ P M x.msP x.msC x.ms HM.out HX.out hb).mono ?_
      rintro _ w1 ⟨v1, rfl, g1, z1⟩
      have TX := Lib.hid (TX.out.grow g1)
      have G := Lib.hid (G.out.trans g1)
      clear g1
      have x0 : World.cell? w1 ⟨_, 0, none⟩ = some (.int .i64 x.kind) := (TX.out).at 0 rfl
      have x1 : World.cell? w1 ⟨_, 1, none⟩ = some (.int .i64 x.item) := (TX.out).at 1 rfl
      have x2 : World.cell? w1 ⟨_, 2, none⟩ = some (.int .i64 x.other) := (TX.out).at 2 rfl
      have x3 : World.cell? w1 ⟨_, 3, none⟩ = some (.int .i64 x.n) := (TX.out).at 3 rfl
      have x4 : World.cell? w1 ⟨_, 4, none⟩ = some (.int .i64 x.bye) := (TX.out).at 4 rfl
      have x5 : World.cell? w1 ⟨_, 5, none⟩ = some (.bool x.always) := (TX.out).at 5 rfl
      have x6 : World.cell? w1 ⟨_, 6, none⟩ = some (.slice x.msP x.ms.length x.msC) := (TX.out).at 6 rfl
      rw [hcA.out] at x5
      rcases z1.cases with ⟨rfl, k1⟩ | ⟨rfl, k1⟩ <;> have hMS := Lib.hid k1 <;> clear k1 z1
      ·skip
       exact (con_L_MS hL.out hMS.out).elim
      ·skip
       go_wp2_with fail
       try rw [Exit.noGoto_ret]
       go_ret
       exact ⟨_, rfl, G.out, Tells.no fun h => hMS.out (HC.out.1 h).2.1⟩
     ·have eL : ((x.ms.length : Int) == 0) = false := by simpa using c
      have hL := Lib.hid c
      clear c
      go_wp2_with fail
      clear m0 m1 m2 m3 m4 m5 m6 m7 m8 m9 m10 x0 x1 x2 x3 x4 x5 x6
      refine (ref_Machines _ P M x.msP x.msC x.ms HM.out HX.out hb).mono ?_
      rintro _ w1 ⟨v1, rfl, g1, z1⟩
      have TX := Lib.hid (TX.out.grow g1)
      have G := Lib.hid (G.out.trans g1)
      clear g1
      have x0 : World.cell? w1 ⟨_, 0, none⟩ = some (.int .i64 x.kind) := (TX.out).at 0 rfl
      have x1 : World.cell? w1 ⟨_, 1, none⟩ = some (.int .i64 x.item) := (TX.out).at 1 rfl
      have x2 : World.cell? w1 ⟨_, 2, none⟩ = some (.int .i64 x.other) := (TX.out).at 2 rfl
      have x3 : World.cell? w1 ⟨_, 3, none⟩ = some (.int .i64 x.n) := (TX.out).at 3 rfl
      have x4 : World.cell? w1 ⟨_, 4, none⟩ = some (.int .i64 x.bye) := (TX.out).at 4 rfl
      have x5 : World.cell? w1 ⟨_, 5, none⟩ = some (.bool x.always) := (TX.out).at 5 rfl
      have x6 : World.cell? w1 ⟨_, 6, none⟩ = some (.slice x.msP x.ms.length x.msC) := (TX.out).at 6 rfl
      rw [hcA.out] at x5
      rcases z1.cases with ⟨rfl, k1⟩ | ⟨rfl, k1⟩ <;> have hMS := Lib.hid k1 <;> clear k1 z1
      ·skip
       by_cases c : x.n = 0
       ·have eN : (x.n == 0) = true := by simpa using c
        have hN := Lib.hid c
        clear c
        go_wp2_with fail
        try rw [Exit.noGoto_ret]
        go_ret
        exact ⟨_, rfl, G.out, Tells.yes (HC.out.2 ⟨hE.out, hMS.out, hO.out, hN.out, hB.out, hA.out⟩)⟩
       ·have eN : (x.n == 0) = false := by simpa using c
        have hN := Lib.hid c
        clear c
        go_wp2_with fail
        try rw [Exit.noGoto_ret]
        go_ret
        exact ⟨_, rfl, G.out, Tells.no fun h => hN.out (HC.out.1 h).2.2.2.1⟩
      ·skip
       go_wp2_with fail
       try rw [Exit.noGoto_ret]
       go_ret
       exact ⟨_, rfl, G.out, Tells.no fun h => hMS.out (HC.out.1 h).2.1⟩
    ·have hA := Lib.hid (show ¬ x.always = false by simp [cA])
     rw [cA] at x5
     have hcA := Lib.hid cA
     clear cA
     go_wp2_with fail
     clear m0 m1 m2 m3 m4 m5 m6 m7 m8 m9 m10 x0 x1 x2 x3 x4 x5 x6
     refine (ref_Machines _ P M x.msP x.msC x.ms HM.out HX.out hb).mono ?_
     rintro _ w1 ⟨v1, rfl, g1, z1⟩
     have TX := Lib.hid (TX.out.grow g1)
     have G := Lib.hid (G.out.trans g1)
     clear g1
     have x0 : World.cell? w1 ⟨_, 0, none⟩ = some (.int .i64 x.kind) := (TX.out).at 0 rfl
     have x1 : World.cell? w1 ⟨_, 1, none⟩ = some (.int .i64 x.item) := (TX.out).at 1 rfl
     have x2 : World.cell? w1 ⟨_, 2, none⟩ = some (.int .i64 x.other) := (TX.out).at 2 rfl
     have x3 : World.cell? w1 ⟨_, 3, none⟩ = some (.int .i64 x.n) := (TX.out).at 3 rfl
     have x4 : World.cell? w1 ⟨_, 4, none⟩ = some (.int .i64 x.bye) := (TX.out).at 4 rfl
     have x5 : World.cell? w1 ⟨_, 5, none⟩ = some (.bool x.always) := (TX.out).at 5 rfl
     have x6 : World.cell? w1 ⟨_, 6, none⟩ = some (.slice x.msP x.ms.length x.msC) := (TX.out).at 6 rfl
     rw [hcA.out] at x5
     rcases z1.cases with ⟨rfl, k1⟩ | ⟨rfl, k1⟩ <;> have hMS := Lib.hid k1 <;> clear k1 z1
     ·skip
      go_wp2_with fail
      try rw [Exit.noGoto_ret]
      go_ret
      exact ⟨_, rfl, G.out, Tells.no fun h => hA.out (HC.out.1 h).2.2.2.2.2⟩
     ·skip
      go_wp2_with fail
      try rw [Exit.noGoto_ret]
      go_ret
      exact ⟨_, rfl, G.out, Tells.no fun h => hMS.out (HC.out.1 h).2.1⟩
   ·have eB : (x.bye == 0) = false := by simpa using c
    have hB := Lib.hid c
    clear c
    go_wp2_with fail
    clear m0 m1 m2 m3 m4 m5 m6 m7 m8 m9 m10 x0 x1 x2 x3 x4 x5 x6
    refine (ref_Machines _ P M x.msP x.msC x.ms HM.out HX.out hb).mono ?_
    rintro _ w1 ⟨v1, rfl, g1, z1⟩
    have TX := Lib.hid (TX.out.grow g1)
    have G := Lib.hid (G.out.trans g1)
    clear g1
    have x0 : World.cell? w1 ⟨_, 0, none⟩ = some (.int .i64 x.kind) := (TX.out).at 0 rfl
    have x1 : World.cell? w1 ⟨_, 1, none⟩ = some (.int .i64 x.item) := (TX.out).at 1 rfl
    have x2 : World.cell? w1 ⟨_, 2, none⟩ = some (.int .i64 x.other) := (TX.out).at 2 rfl
    have x3 : World.cell? w1 ⟨_, 3, none⟩ = some (.int .i64 x.n) := (TX.out).at 3 rfl
    have x4 : World.cell? w1 ⟨_, 4, none⟩ = some (.int .i64 x.bye) := (TX.out).at 4 rfl
    have x5 : World.cell? w1 ⟨_, 5, none⟩ = some (.bool x.always) := (TX.out).at 5 rfl
    have x6 : World.cell? w1 ⟨_, 6, none⟩ = some (.slice x.msP x.ms.length x.msC) := (TX.out).at 6 rfl
    rcases z1.cases with ⟨rfl, k1⟩ | ⟨rfl, k1⟩ <;> have hMS := Lib.hid k1 <;> clear k1 z1
    ·skip
     go_wp2_with fail
     try rw [Exit.noGoto_ret]
     go_ret
     exact ⟨_, rfl, G.out, Tells.no fun h => hB.out (HC.out.1 h).2.2.2.2.1⟩
    ·skip
     go_wp2_with fail
     try rw [Exit.noGoto_ret]
     go_ret
     exact ⟨_, rfl, G.out, Tells.no fun h => hMS.out (HC.out.1 h).2.1⟩
  ·have eO : (x.other == 0) = false := by simpa using c
   have hO := Lib.hid c
   clear c
   go_wp2_with fail
   clear m0 m1 m2 m3 m4 m5 m6 m7 m8 m9 m10 x0 x1 x2 x3 x4 x5 x6
   refine (ref_Machines _ P M x.msP x.msC x.ms HM.out HX.out hb).mono ?_
   rintro _ w1 ⟨v1, rfl, g1, z1⟩
   have TX := Lib.hid (TX.out.grow g1)
   have G := Lib.hid (G.out.trans g1)
   clear g1
   have x0 : World.cell? w1 ⟨_, 0, none⟩ = some (.int .i64 x.kind) := (TX.out).at 0 rfl
   have x1 : World.cell? w1 ⟨_, 1, none⟩ = some (.int .i64 x.item) := (TX.out).at 1 rfl
   have x2 : World.cell? w1 ⟨_, 2, none⟩ = some (.int .i64 x.other) := (TX.out).at 2 rfl
   have x3 : World.cell? w1 ⟨_, 3, none⟩ = some (.int .i64 x.n) := (TX.out).at 3 rfl
   have x4 : World.cell? w1 ⟨_, 4, none⟩ = some (.int .i64 x.bye) := (TX.out).at 4 rfl
   have x5 : World.cell? w1 ⟨_, 5, none⟩ = some (.bool x.always) := (TX.out).at 5 rfl
   have x6 : World.cell? w1 ⟨_, 6, none⟩ = some (.slice x.msP x.ms.length x.msC) := (TX.out).at 6 rfl
   rcases z1.cases with ⟨rfl, k1⟩ | ⟨rfl, k1⟩ <;> have hMS := Lib.hid k1 <;> clear k1 z1
   ·skip
    go_wp2_with fail
    try rw [Exit.noGoto_ret]
    go_ret
    exact ⟨_, rfl, G.out, Tells.no fun h => hO.out (HC.out.1 h).2.2.1⟩
   ·skip
    go_wp2_with fail
    try rw [Exit.noGoto_ret]
    go_ret
    exact ⟨_, rfl, G.out, Tells.no fun h => hMS.out (HC.out.1 h).2.1⟩
 ·skip
  by_cases c : x.other = 0
  ·have eO : (x.other == 0) = true := by simpa using c
   have hO := Lib.hid c
   clear c
   by_cases c : x.bye = 0
   ·have eB : (x.bye == 0) = true := by simpa using c
    have hB := Lib.hid c
    clear c
    cases cA : x.always
    ·have hA := Lib.hid (show x.always = false by simp [cA])
     rw [cA] at x5
     have hcA := Lib.hid cA
     clear cA
     by_cases c : x.ms = []
     ·have eL : ((x.ms.length : Int) == 0) = true := by simp [c]
      have hL := Lib.hid c
      clear c
      go_wp2_with fail
      try rw [Exit.noGoto_ret]
      go_ret
      exact ⟨_, rfl, G.out, Tells.no fun h => hE.out (HC.out.1 h).1⟩
     ·have eL : ((x.ms.length : Int) == 0) = false := by simpa using c
      have hL := Lib.hid c
      clear c
      go_wp2_with fail
      try rw [Exit.noGoto_ret]
      go_ret
      exact ⟨_, rfl, G.out, Tells.no fun h => hE.out (HC.out.1 h).1⟩
    ·have hA := Lib.hid (show ¬ x.always = false by simp [cA])
     rw [cA] at x5
     have hcA := Lib.hid cA
     clear cA
     go_wp2_with fail
     try rw [Exit.noGoto_ret]
     go_ret
     exact ⟨_, rfl, G.out, Tells.no fun h => hE.out (HC.out.1 h).1⟩
   ·have eB : (x.bye == 0) = false := by simpa using c
    have hB := Lib.hid c
    clear c
    go_wp2_with fail
    try rw [Exit.noGoto_ret]
    go_ret
    exact ⟨_, rfl, G.out, Tells.no fun h => hE.out (HC.out.1 h).1⟩
  ·have eO : (x.other == 0) = false := by simpa using c
   have hO := Lib.hid c
   clear c
   go_wp2_with fail
   try rw [Exit.noGoto_ret]
   go_ret
   exact ⟨_, rfl, G.out, Tells.no fun h => hE.out (HC.out.1 h).1⟩
end Go.Proofs.YtnlocdijdfclcaaGreatDoor
namespace Go.Proofs.YtnlocdijdfclcaaGreatDoor
open Go.RowKit Go.Lib Lex
set_option linter.unusedVariables false
set_option linter.unusedSimpArgs false

set_option maxRecDepth 100000 in
set_option maxHeartbeats 3200000 in
theorem ref_Rule4 (w : World) (P : Ptrs) (M : Mdl) (x : RuleM) (hm : MdlAt w P M) (hx : RuleMs w x) (hb : x.ms.length ≤ 1000000) (hk : x.kind = 4) :
  Calls Tryz.prog 64 #[.agg (mcells P M), .agg (ruleV x)] w (Ret w fun r _ => Tells (RuleOK M x) r) := by
 have HC := Lib.hid (show RuleOK M x ↔ Ex x.item M.items.length ∧ Ex x.other M.items.length ∧ x.item ≠ x.other ∧ x.n = 0 ∧ x.bye = 0 ∧ x.always = false ∧ x.ms = [] from rule_4 hk)
 have ek0 : (x.kind == 0) = false := by rw [hk]; decide
 have ek1 : (x.kind == 1) = false := by rw [hk]; decide
 have ek2 : (x.kind == 2) = false := by rw [hk]; decide
 have ek3 : (x.kind == 3) = false := by rw [hk]; decide
 have ek4 : (x.kind == 4) = true := by rw [hk]; decide
 clear hk
 have HM := Lib.hid hm
 have HX := Lib.hid hx
 have B0 := Cells.new w (mcells P M) 29
 have B := Cells.new (w.alloc (.cells (mcells P M) 29)) #[.int .i64 x.kind, .int .i64 x.item, .int .i64 x.other, .int .i64 x.n, .int .i64 x.bye, .bool x.always, .slice x.msP x.ms.length x.msC] 63
 rw [World.size_alloc] at B
 clear hm hx
 have m0 := mc0 B0.2 _ B.1
 have m1 := mc1 B0.2 _ B.1
 have m2 := mc2 B0.2 _ B.1
 have m3 := mc3 B0.2 _ B.1
 have m4 := mc4 B0.2 _ B.1
 have m5 := mc5 B0.2 _ B.1
 have m6 := mc6 B0.2 _ B.1
 have m7 := mc7 B0.2 _ B.1
 have m8 := mc8 B0.2 _ B.1
 have m9 := mc9 B0.2 _ B.1
 have m10 := mc10 B0.2 _ B.1
 have x0 : World.cell? _ ⟨_, 0, none⟩ = some (.int .i64 x.kind) := (B.2).at 0 rfl
 have x1 : World.cell? _ ⟨_, 1, none⟩ = some (.int .i64 x.item) := (B.2).at 1 rfl
 have x2 : World.cell? _ ⟨_, 2, none⟩ = some (.int .i64 x.other) := (B.2).at 2 rfl
 have x3 : World.cell? _ ⟨_, 3, none⟩ = some (.int .i64 x.n) := (B.2).at 3 rfl
 have x4 : World.cell? _ ⟨_, 4, none⟩ = some (.int .i64 x.bye) := (B.2).at 4 rfl
 have x5 : World.cell? _ ⟨_, 5, none⟩ = some (.bool x.always) := (B.2).at 5 rfl
 have x6 : World.cell? _ ⟨_, 6, none⟩ = some (.slice x.msP x.ms.length x.msC) := (B.2).at 6 rfl
 have H0 := Lib.hid (B0.1.trans B.1)
 have H1 := Lib.hid (B0.2.grow B.1)
 have H2 := Lib.hid B.2
 clear B0 B
 unfold ruleV
 unfold mcells at H0 H1 H2 m0 m1 m2 m3 m4 m5 m6 m7 m8 m9 m10 x0 x1 x2 x3 x4 x5 x6 ⊢
 go_enter Tryz.func64, Tryz.ntmps64
 go_wp2_with fail
 clear m0 m1 m2 m3 m4 m5 m6 m7 m8 m9 m10 x0 x1 x2 x3 x4 x5 x6
 generalize w.heap.size + 1 = bx at H2 ⊢
 generalize w.heap.size = bm at H1 ⊢
 generalize (w.alloc _).alloc _ = W at H0 H1 H2 ⊢
 have TM := Lib.hid (show Cells W bm (mcells P M) from H1.out)
 have TX := Lib.hid H2.out
 have G := Lib.hid H0.out
 have HM := Lib.hid (HM.out.grow G.out)
 have HX := Lib.hid (SlL.grow HX.out G.out)
 clear H0 H1 H2
 have m0 := mc0 TM.out _ (Gr.refl _)
 have m1 := mc1 TM.out _ (Gr.refl _)
 have m2 := mc2 TM.out _ (Gr.refl _)
 have m3 := mc3 TM.out _ (Gr.refl _)
 have m4 := mc4 TM.out _ (Gr.refl _)
 have m5 := mc5 TM.out _ (Gr.refl _)
 have m6 := mc6 TM.out _ (Gr.refl _)
 have m7 := mc7 TM.out _ (Gr.refl _)
 have m8 := mc8 TM.out _ (Gr.refl _)
 have m9 := mc9 TM.out _ (Gr.refl _)
 have m10 := mc10 TM.out _ (Gr.refl _)
 have x0 : World.cell? W ⟨_, 0, none⟩ = some (.int .i64 x.kind) := (TX.out).at 0 rfl
 have x1 : World.cell? W ⟨_, 1, none⟩ = some (.int .i64 x.item) := (TX.out).at 1 rfl
 have x2 : World.cell? W ⟨_, 2, none⟩ = some (.int .i64 x.other) := (TX.out).at 2 rfl
 have x3 : World.cell? W ⟨_, 3, none⟩ = some (.int .i64 x.n) := (TX.out).at 3 rfl
 have x4 : World.cell? W ⟨_, 4, none⟩ = some (.int .i64 x.bye) := (TX.out).at 4 rfl
 have x5 : World.cell? W ⟨_, 5, none⟩ = some (.bool x.always) := (TX.out).at 5 rfl
 have x6 : World.cell? W ⟨_, 6, none⟩ = some (.slice x.msP x.ms.length x.msC) := (TX.out).at 6 rfl
 refine (ref_Exists _ _ _).mono ?_
 rintro _ w1 ⟨⟨v1, rfl, z1⟩, rfl⟩
 rcases z1.cases with ⟨rfl, k1⟩ | ⟨rfl, k1⟩ <;> have hE := Lib.hid k1 <;> clear k1 z1
 ·skip
  by_cases c : x.other = 0
  ·have eO : (x.other == 0) = true := by simpa using c
   have hO := Lib.hid c
   clear c
   by_cases c : x.bye = 0
   ·have eB : (x.bye == 0) = true := by simpa using c
    have hB := Lib.hid c
    clear c
    cases cA : x.always
    ·have hA := Lib.hid (show x.always = false by simp [cA])
     rw [cA] at x5
     have hcA := Lib.hid cA
     clear cA
     by_cases c : x.ms = []
     ·have eL : ((x.ms.length : Int) == 0) = true := by simp [c]
      have hL := Lib.hid c
      clear c
      go_wp2_with fail
      refine (ref_Exists _ _ _).mono ?_
      rintro _ w1 ⟨⟨v1, rfl, z1⟩, rfl⟩
      rcases z1.cases with ⟨rfl, k1⟩ | ⟨rfl, k1⟩ <;> have hEO := Lib.hid k1 <;> clear k1 z1
      ·skip
       exact (con_O_EO hO.out hEO.out).elim
      ·skip
       go_wp2_with fail
       try rw [Exit.noGoto_ret]
       go_ret
       exact ⟨_, rfl, G.out, Tells.no fun h => hEO.out (HC.out.1 h).2.1⟩
     ·have eL : ((x.ms.length : Int) == 0) = false := by simpa using c
      have hL := Lib.hid c
      clear c
      go_wp2_with fail
      refine (ref_Exists _ _ _).mono ?_
      rintro _ w1 ⟨⟨v1, rfl, z1⟩, rfl⟩
      rcases z1.cases with ⟨rfl, k1⟩ | ⟨rfl, k1⟩ <;> have hEO := Lib.hid k1 <;> clear k1 z1
      ·skip
       exact (con_O_EO hO.out hEO.out).elim
      ·skip
       go_wp2_with fail
       try rw [Exit.noGoto_ret]
       go_ret
       exact ⟨_, rfl, G.out, Tells.no fun h => hEO.out (HC.out.1 h).2.1⟩
    ·have hA := Lib.hid (show ¬ x.always = false by simp [cA])
     rw [cA] at x5
     have hcA := Lib.hid cA
     clear cA
     go_wp2_with fail
     refine (ref_Exists _ _ _).mono ?_
     rintro _ w1 ⟨⟨v1, rfl, z1⟩, rfl⟩
     rcases z1.cases with ⟨rfl, k1⟩ | ⟨rfl, k1⟩ <;> have hEO := Lib.hid k1 <;> clear k1 z1
     ·skip
      exact (con_O_EO hO.out hEO.out).elim
     ·skip
      go_wp2_with fail
      try rw [Exit.noGoto_ret]
      go_ret
      exact ⟨_, rfl, G.out, Tells.no fun h => hEO.out (HC.out.1 h).2.1⟩
   ·have eB : (x.bye == 0) = false := by simpa using c
    have hB := Lib.hid c
    clear c
    go_wp2_with fail
    refine (ref_Exists _ _ _).mono ?_
    rintro _ w1 ⟨⟨v1, rfl, z1⟩, rfl⟩
    rcases z1.cases with ⟨rfl, k1⟩ | ⟨rfl, k1⟩ <;> have hEO := Lib.hid k1 <;> clear k1 z1
    ·skip
     exact (con_O_EO hO.out hEO.out).elim
    ·skip
     go_wp2_with fail
     try rw [Exit.noGoto_ret]
     go_ret
     exact ⟨_, rfl, G.out, Tells.no fun h => hEO.out (HC.out.1 h).2.1⟩
  ·have eO : (x.other == 0) = false := by simpa using c
   have hO := Lib.hid c
   clear c
   go_wp2_with fail
   refine (ref_Exists _ _ _).mono ?_
   rintro _ w1 ⟨⟨v1, rfl, z1⟩, rfl⟩
   rcases z1.cases with ⟨rfl, k1⟩ | ⟨rfl, k1⟩ <;> have hEO := Lib.hid k1 <;> clear k1 z1
   ·skip
    by_cases c : x.item ≠ x.other
    ·have eD : (x.item != x.other) = true := by simpa using c
     have hD := Lib.hid c
     clear c
     by_cases c : x.bye = 0
     ·have eB : (x.bye == 0) = true := by simpa using c
      have hB := Lib.hid c
      clear c
      cases cA : x.always
      ·have hA := Lib.hid (show x.always = false by simp [cA])
       rw [cA] at x5
       have hcA := Lib.hid cA
       clear cA
       by_cases c : x.ms = []
       ·have eL : ((x.ms.length : Int) == 0) = true := by simp [c]
        have hL := Lib.hid c
        clear c
        by_cases c : x.n = 0
        ·have eN : (x.n == 0) = true := by simpa using c
         have hN := Lib.hid c
         clear c
         go_wp2_with fail
         try rw [Exit.noGoto_ret]
         go_ret
         exact ⟨_, rfl, G.out, Tells.yes (HC.out.2 ⟨hE.out, hEO.out, hD.out, hN.out, hB.out, hA.out, hL.out⟩)⟩
        ·have eN : (x.n == 0) = false := by simpa using c
         have hN := Lib.hid c
         clear c
         go_wp2_with fail
         try rw [Exit.noGoto_ret]
         go_ret
         exact ⟨_, rfl, G.out, Tells.no fun h => hN.out (HC.out.1 h).2.2.2.1⟩
       ·have eL : ((x.ms.length : Int) == 0) = false := by simpa using c
        have hL := Lib.hid c
        clear c
        go_wp2_with fail
        try rw [Exit.noGoto_ret]
        go_ret
        exact ⟨_, rfl, G.out, Tells.no fun h => hL.out (HC.out.1 h).2.2.2.2.2.2⟩
      ·have hA := Lib.hid (show ¬ x.always = false by simp [cA])
       rw [cA] at x5
       have hcA := Lib.hid cA
       clear cA
       go_wp2_with fail
       try rw [Exit.noGoto_ret]
       go_ret
       exact ⟨_, rfl, G.out, Tells.no fun h => hA.out (HC.out.1 h).2.2.2.2.2.1⟩
     ·have eB : (x.bye == 0) = false := by simpa using c
      have hB := Lib.hid c
      clear c
      go_wp2_with fail
      try rw [Exit.noGoto_ret]
      go_ret
      exact ⟨_, rfl, G.out, Tells.no fun h => hB.out (HC.out.1 h).2.2.2.2.1⟩
    ·have eD : (x.item != x.other) = false := by simpa using c
     have hD := Lib.hid c
     clear c
     go_wp2_with fail
     try rw [Exit.noGoto_ret]
     go_ret
     exact ⟨_, rfl, G.out, Tells.no fun h => hD.out (HC.out.1 h).2.2.1⟩
   ·skip
    go_wp2_with fail
    try rw [Exit.noGoto_ret]
    go_ret
    exact ⟨_, rfl, G.out, Tells.no fun h => hEO.out (HC.out.1 h).2.1⟩
 ·skip
  by_cases c : x.other = 0
  ·have eO : (x.other == 0) = true := by simpa using c
   have hO := Lib.hid c
   clear c
   by_cases c : x.bye = 0
   ·have eB : (x.bye == 0) = true := by simpa using c
    have hB := Lib.hid c
    clear c
    cases cA : x.always
    ·have hA := Lib.hid (show x.always = false by simp [cA])
     rw [cA] at x5
     have hcA := Lib.hid cA
     clear cA
     by_cases c : x.ms = []
     ·have eL : ((x.ms.length : Int) == 0) = true := by simp [c]
      have hL := Lib.hid c
      clear c
      go_wp2_with fail
      try rw [Exit.noGoto_ret]
      go_ret
      exact ⟨_, rfl, G.out, Tells.no fun h => hE.out (HC.out.1 h).1⟩
     ·have eL : ((x.ms.length : Int) == 0) = false := by simpa using c
      have hL := Lib.hid c
      clear c
      go_wp2_with fail
      try rw [Exit.noGoto_ret]
      go_ret
      exact ⟨_, rfl, G.out, Tells.no fun h => hE.out (HC.out.1 h).1⟩
    ·have hA := Lib.hid (show ¬ x.always = false by simp [cA])
     rw [cA] at x5
     have hcA := Lib.hid cA
     clear cA
     go_wp2_with fail
     try rw [Exit.noGoto_ret]
     go_ret
     exact ⟨_, rfl, G.out, Tells.no fun h => hE.out (HC.out.1 h).1⟩
   ·have eB : (x.bye == 0) = false := by simpa using c
    have hB := Lib.hid c
    clear c
    go_wp2_with fail
    try rw [Exit.noGoto_ret]
    go_ret
    exact ⟨_, rfl, G.out, Tells.no fun h => hE.out (HC.out.1 h).1⟩
  ·have eO : (x.other == 0) = false := by simpa using c
   have hO := Lib.hid c
   clear c
   go_wp2_with fail
   try rw [Exit.noGoto_ret]
   go_ret
   exact ⟨_, rfl, G.out, Tells.no fun h => hE.out (HC.out.1 h).1⟩
set_option maxRecDepth 100000 in
set_option maxHeartbeats 3200000 in
theorem ref_Rule5 (w : World) (P : Ptrs) (M : Mdl) (x : RuleM) (hm : MdlAt w P M) (hx : RuleMs w x) (hb : x.ms.length ≤ 1000000) (hk : x.kind = 5) :
  Calls Tryz.prog 64 #[.agg (mcells P M), .agg (ruleV x)] w (Ret w fun r _ => Tells (RuleOK M x) r) := by
 have HC := Lib.hid (show RuleOK M x ↔ Within x.n 0 200 ∧ x.item = 0 ∧ x.other = 0 ∧ x.bye = 0 ∧ x.always = false ∧ x.ms = [] from rule_5 hk)
 have ek0 : (x.kind == 0) = false := by rw [hk]; decide
 have ek1 : (x.kind == 1) = false := by rw [hk]; decide
 have ek2 : (x.kind == 2) = false := by rw [hk]; decide
 have ek3 : (x.kind == 3) = false := by rw [hk]; decide
 have ek4 : (x.kind == 4) = false := by rw [hk]; decide
 have ek5 : (x.kind == 5) = true := by rw [hk]; decide
 clear hk
 have HM := Lib.hid hm
 have HX := Lib.hid hx
 have B0 := Cells.new w (mcells P M) 29
 have B := Cells.new (w.alloc (.cells (mcells P M) 29)) #[.int .i64 x.kind, .int .i64 x.item, .int .i64 x.other, .int .i64 x.n, .int .i64 x.bye, .bool x.always, .slice x.msP x.ms.length x.msC] 63
 rw [World.size_alloc] at B
 clear hm hx
 have m0 := mc0 B0.2 _ B.1
 have m1 := mc1 B0.2 _ B.1
 have m2 := mc2 B0.2 _ B.1
 have m3 := mc3 B0.2 _ B.1
 have m4 := mc4 B0.2 _ B.1
 have m5 := mc5 B0.2 _ B.1
 have m6 := mc6 B0.2 _ B.1
 have m7 := mc7 B0.2 _ B.1
 have m8 := mc8 B0.2 _ B.1
 have m9 := mc9 B0.2 _ B.1
 have m10 := mc10 B0.2 _ B.1
 have x0 : World.cell? _ ⟨_, 0, none⟩ = some (.int .i64 x.kind) := (B.2).at 0 rfl
 have x1 : World.cell? _ ⟨_, 1, none⟩ = some (.int .i64 x.item) := (B.2).at 1 rfl
 have x2 : World.cell? _ ⟨_, 2, none⟩ = some (.int .i64 x.other) := (B.2).at 2 rfl
 have x3 : World.cell? _ ⟨_, 3, none⟩ = some (.int .i64 x.n) := (B.2).at 3 rfl
 have x4 : World.cell? _ ⟨_, 4, none⟩ = some (.int .i64 x.bye) := (B.2).at 4 rfl
 have x5 : World.cell? _ ⟨_, 5, none⟩ = some (.bool x.always) := (B.2).at 5 rfl
 have x6 : World.cell? _ ⟨_, 6, none⟩ = some (.slice x.msP x.ms.length x.msC) := (B.2).at 6 rfl
 have H0 := Lib.hid (B0.1.trans B.1)
 have H1 := Lib.hid (B0.2.grow B.1)
 have H2 := Lib.hid B.2
 clear B0 B
 unfold ruleV
 unfold mcells at H0 H1 H2 m0 m1 m2 m3 m4 m5 m6 m7 m8 m9 m10 x0 x1 x2 x3 x4 x5 x6 ⊢
 go_enter Tryz.func64, Tryz.ntmps64
 go_wp2_with fail
 clear m0 m1 m2 m3 m4 m5 m6 m7 m8 m9 m10 x0 x1 x2 x3 x4 x5 x6
 generalize w.heap.size + 1 = bx at H2 ⊢
 generalize w.heap.size = bm at H1 ⊢
 generalize (w.alloc _).alloc _ = W at H0 H1 H2 ⊢
 have TM := Lib.hid (show Cells W bm (mcells P M) from H1.out)
 have TX := Lib.hid H2.out
 have G := Lib.hid H0.out
 have HM := Lib.hid (HM.out.grow G.out)
 have HX := Lib.hid (SlL.grow HX.out G.out)
 clear H0 H1 H2
 have m0 := mc0 TM.out _ (Gr.refl _)
 have m1 := mc1 TM.out _ (Gr.refl _)
 have m2 := mc2 TM.out _ (Gr.refl _)
 have m3 := mc3 TM.out _ (Gr.refl _)
 have m4 := mc4 TM.out _ (Gr.refl _)
 have m5 := mc5 TM.out _ (Gr.refl _)
 have m6 := mc6 TM.out _ (Gr.refl _)
 have m7 := mc7 TM.out _ (Gr.refl _)
 have m8 := mc8 TM.out _ (Gr.refl _)
 have m9 := mc9 TM.out _ (Gr.refl _)
 have m10 := mc10 TM.out _ (Gr.refl _)
 have x0 : World.cell? W ⟨_, 0, none⟩ = some (.int .i64 x.kind) := (TX.out).at 0 rfl
 have x1 : World.cell? W ⟨_, 1, none⟩ = some (.int .i64 x.item) := (TX.out).at 1 rfl
 have x2 : World.cell? W ⟨_, 2, none⟩ = some (.int .i64 x.other) := (TX.out).at 2 rfl
 have x3 : World.cell? W ⟨_, 3, none⟩ = some (.int .i64 x.n) := (TX.out).at 3 rfl
 have x4 : World.cell? W ⟨_, 4, none⟩ = some (.int .i64 x.bye) := (TX.out).at 4 rfl
 have x5 : World.cell? W ⟨_, 5, none⟩ = some (.bool x.always) := (TX.out).at 5 rfl
 have x6 : World.cell? W ⟨_, 6, none⟩ = some (.slice x.msP x.ms.length x.msC) := (TX.out).at 6 rfl
 refine (ref_Exists _ _ _).mono ?_
 rintro _ w1 ⟨⟨v1, rfl, z1⟩, rfl⟩
 rcases z1.cases with ⟨rfl, k1⟩ | ⟨rfl, k1⟩ <;> have hE := Lib.hid k1 <;> clear k1 z1
 ·skip
  by_cases c : x.other = 0
  ·have eO : (x.other == 0) = true := by simpa using c
   have hO := Lib.hid c
   clear c
   by_cases c : x.bye = 0
   ·have eB : (x.bye == 0) = true := by simpa using c
    have hB := Lib.hid c
    clear c
    cases cA : x.always
    ·have hA := Lib.hid (show x.always = false by simp [cA])
     rw [cA] at x5
     have hcA := Lib.hid cA
     clear cA
     by_cases c : x.ms = []
     ·have eL : ((x.ms.length : Int) == 0) = true := by simp [c]
      have hL := Lib.hid c
      clear c
      by_cases c : x.item = 0
      ·have eI : (x.item == 0) = true := by simpa using c
       have hI := Lib.hid c
       clear c
       exact (con_I_E hI.out hE.out).elim
      ·have eI : (x.item == 0) = false := by simpa using c
       have hI := Lib.hid c
       clear c
       go_wp2_with fail
       try rw [Exit.noGoto_ret]
       go_ret
       exact ⟨_, rfl, G.out, Tells.no fun h => hI.out (HC.out.1 h).2.1⟩
     ·have eL : ((x.ms.length : Int) == 0) = false := by simpa using c
      have hL := Lib.hid c
      clear c
      by_cases c : x.item = 0
      ·have eI : (x.item == 0) = true := by simpa using c
       have hI := Lib.hid c
       clear c
       exact (con_I_E hI.out hE.out).elim
      ·have eI : (x.item == 0) = false := by simpa using c
       have hI := Lib.hid c
       clear c
       go_wp2_with fail
       try rw [Exit.noGoto_ret]
       go_ret
       exact ⟨_, rfl, G.out, Tells.no fun h => hI.out (HC.out.1 h).2.1⟩
    ·have hA := Lib.hid (show ¬ x.always = false by simp [cA])
     rw [cA] at x5
     have hcA := Lib.hid cA
     clear cA
     by_cases c : x.item = 0
     ·have eI : (x.item == 0) = true := by simpa using c
      have hI := Lib.hid c
      clear c
      exact (con_I_E hI.out hE.out).elim
     ·have eI : (x.item == 0) = false := by simpa using c
      have hI := Lib.hid c
      clear c
      go_wp2_with fail
      try rw [Exit.noGoto_ret]
      go_ret
      exact ⟨_, rfl, G.out, Tells.no fun h => hI.out (HC.out.1 h).2.1⟩
   ·have eB : (x.bye == 0) = false := by simpa using c
    have hB := Lib.hid c
    clear c
    by_cases c : x.item = 0
    ·have eI : (x.item == 0) = true := by simpa using c
     have hI := Lib.hid c
     clear c
     exact (con_I_E hI.out hE.out).elim
    ·have eI : (x.item == 0) = false := by simpa using c
     have hI := Lib.hid c
     clear c
     go_wp2_with fail
     try rw [Exit.noGoto_ret]
     go_ret
     exact ⟨_, rfl, G.out, Tells.no fun h => hI.out (HC.out.1 h).2.1⟩
  ·have eO : (x.other == 0) = false := by simpa using c
   have hO := Lib.hid c
   clear c
   by_cases c : x.item = 0
   ·have eI : (x.item == 0) = true := by simpa using c
    have hI := Lib.hid c
    clear c
    exact (con_I_E hI.out hE.out).elim
   ·have eI : (x.item == 0) = false := by simpa using c
    have hI := Lib.hid c
    clear c
    go_wp2_with fail
    try rw [Exit.noGoto_ret]
    go_ret
    exact ⟨_, rfl, G.out, Tells.no fun h => hI.out (HC.out.1 h).2.1⟩
 ·skip
  by_cases c : x.other = 0
  ·have eO : (x.other == 0) = true := by simpa using c
   have hO := Lib.hid c
   clear c
   by_cases c : x.bye = 0
   ·have eB : (x.bye == 0) = true := by simpa using c
    have hB := Lib.hid c
    clear c
    cases cA : x.always
    ·have hA := Lib.hid (show x.always = false by simp [cA])
     rw [cA] at x5
     have hcA := Lib.hid cA
     clear cA
     by_cases c : x.ms = []
     ·have eL : ((x.ms.length : Int) == 0) = true := by simp [c]
      have hL := Lib.hid c
      clear c
      by_cases c : x.item = 0
      ·have eI : (x.item == 0) = true := by simpa using c
       have hI := Lib.hid c
       clear c
       go_wp2_with fail
       refine (ref_within _ _ _ _).mono ?_
       rintro _ w1 ⟨⟨v1, rfl, z1⟩, rfl⟩
       rcases z1.cases with ⟨rfl, k1⟩ | ⟨rfl, k1⟩ <;> have hW200 := Lib.hid k1 <;> clear k1 z1
       ·skip
        go_wp2_with fail
        try rw [Exit.noGoto_ret]
        go_ret
        exact ⟨_, rfl, G.out, Tells.yes (HC.out.2 ⟨hW200.out, hI.out, hO.out, hB.out, hA.out, hL.out⟩)⟩
       ·skip
        go_wp2_with fail
        try rw [Exit.noGoto_ret]
        go_ret
        exact ⟨_, rfl, G.out, Tells.no fun h => hW200.out (HC.out.1 h).1⟩
      ·have eI : (x.item == 0) = false := by simpa using c
       have hI := Lib.hid c
       clear c
       go_wp2_with fail
       try rw [Exit.noGoto_ret]
       go_ret
       exact ⟨_, rfl, G.out, Tells.no fun h => hI.out (HC.out.1 h).2.1⟩
     ·have eL : ((x.ms.length : Int) == 0) = false := by simpa using c
      have hL := Lib.hid c
      clear c
      by_cases c : x.item = 0
      ·have eI : (x.item == 0) = true := by simpa using c
       have hI := Lib.hid c
       clear c
       go_wp2_with fail
       try rw [Exit.noGoto_ret]
       go_ret
       exact ⟨_, rfl, G.out, Tells.no fun h => hL.out (HC.out.1 h).2.2.2.2.2⟩
      ·have eI : (x.item == 0) = false := by simpa using c
       have hI := Lib.hid c
       clear c
       go_wp2_with fail
       try rw [Exit.noGoto_ret]
       go_ret
       exact ⟨_, rfl, G.out, Tells.no fun h => hI.out (HC.out.1 h).2.1⟩
    ·have hA := Lib.hid (show ¬ x.always = false by simp [cA])
     rw [cA] at x5
     have hcA := Lib.hid cA
     clear cA
     by_cases c : x.item = 0
     ·have eI : (x.item == 0) = true := by simpa using c
      have hI := Lib.hid c
      clear c
      go_wp2_with fail
      try rw [Exit.noGoto_ret]
      go_ret
      exact ⟨_, rfl, G.out, Tells.no fun h => hA.out (HC.out.1 h).2.2.2.2.1⟩
     ·have eI : (x.item == 0) = false := by simpa using c
      have hI := Lib.hid c
      clear c
      go_wp2_with fail
      try rw [Exit.noGoto_ret]
      go_ret
      exact ⟨_, rfl, G.out, Tells.no fun h => hI.out (HC.out.1 h).2.1⟩
   ·have eB : (x.bye == 0) = false := by simpa using c
    have hB := Lib.hid c
    clear c
    by_cases c : x.item = 0
    ·have eI : (x.item == 0) = true := by simpa using c
     have hI := Lib.hid c
     clear c
     go_wp2_with fail
     try rw [Exit.noGoto_ret]
     go_ret
     exact ⟨_, rfl, G.out, Tells.no fun h => hB.out (HC.out.1 h).2.2.2.1⟩
    ·have eI : (x.item == 0) = false := by simpa using c
     have hI := Lib.hid c
     clear c
     go_wp2_with fail
     try rw [Exit.noGoto_ret]
     go_ret
     exact ⟨_, rfl, G.out, Tells.no fun h => hI.out (HC.out.1 h).2.1⟩
  ·have eO : (x.other == 0) = false := by simpa using c
   have hO := Lib.hid c
   clear c
   by_cases c : x.item = 0
   ·have eI : (x.item == 0) = true := by simpa using c
    have hI := Lib.hid c
    clear c
    go_wp2_with fail
    try rw [Exit.noGoto_ret]
    go_ret
    exact ⟨_, rfl, G.out, Tells.no fun h => hO.out (HC.out.1 h).2.2.1⟩
   ·have eI : (x.item == 0) = false := by simpa using c
    have hI := Lib.hid c
    clear c
    go_wp2_with fail
    try rw [Exit.noGoto_ret]
    go_ret
    exact ⟨_, rfl, G.out, Tells.no fun h => hI.out (HC.out.1 h).2.1⟩
set_option maxRecDepth 100000 in
set_option maxHeartbeats 3200000 in
theorem ref_Rule6 (w : World) (P : Ptrs) (M : Mdl) (x : RuleM) (hm : MdlAt w P M) (hx : RuleMs w x) (hb : x.ms.length ≤ 1000000) (hk : x.kind = 6) :
  Calls Tryz.prog 64 #[.agg (mcells P M), .agg (ruleV x)] w (Ret w fun r _ => Tells (RuleOK M x) r) := by
 have HC := Lib.hid (show RuleOK M x ↔ Ex x.item M.items.length ∧ Within x.n 0 16 ∧ x.other = 0 ∧ x.bye = 0 ∧ x.always = false ∧ x.ms = [] from rule_6 hk)
 have ek0 : (x.kind == 0) = false := by rw [hk]; decide
 have ek1 : (x.kind == 1) = false := by rw [hk]; decide
 have ek2 : (x.kind == 2) = false := by rw [hk]; decide
 have ek3 : (x.kind == 3) = false := by rw [hk]; decide
 have ek4 : (x.kind == 4) = false := by rw [hk]; decide
 have ek5 : (x.kind == 5) = false := by rw [hk]; decide
 have ek6 : (x.kind == 6) = true := by rw [hk]; decide
 clear hk
 have HM := Lib.hid hm
 have HX := Lib.hid hx
 have B0 := Cells.new w (mcells P M) 29
 have B := Cells.new (w.alloc (.cells (mcells P M) 29)) #[.int .i64 x.kind, .int .i64 x.item, .int .i64 x.other, .int .i64 x.n, .int .i64 x.bye, .bool x.always, .slice x.msP x.ms.length x.msC] 63
 rw [World.size_alloc] at B
 clear hm hx
 have m0 := mc0 B0.2 _ B.1
 have m1 := mc1 B0.2 _ B.1
 have m2 := mc2 B0.2 _ B.1
 have m3 := mc3 B0.2 _ B.1
 have m4 := mc4 B0.2 _ B.1
 have m5 := mc5 B0.2 _ B.1
 have m6 := mc6 B0.2 _ B.1
 have m7 := mc7 B0.2 _ B.1
 have m8 := mc8 B0.2 _ B.1
 have m9 := mc9 B0.2 _ B.1
 have m10 := mc10 B0.2 _ B.1
 have x0 : World.cell? _ ⟨_, 0, none⟩ = some (.int .i64 x.kind) := (B.2).at 0 rfl
 have x1 : World.cell? _ ⟨_, 1, none⟩ = some (.int .i64 x.item) := (B.2).at 1 rfl
 have x2 : World.cell? _ ⟨_, 2, none⟩ = some (.int .i64 x.other) := (B.2).at 2 rfl
 have x3 : World.cell? _ ⟨_, 3, none⟩ = some (.int .i64 x.n) := (B.2).at 3 rfl
 have x4 : World.cell? _ ⟨_, 4, none⟩ = some (.int .i64 x.bye) := (B.2).at 4 rfl
 have x5 : World.cell? _ ⟨_, 5, none⟩ = some (.bool x.always) := (B.2).at 5 rfl
 have x6 : World.cell? _ ⟨_, 6, none⟩ = some (.slice x.msP x.ms.length x.msC) := (B.2).at 6 rfl
 have H0 := Lib.hid (B0.1.trans B.1)
 have H1 := Lib.hid (B0.2.grow B.1)
 have H2 := Lib.hid B.2
 clear B0 B
 unfold ruleV
 unfold mcells at H0 H1 H2 m0 m1 m2 m3 m4 m5 m6 m7 m8 m9 m10 x0 x1 x2 x3 x4 x5 x6 ⊢
 go_enter Tryz.func64, Tryz.ntmps64
 go_wp2_with fail
 clear m0 m1 m2 m3 m4 m5 m6 m7 m8 m9 m10 x0 x1 x2 x3 x4 x5 x6
 generalize w.heap.size + 1 = bx at H2 ⊢
 generalize w.heap.size = bm at H1 ⊢
 generalize (w.alloc _).alloc _ = W at H0 H1 H2 ⊢
 have TM := Lib.hid (show Cells W bm (mcells P M) from H1.out)
 have TX := Lib.hid H2.out
 have G := Lib.hid H0.out
 have HM := Lib.hid (HM.out.grow G.out)
 have HX := Lib.hid (SlL.grow HX.out G.out)
 clear H0 H1 H2
 have m0 := mc0 TM.out _ (Gr.refl _)
 have m1 := mc1 TM.out _ (Gr.refl _)
 have m2 := mc2 TM.out _ (Gr.refl _)
 have m3 := mc3 TM.out _ (Gr.refl _)
 have m4 := mc4 TM.out _ (Gr.refl _)
 have m5 := mc5 TM.out _ (Gr.refl _)
 have m6 := mc6 TM.out _ (Gr.refl _)
 have m7 := mc7 TM.out _ (Gr.refl _)
 have m8 := mc8 TM.out _ (Gr.refl _)
 have m9 := mc9 TM.out _ (Gr.refl _)
 have m10 := mc10 TM.out _ (Gr.refl _)
 have x0 : World.cell? W ⟨_, 0, none⟩ = some (.int .i64 x.kind) := (TX.out).at 0 rfl
 have x1 : World.cell? W ⟨_, 1, none⟩ = some (.int .i64 x.item) := (TX.out).at 1 rfl
 have x2 : World.cell? W ⟨_, 2, none⟩ = some (.int .i64 x.other) := (TX.out).at 2 rfl
 have x3 : World.cell? W ⟨_, 3, none⟩ = some (.int .i64 x.n) := (TX.out).at 3 rfl
 have x4 : World.cell? W ⟨_, 4, none⟩ = some (.int .i64 x.bye) := (TX.out).at 4 rfl
 have x5 : World.cell? W ⟨_, 5, none⟩ = some (.bool x.always) := (TX.out).at 5 rfl
 have x6 : World.cell? W ⟨_, 6, none⟩ = some (.slice x.msP x.ms.length x.msC) := (TX.out).at 6 rfl
 refine (ref_Exists _ _ _).mono ?_
 rintro _ w1 ⟨⟨v1, rfl, z1⟩, rfl⟩
 rcases z1.cases with ⟨rfl, k1⟩ | ⟨rfl, k1⟩ <;> have hE := Lib.hid k1 <;> clear k1 z1
 ·skip
  by_cases c : x.other = 0
  ·have eO : (x.other == 0) = true := by simpa using c
   have hO := Lib.hid c
   clear c
   by_cases c : x.bye = 0
   ·have eB : (x.bye == 0) = true := by simpa using c
    have hB := Lib.hid c
    clear c
    cases cA : x.always
    ·have hA := Lib.hid (show x.always = false by simp [cA])
     rw [cA] at x5
     have hcA := Lib.hid cA
     clear cA
     by_cases c : x.ms = []
     ·have eL : ((x.ms.length : Int) == 0) = true := by simp [c]
      have hL := Lib.hid c
      clear c
      go_wp2_with fail
      refine (ref_within _ _ _ _).mono ?_
      rintro _ w1 ⟨⟨v1, rfl, z1⟩, rfl⟩
      rcases z1.cases with ⟨rfl, k1⟩ | ⟨rfl, k1⟩ <;> have hW16 := Lib.hid k1 <;> clear k1 z1
      ·skip
       go_wp2_with fail
       try rw [Exit.noGoto_ret]
       go_ret
       exact ⟨_, rfl, G.out, Tells.yes (HC.out.2 ⟨hE.out, hW16.out, hO.out, hB.out, hA.out, hL.out⟩)⟩
      ·skip
       go_wp2_with fail
       try rw [Exit.noGoto_ret]
       go_ret
       exact ⟨_, rfl, G.out, Tells.no fun h => hW16.out (HC.out.1 h).2.1⟩
     ·have eL : ((x.ms.length : Int) == 0) = false := by simpa using c
      have hL := Lib.hid c
      clear c
      go_wp2_with fail
      try rw [Exit.noGoto_ret]
      go_ret
      exact ⟨_, rfl, G.out, Tells.no fun h => hL.out (HC.out.1 h).2.2.2.2.2⟩
    ·have hA := Lib.hid (show ¬ x.always = false by simp [cA])
     rw [cA] at x5
     have hcA := Lib.hid cA
     clear cA
     go_wp2_with fail
     try rw [Exit.noGoto_ret]
     go_ret
     exact ⟨_, rfl, G.out, Tells.no fun h => hA.out (HC.out.1 h).2.2.2.2.1⟩
   ·have eB : (x.bye == 0) = false := by simpa using c
    have hB := Lib.hid c
    clear c
    go_wp2_with fail
    try rw [Exit.noGoto_ret]
    go_ret
    exact ⟨_, rfl, G.out, Tells.no fun h => hB.out (HC.out.1 h).2.2.2.1⟩
  ·have eO : (x.other == 0) = false := by simpa using c
   have hO := Lib.hid c
   clear c
   go_wp2_with fail
   try rw [Exit.noGoto_ret]
   go_ret
   exact ⟨_, rfl, G.out, Tells.no fun h => hO.out (HC.out.1 h).2.2.1⟩
 ·skip
  by_cases c : x.other = 0
  ·have eO : (x.other == 0) = true := by simpa using c
   have hO := Lib.hid c
   clear c
   by_cases c : x.bye = 0
   ·have eB : (x.bye == 0) = true := by simpa using c
    have hB := Lib.hid c
    clear c
    cases cA : x.always
    ·have hA := Lib.hid (show x.always = false by simp [cA])
     rw [cA] at x5
     have hcA := Lib.hid cA
     clear cA
     by_cases c : x.ms = []
     ·have eL : ((x.ms.length : Int) == 0) = true := by simp [c]
      have hL := Lib.hid c
      clear c
      go_wp2_with fail
      try rw [Exit.noGoto_ret]
      go_ret
      exact ⟨_, rfl, G.out, Tells.no fun h => hE.out (HC.out.1 h).1⟩
     ·have eL : ((x.ms.length : Int) == 0) = false := by simpa using c
      have hL := Lib.hid c
      clear c
      go_wp2_with fail
      try rw [Exit.noGoto_ret]
      go_ret
      exact ⟨_, rfl, G.out, Tells.no fun h => hE.out (HC.out.1 h).1⟩
    ·have hA := Lib.hid (show ¬ x.always = false by simp [cA])
     rw [cA] at x5
     have hcA := Lib.hid cA
     clear cA
     go_wp2_with fail
     try rw [Exit.noGoto_ret]
     go_ret
     exact ⟨_, rfl, G.out, Tells.no fun h => hE.out (HC.out.1 h).1⟩
   ·have eB : (x.bye == 0) = false := by simpa using c
    have hB := Lib.hid c
    clear c
    go_wp2_with fail
    try rw [Exit.noGoto_ret]
    go_ret
    exact ⟨_, rfl, G.out, Tells.no fun h => hE.out (HC.out.1 h).1⟩
  ·have eO : (x.other == 0) = false := by simpa using c
   have hO := Lib.hid c
   clear c
   go_wp2_with fail
   try rw [Exit.noGoto_ret]
   go_ret
   exact ⟨_, rfl, G.out, Tells.no fun h => hE.out (HC.out.1 h).1⟩
set_option maxRecDepth 100000 in
set_option maxHeartbeats 3200000 in
theorem ref_Rule7 (w : World) (P : Ptrs) (M : Mdl) (x : RuleM) (hm : MdlAt w P M) (hx : RuleMs w x) (hb : x.ms.length ≤ 1000000) (hk : ¬ x.kind = 0 ∧ ¬ x.kind = 1 ∧ ¬ x.kind = 2 ∧ ¬ x.kind = 3 ∧ ¬ x.kind = 4 ∧ ¬ x.kind = 5 ∧ ¬ x.kind = 6) :
  Calls Tryz.prog 64 #[.agg (mcells P M), .agg (ruleV x)] w (Ret w fun r _ => Tells (RuleOK M x) r) := by
 have HC := Lib.hid (show ¬ RuleOK M x from rule_7 hk)
 obtain ⟨hk0, hk1, hk2, hk3, hk4, hk5, hk6⟩ := hk
 have ek0 : (x.kind == 0) = false := by simpa using hk0
 have ek1 : (x.kind == 1) = false := by simpa using hk1
 have ek2 : (x.kind == 2) = false := by simpa using hk2
 have ek3 : (x.kind == 3) = false := by simpa using hk3
 have ek4 : (x.kind == 4) = false := by simpa using hk4
 have ek5 : (x.kind == 5) = false := by simpa using hk5
 have ek6 : (x.kind == 6) = false := by simpa using hk6
 clear hk0 hk1 hk2 hk3 hk4 hk5 hk6
 have HM := Lib.hid hm
 have HX := Lib.hid hx
 have B0 := Cells.new w (mcells P M) 29
 have B := Cells.new (w.alloc (.cells (mcells P M) 29)) #[.int .i64 x.kind, .int .i64 x.item, .int .i64 x.other, .int .i64 x.n, .int .i64 x.bye, .bool x.always, .slice x.msP x.ms.length x.msC] 63
 rw [World.size_alloc] at B
 clear hm hx
 have m0 := mc0 B0.2 _ B.1
 have m1 := mc1 B0.2 _ B.1
 have m2 := mc2 B0.2 _ B.1
 have m3 := mc3 B0.2 _ B.1
 have m4 := mc4 B0.2 _ B.1
 have m5 := mc5 B0.2 _ B.1
 have m6 := mc6 B0.2 _ B.1
 have m7 := mc7 B0.2 _ B.1
 have m8 := mc8 B0.2 _ B.1
 have m9 := mc9 B0.2 _ B.1
 have m10 := mc10 B0.2 _ B.1
 have x0 : World.cell? _ ⟨_, 0, none⟩ = some (.int .i64 x.kind) := (B.2).at 0 rfl
 have x1 : World.cell? _ ⟨_, 1, none⟩ = some (.int .i64 x.item) := (B.2).at 1 rfl
 have x2 : World.cell? _ ⟨_, 2, none⟩ = some (.int .i64 x.other) := (B.2).at 2 rfl
 have x3 : World.cell? _ ⟨_, 3, none⟩ = some (.int .i64 x.n) := (B.2).at 3 rfl
 have x4 : World.cell? _ ⟨_, 4, none⟩ = some (.int .i64 x.bye) := (B.2).at 4 rfl
 have x5 : World.cell? _ ⟨_, 5, none⟩ = some (.bool x.always) := (B.2).at 5 rfl
 have x6 : World.cell? _ ⟨_, 6, none⟩ = some (.slice x.msP x.ms.length x.msC) := (B.2).at 6 rfl
 have H0 := Lib.hid (B0.1.trans B.1)
 have H1 := Lib.hid (B0.2.grow B.1)
 have H2 := Lib.hid B.2
 clear B0 B
 unfold ruleV
 unfold mcells at H0 H1 H2 m0 m1 m2 m3 m4 m5 m6 m7 m8 m9 m10 x0 x1 x2 x3 x4 x5 x6 ⊢
 go_enter Tryz.func64, Tryz.ntmps64
 go_wp2_with fail
 clear m0 m1 m2 m3 m4 m5 m6 m7 m8 m9 m10 x0 x1 x2 x3 x4 x5 x6
 generalize w.heap.size + 1 = bx at H2 ⊢
 generalize w.heap.size = bm at H1 ⊢
 generalize (w.alloc _).alloc _ = W at H0 H1 H2 ⊢
 have TM := Lib.hid (show Cells W bm (mcells P M) from H1.out)
 have TX := Lib.hid H2.out
 have G := Lib.hid H0.out
 have HM := Lib.hid (HM.out.grow G.out)
 have HX := Lib.hid (SlL.grow HX.out G.out)
 clear H0 H1 H2
 have m0 := mc0 TM.out _ (Gr.refl _)
 have m1 := mc1 TM.out _ (Gr.refl _)
 have m2 := mc2 TM.out _ (Gr.refl _)
 have m3 := mc3 TM.out _ (Gr.refl _)
 have m4 := mc4 TM.out _ (Gr.refl _)
 have m5 := mc5 TM.out _ (Gr.refl _)
 have m6 := mc6 TM.out _ (Gr.refl _)
 have m7 := mc7 TM.out _ (Gr.refl _)
 have m8 := mc8 TM.out _ (Gr.refl _)
 have m9 := mc9 TM.out _ (Gr.refl _)
 have m10 := mc10 TM.out _ (Gr.refl _)
 have x0 : World.cell? W ⟨_, 0, none⟩ = some (.int .i64 x.kind) := (TX.out).at 0 rfl
 have x1 : World.cell? W ⟨_, 1, none⟩ = some (.int .i64 x.item) := (TX.out).at 1 rfl
 have x2 : World.cell? W ⟨_, 2, none⟩ = some (.int .i64 x.other) := (TX.out).at 2 rfl
 have x3 : World.cell? W ⟨_, 3, none⟩ = some (.int .i64 x.n) := (TX.out).at 3 rfl
 have x4 : World.cell? W ⟨_, 4, none⟩ = some (.int .i64 x.bye) := (TX.out).at 4 rfl
 have x5 : World.cell? W ⟨_, 5, none⟩ = some (.bool x.always) := (TX.out).at 5 rfl
 have x6 : World.cell? W ⟨_, 6, none⟩ = some (.slice x.msP x.ms.length x.msC) := (TX.out).at 6 rfl
 refine (ref_Exists _ _ _).mono ?_
 rintro _ w1 ⟨⟨v1, rfl, z1⟩, rfl⟩
 rcases z1.cases with ⟨rfl, k1⟩ | ⟨rfl, k1⟩ <;> have hE := Lib.hid k1 <;> clear k1 z1
 ·skip
  by_cases c : x.other = 0
  ·have eO : (x.other == 0) = true := by simpa using c
   have hO := Lib.hid c
   clear c
   by_cases c : x.bye = 0
   ·have eB : (x.bye == 0) = true := by simpa using c
    have hB := Lib.hid c
    clear c
    cases cA : x.always
    ·have hA := Lib.hid (show x.always = false by simp [cA])
     rw [cA] at x5
     have hcA := Lib.hid cA
     clear cA
     by_cases c : x.ms = []
     ·have eL : ((x.ms.length : Int) == 0) = true := by simp [c]
      have hL := Lib.hid c
      clear c
      go_wp2_with fail
      try rw [Exit.noGoto_ret]
      go_ret
      exact ⟨_, rfl, G.out, Tells.no fun h => HC.out h⟩
     ·have eL : ((x.ms.length : Int) == 0) = false := by simpa using c
      have hL := Lib.hid c
      clear c
      go_wp2_with fail
      try rw [Exit.noGoto_ret]
      go_ret
      exact ⟨_, rfl, G.out, Tells.no fun h => HC.out h⟩
    ·have hA := Lib.hid (show ¬ x.always = false by simp [cA])
     rw [cA] at x5
     have hcA := Lib.hid cA
     clear cA
     go_wp2_with fail
     try rw [Exit.noGoto_ret]
     go_ret
     exact ⟨_, rfl, G.out, Tells.no fun h => HC.out h⟩
   ·have eB : (x.bye == 0) = false := by simpa using c
    have hB := Lib.hid c
    clear c
    go_wp2_with fail
    try rw [Exit.noGoto_ret]
    go_ret
    exact ⟨_, rfl, G.out, Tells.no fun h => HC.out h⟩
  ·have eO : (x.other == 0) = false := by simpa using c
   have hO := Lib.hid c
   clear c
   go_wp2_with fail
   try rw [Exit.noGoto_ret]
   go_ret
   exact ⟨_, rfl, G.out, Tells.no fun h => HC.out h⟩
 ·skip
  by_cases c : x.other = 0
  ·have eO : (x.other == 0) = true := by simpa using c
   have hO := Lib.hid c
   clear c
   by_cases c : x.bye = 0
   ·have eB : (x.bye == 0) = true := by simpa using c
    have hB := Lib.hid c
    clear c
    cases cA : x.always
    ·have hA := Lib.hid (show x.always = false by simp [cA])
     rw [cA] at x5
     have hcA := Lib.hid cA
     clear cA
     by_cases c : x.ms = []
     ·have eL : ((x.ms.length : Int) == 0) = true := by simp [c]
      have hL := Lib.hid c
      clear c
      go_wp2_with fail
      try rw [Exit.noGoto_ret]
      go_ret
      exact ⟨_, rfl, G.out, Tells.no fun h => HC.out h⟩
     ·have eL : ((x.ms.length : Int) == 0) = false := by simpa using c
      have hL := Lib.hid c
      clear c
      go_wp2_with fail
      try rw [Exit.noGoto_ret]
      go_ret
      exact ⟨_, rfl, G.out, Tells.no fun h => HC.out h⟩
    ·have hA := Lib.hid (show ¬ x.always = false by simp [cA])
     rw [cA] at x5
     have hcA := Lib.hid cA
     clear cA
     go_wp2_with fail
     try rw [Exit.noGoto_ret]
     go_ret
     exact ⟨_, rfl, G.out, Tells.no fun h => HC.out h⟩
   ·have eB : (x.bye == 0) = false := by simpa using c
    have hB := Lib.hid c
    clear c
    go_wp2_with fail
    try rw [Exit.noGoto_ret]
    go_ret
    exact ⟨_, rfl, G.out, Tells.no fun h => HC.out h⟩
  ·have eO : (x.other == 0) = false := by simpa using c
   have hO := Lib.hid c
   clear c
   go_wp2_with fail
   try rw [Exit.noGoto_ret]
   go_ret
   exact ⟨_, rfl, G.out, Tells.no fun h => HC.out h⟩
theorem ref_Rule (w : World) (P : Ptrs) (M : Mdl) (x : RuleM) (hm : MdlAt w P M) (hx : RuleMs w x) (hb : x.ms.length ≤ 1000000) :
  Calls Tryz.prog 64 #[.agg (mcells P M), .agg (ruleV x)] w (Ret w fun r _ => Tells (RuleOK M x) r) := by
 by_cases k0 : x.kind = 0
 ·exact ref_Rule0 w P M x hm hx hb k0
 by_cases k1 : x.kind = 1
 ·exact ref_Rule1 w P M x hm hx hb k1
 by_cases k2 : x.kind = 2
 ·exact ref_Rule2 w P M x hm hx hb k2
 by_cases k3 : x.kind = 3
 ·exact ref_Rule3 w P M x hm hx hb k3
 by_cases k4 : x.kind = 4
 ·exact ref_Rule4 w P M x hm hx hb k4
 by_cases k5 : x.kind = 5
 ·exact ref_Rule5 w P M x hm hx hb k5
 by_cases k6 : x.kind = 6
 ·exact ref_Rule6 w P M x hm hx hb k6
 exact ref_Rule7 w P M x hm hx hb ⟨k0, k1, k2, k3, k4, k5, k6⟩
end Go.Proofs.YtnlocdijdfclcaaGreatDoor

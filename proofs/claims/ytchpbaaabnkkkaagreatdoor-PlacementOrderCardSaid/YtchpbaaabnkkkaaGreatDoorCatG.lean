/-
 exodusref15.Rule, further kinds (printed by rulegen.py).
-/
import Derived.Test.YtchpbaaabnkkkaaGreatDoorCatF
namespace Go.Proofs.YtchpbaaabnkkkaaGreatDoor
open Go.RowKit Go.Lib Lex
set_option linter.unusedVariables false
set_option linter.unusedSimpArgs false

set_option maxRecDepth 100000 in
set_option maxHeartbeats 3200000 in
theorem ref_Rule1 (w : World) (P : Ptrs) (M : Mdl) (x : RuleM) (hm : MdlAt w P M) (hx : RuleMs w x) (hb : x.ms.length ≤ 1000000) (hk : x.kind = 1) :
  Calls Tryz.prog 55 #[.agg (mcells P M), .agg (ruleV x)] w (Ret w fun r _ => Tells (RuleOK M x) r) := by
 have HC := Lib.hid (show RuleOK M x ↔ Ex x.item M.items.length ∧ Within x.n 0 16 ∧ x.other = 0 ∧ x.bye = 0 ∧ x.ms = [] from rule_1 hk)
 have ek0 : (x.kind == 0) = false := by rw [hk]; decide
 have ek1 : (x.kind == 1) = true := by rw [hk]; decide
 clear hk
 have HM := Lib.hid hm
 have HX := Lib.hid hx
 have B0 := Cells.new w (mcells P M) 29
 have B := Cells.new (w.alloc (.cells (mcells P M) 29)) #[.int .i64 x.kind, .int .i64 x.item, .int .i64 x.other, .int .i64 x.n, .int .i64 x.bye, .bool x.always, .slice x.msP x.ms.length x.msC] 70
 rw [World.size_alloc] at B
 clear hm hx
 have m0 := mc0 B0.2 _ B.1
 have m1 := mc1 B0.2 _ B.1
 have m2 := mc2 B0.2 _ B.1
 have m3 := mc3 B0.2 _ B.1
 have m4 := mc4 B0.2 _ B.1
 have m5 := mc5 B0.2 _ B.1
 have m6 := mc6 B0.2 _ B.1
 have m7 := mc7 B0.2 _ B.1
 have m8 := mc8 B0.2 _ B.1
 have m9 := mc9 B0.2 _ B.1
 have m10 := mc10 B0.2 _ B.1
 have x0 : World.cell? _ ⟨_, 0, none⟩ = some (.int .i64 x.kind) := (B.2).at 0 rfl
 have x1 : World.cell? _ ⟨_, 1, none⟩ = some (.int .i64 x.item) := (B.2).at 1 rfl
 have x2 : World.cell? _ ⟨_, 2, none⟩ = some (.int .i64 x.other) := (B.2).at 2 rfl
 have x3 : World.cell? _ ⟨_, 3, none⟩ = some (.int .i64 x.n) := (B.2).at 3 rfl
 have x4 : World.cell? _ ⟨_, 4, none⟩ = some (.int .i64 x.bye) := (B.2).at 4 rfl
 have x5 : World.cell? _ ⟨_, 5, none⟩ = some (.bool x.always) := (B.2).at 5 rfl
 have x6 : World.cell? _ ⟨_, 6, none⟩ = some (.slice x.msP x.ms.length x.msC) := (B.2).at 6 rfl
 have H0 := Lib.hid (B0.1.trans B.1)
 have H1 := Lib.hid (B0.2.grow B.1)
 have H2 := Lib.hid B.2
 clear B0 B
 unfold ruleV
 unfold mcells at H0 H1 H2 m0 m1 m2 m3 m4 m5 m6 m7 m8 m9 m10 x0 x1 x2 x3 x4 x5 x6 ⊢
 go_enter Tryz.func55, Tryz.ntmps55
 go_wp2_with fail
 clear m0 m1 m2 m3 m4 m5 m6 m7 m8 m9 m10 x0 x1 x2 x3 x4 x5 x6
 generalize w.heap.size + 1 = bx at H2 ⊢
 generalize w.heap.size = bm at H1 ⊢
 generalize (w.alloc _).alloc _ = W at H0 H1 H2 ⊢
 have TM := Lib.hid (show Cells W bm (mcells P M) from H1.out)
 have TX := Lib.hid H2.out
 have G := Lib.hid H0.out
 have HM := Lib.hid (HM.out.grow G.out)
 have HX := Lib.hid (SlL.grow HX.out G.out)
 clear H0 H1 H2
 have m0 := mc0 TM.out _ (Gr.refl _)
 have m1 := mc1 TM.out _ (Gr.refl _)
 have m2 := mc2 TM.out _ (Gr.refl _)
 have m3 := mc3 TM.out _ (Gr.refl _)
 have m4 := mc4 TM.out _ (Gr.refl _)
 have m5 := mc5 TM.out _ (Gr.refl _)
 have m6 := mc6 TM.out _ (Gr.refl _)
 have m7 := mc7 TM.out _ (Gr.refl _)
 have m8 := mc8 TM.out _ (Gr.refl _)
 have m9 := mc9 TM.out _ (Gr.refl _)
 have m10 := mc10 TM.out _ (Gr.refl _)
 have x0 : World.cell? W ⟨_, 0, none⟩ = some (.int .i64 x.kind) := (TX.out).at 0 rfl
 have x1 : World.cell? W ⟨_, 1, none⟩ = some (.int .i64 x.item) := (TX.out).at 1 rfl
 have x2 : World.cell? W ⟨_, 2, none⟩ = some (.int .i64 x.other) := (TX.out).at 2 rfl
 have x3 : World.cell? W ⟨_, 3, none⟩ = some (.int .i64 x.n) := (TX.out).at 3 rfl
 have x4 : World.cell? W ⟨_, 4, none⟩ = some (.int .i64 x.bye) := (TX.out).at 4 rfl
 have x5 : World.cell? W ⟨_, 5, none⟩ = some (.bool x.always) := (TX.out).at 5 rfl
 have x6 : World.cell? W ⟨_, 6, none⟩ = some (.slice x.msP x.ms.length x.msC) := (TX.out).at 6 rfl
 refine (ref_Exists _ _ _).mono ?_
 rintro _ w1 ⟨⟨v1, rfl, z1⟩, rfl⟩
 rcases z1.cases with ⟨rfl, k1⟩ | ⟨rfl, k1⟩ <;> have hE := Lib.hid k1 <;> clear k1 z1
 ·skip
  by_cases c : x.other = 0
  ·have eO : (x.other == 0) = true := by simpa using c
   have hO := Lib.hid c
   clear c
   by_cases c : x.bye = 0
   ·have eB : (x.bye == 0) = true := by simpa using c
    have hB := Lib.hid c
    clear c
    cases cA : x.always
    ·have hA := Lib.hid (show x.always = false by simp [cA])
     rw [cA] at x5
     have hcA := Lib.hid cA
     clear cA
     by_cases c : x.ms = []
     ·have eL : ((x.ms.length : Int) == 0) = true := by simp [c]
      have hL := Lib.hid c
      clear c
      go_wp2_with fail
      refine (ref_within _ _ _ _).mono ?_
      rintro _ w1 ⟨⟨v1, rfl, z1⟩, rfl⟩
      rcases z1.cases with ⟨rfl, k1⟩ | ⟨rfl, k1⟩ <;> have hW16 := Lib.hid k1 <;> clear k1 z1
      ·skip
       go_wp2_with fail
       try rw [Exit.noGoto_ret]
       go_ret
       exact ⟨_, rfl, G.out, Tells.yes (HC.out.2 ⟨hE.out, hW16.out, hO.out, hB.out, hL.out⟩)⟩
      ·skip
       go_wp2_with fail
       try rw [Exit.noGoto_ret]
       go_ret
       exact ⟨_, rfl, G.out, Tells.no fun h => hW16.out (HC.out.1 h).2.1⟩
     ·have eL : ((x.ms.length : Int) == 0) = false := by simpa using c
      have hL := Lib.hid c
      clear c
      go_wp2_with fail
      try rw [Exit.noGoto_ret]
      go_ret
      exact ⟨_, rfl, G.out, Tells.no fun h => hL.out (HC.out.1 h).2.2.2.2⟩
    ·have hA := Lib.hid (show ¬ x.always = false by simp [cA])
     rw [cA] at x5
     have hcA := Lib.hid cA
     clear cA
     by_cases c : x.ms = []
     ·have eL : ((x.ms.length : Int) == 0) = true := by simp [c]
      have hL := Lib.hid c
      clear c
      go_wp2_with fail
      refine (ref_within _ _ _ _).mono ?_
      rintro _ w1 ⟨⟨v1, rfl, z1⟩, rfl⟩
      rcases z1.cases with ⟨rfl, k1⟩ | ⟨rfl, k1⟩ <;> have hW16 := Lib.hid k1 <;> clear k1 z1
      ·skip
       go_wp2_with fail
       try rw [Exit.noGoto_ret]
       go_ret
       exact ⟨_, rfl, G.out, Tells.yes (HC.out.2 ⟨hE.out, hW16.out, hO.out, hB.out, hL.out⟩)⟩
      ·skip
       go_wp2_with fail
       try rw [Exit.noGoto_ret]
       go_ret
       exact ⟨_, rfl, G.out, Tells.no fun h => hW16.out (HC.out.1 h).2.1⟩
     ·have eL : ((x.ms.length : Int) == 0) = false := by simpa using c
      have hL := Lib.hid c
      clear c
      go_wp2_with fail
      try rw [Exit.noGoto_ret]
      go_ret
      exact ⟨_, rfl, G.out, Tells.no fun h => hL.out (HC.out.1 h).2.2.2.2⟩
   ·have eB : (x.bye == 0) = false := by simpa using c
    have hB := Lib.hid c
    clear c
    go_wp2_with fail
    try rw [Exit.noGoto_ret]
    go_ret
    exact ⟨_, rfl, G.out, Tells.no fun h => hB.out (HC.out.1 h).2.2.2.1⟩
  ·have eO : (x.other == 0) = false := by simpa using c
   have hO := Lib.hid c
   clear c
   go_wp2_with fail
   try rw [Exit.noGoto_ret]
   go_ret
   exact ⟨_, rfl, G.out, Tells.no fun h => hO.out (HC.out.1 h).2.2.1⟩
 ·skip
  by_cases c : x.other = 0
  ·have eO : (x.other == 0) = true := by simpa using c
   have hO := Lib.hid c
   clear c
   by_cases c : x.bye = 0
   ·have eB : (x.bye == 0) = true := by simpa using c
    have hB := Lib.hid c
    clear c
    cases cA : x.always
    ·have hA := Lib.hid (show x.always = false by simp [cA])
     rw [cA] at x5
     have hcA := Lib.hid cA
     clear cA
     by_cases c : x.ms = []
     ·have eL : ((x.ms.length : Int) == 0) = true := by simp [c]
      have hL := Lib.hid c
      clear c
      go_wp2_with fail
      try rw [Exit.noGoto_ret]
      go_ret
      exact ⟨_, rfl, G.out, Tells.no fun h => hE.out (HC.out.1 h).1⟩
     ·have eL : ((x.ms.length : Int) == 0) = false := by simpa using c
      have hL := Lib.hid c
      clear c
      go_wp2_with fail
      try rw [Exit.noGoto_ret]
      go_ret
      exact ⟨_, rfl, G.out, Tells.no fun h => hE.out (HC.out.1 h).1⟩
    ·have hA := Lib.hid (show ¬ x.always = false by simp [cA])
     rw [cA] at x5
     have hcA := Lib.hid cA
     clear cA
     go_wp2_with fail
     try rw [Exit.noGoto_ret]
     go_ret
     exact ⟨_, rfl, G.out, Tells.no fun h => hE.out (HC.out.1 h).1⟩
   ·have eB : (x.bye == 0) = false := by simpa using c
    have hB := Lib.hid c
    clear c
    go_wp2_with fail
    try rw [Exit.noGoto_ret]
    go_ret
    exact ⟨_, rfl, G.out, Tells.no fun h => hE.out (HC.out.1 h).1⟩
  ·have eO : (x.other == 0) = false := by simpa using c
   have hO := Lib.hid c
   clear c
   go_wp2_with fail
   try rw [Exit.noGoto_ret]
   go_ret
   exact ⟨_, rfl, G.out, Tells.no fun h => hE.out (HC.out.1 h).1⟩
set_option maxRecDepth 100000 in
set_option maxHeartbeats 3200000 in
theorem ref_Rule2 (w : World) (P : Ptrs) (M : Mdl) (x : RuleM) (hm : MdlAt w P M) (hx : RuleMs w x) (hb : x.ms.length ≤ 1000000) (hk : x.kind = 2) :
  Calls Tryz.prog 55 #[.agg (mcells P M), .agg (ruleV x)] w (Ret w fun r _ => Tells (RuleOK M x) r) := by
 have HC := Lib.hid (show RuleOK M x ↔ Ex x.item M.items.length ∧ Within x.n 0 16 ∧ Within x.bye 2 4 ∧ x.other = 0 ∧ x.always = false ∧ x.ms = [] from rule_2 hk)
 have ek0 : (x.kind == 0) = false := by rw [hk]; decide
 have ek1 : (x.kind == 1) = false := by rw [hk]; decide
 have ek2 : (x.kind == 2) = true := by rw [hk]; decide
 clear hk
 have HM := Lib.hid hm
 have HX := Lib.hid hx
 have B0 := Cells.new w (mcells P M) 29
 have B := Cells.new (w.alloc (.cells (mcells P M) 29)) #[.int .i64 x.kind, .int .i64 x.item, .int .i64 x.other, .int .i64 x.n, .int .i64 x.bye, .bool x.always, .slice x.msP x.ms.length x.msC] 70
 rw [World.size_alloc] at B
 clear hm hx
 have m0 := mc0 B0.2 _ B.1
 have m1 := mc1 B0.2 _ B.1
 have m2 := mc2 B0.2 _ B.1
 have m3 := mc3 B0.2 _ B.1
 have m4 := mc4 B0.2 _ B.1
 have m5 := mc5 B0.2 _ B.1
 have m6 := mc6 B0.2 _ B.1
 have m7 := mc7 B0.2 _ B.1
 have m8 := mc8 B0.2 _ B.1
 have m9 := mc9 B0.2 _ B.1
 have m10 := mc10 B0.2 _ B.1
 have x0 : World.cell? _ ⟨_, 0, none⟩ = some (.int .i64 x.kind) := (B.2).at 0 rfl
 have x1 : World.cell? _ ⟨_, 1, none⟩ = some (.int .i64 x.item) := (B.2).at 1 rfl
 have x2 : World.cell? _ ⟨_, 2, none⟩ = some (.int .i64 x.other) := (B.2).at 2 rfl
 have x3 : World.cell? _ ⟨_, 3, none⟩ = some (.int .i64 x.n) := (B.2).at 3 rfl
 have x4 : World.cell? _ ⟨_, 4, none⟩ = some (.int .i64 x.bye) := (B.2).at 4 rfl
 have x5 : World.cell? _ ⟨_, 5, none⟩ = some (.bool x.always) := (B.2).at 5 rfl
 have x6 : World.cell? _ ⟨_, 6, none⟩ = some (.slice x.msP x.ms.length x.msC) := (B.2).at 6 rfl
 have H0 := Lib.hid (B0.1.trans B.1)
 have H1 := Lib.hid (B0.2.grow B.1)
 have H2 := Lib.hid B.2
 clear B0 B
 unfold ruleV
 unfold mcells at H0 H1 H2 m0 m1 m2 m3 m4 m5 m6 m7 m8 m9 m10 x0 x1 x2 x3 x4 x5 x6 ⊢
 go_enter Tryz.func55, Tryz.ntmps55
 go_wp2_with fail
 clear m0 m1 m2 m3 m4 m5 m6 m7 m8 m9 m10 x0 x1 x2 x3 x4 x5 x6
 generalize w.heap.size + 1 = bx at H2 ⊢
 generalize w.heap.size = bm at H1 ⊢
 generalize (w.alloc _).alloc _ = W at H0 H1 H2 ⊢
 have TM := Lib.hid (show Cells W bm (mcells P M) from H1.out)
 have TX := Lib.hid H2.out
 have G := Lib.hid H0.out
 have HM := Lib.hid (HM.out.grow G.out)
 have HX := Lib.hid (SlL.grow HX.out G.out)
 clear H0 H1 H2
 have m0 := mc0 TM.out _ (Gr.refl _)
 have m1 := mc1 TM.out _ (Gr.refl _)
 have m2 := mc2 TM.out _ (Gr.refl _)
 have m3 := mc3 TM.out _ (Gr.refl _)
 have m4 := mc4 TM.out _ (Gr.refl _)
 have m5 := mc5 TM.out _ (Gr.refl _)
 have m6 := mc6 TM.out _ (Gr.refl _)
 have m7 := mc7 TM.out _ (Gr.refl _)
 have m8 := mc8 TM.out _ (Gr.refl _)
 have m9 := mc9 TM.out _ (Gr.refl _)
 have m10 := mc10 TM.out _ (Gr.refl _)
 have x0 : World.cell? W ⟨_, 0, none⟩ = some (.int .i64 x.kind) := (TX.out).at 0 rfl
 have x1 : World.cell? W ⟨_, 1, none⟩ = some (.int .i64 x.item) := (TX.out).at 1 rfl
 have x2 : World.cell? W ⟨_, 2, none⟩ = some (.int .i64 x.other) := (TX.out).at 2 rfl
 have x3 : World.cell? W ⟨_, 3, none⟩ = some (.int .i64 x.n) := (TX.out).at 3 rfl
 have x4 : World.cell? W ⟨_, 4, none⟩ = some (.int .i64 x.bye) := (TX.out).at 4 rfl
 have x5 : World.cell? W ⟨_, 5, none⟩ = some (.bool x.always) := (TX.out).at 5 rfl
 have x6 : World.cell? W ⟨_, 6, none⟩ = some (.slice x.msP x.ms.length x.msC) := (TX.out).at 6 rfl
 refine (ref_Exists _ _ _).mono ?_
 rintro _ w1 ⟨⟨v1, rfl, z1⟩, rfl⟩
 rcases z1.cases with ⟨rfl, k1⟩ | ⟨rfl, k1⟩ <;> have hE := Lib.hid k1 <;> clear k1 z1
 ·skip
  by_cases c : x.other = 0
  ·have eO : (x.other == 0) = true := by simpa using c
   have hO := Lib.hid c
   clear c
   by_cases c : x.bye = 0
   ·have eB : (x.bye == 0) = true := by simpa using c
    have hB := Lib.hid c
    clear c
    cases cA : x.always
    ·have hA := Lib.hid (show x.always = false by simp [cA])
     rw [cA] at x5
     have hcA := Lib.hid cA
     clear cA
     by_cases c : x.ms = []
     ·have eL : ((x.ms.length : Int) == 0) = true := by simp [c]
      have hL := Lib.hid c
      clear c
      go_wp2_with fail
      refine (ref_within _ _ _ _).mono ?_
      rintro _ w1 ⟨⟨v1, rfl, z1⟩, rfl⟩
      rcases z1.cases with ⟨rfl, k1⟩ | ⟨rfl, k1⟩ <;> have hW24 := Lib.hid k1 <;> clear k1 z1
      ·skip
       exact (con_B_W24 hB.out hW24.out).elim
      ·skip
       go_wp2_with fail
       try rw [Exit.noGoto_ret]
       go_ret
       exact ⟨_, rfl, G.out, Tells.no fun h => hW24.out (HC.out.1 h).2.2.1⟩
     ·have eL : ((x.ms.length : Int) == 0) = false := by simpa using c
      have hL := Lib.hid c
      clear c
      go_wp2_with fail
      refine (ref_within _ _ _ _).mono ?_
      rintro _ w1 ⟨⟨v1, rfl, z1⟩, rfl⟩
      rcases z1.cases with ⟨rfl, k1⟩ | ⟨rfl, k1⟩ <;> have hW24 := Lib.hid k1 <;> clear k1 z1
      ·skip
       exact (con_B_W24 hB.out hW24.out).elim
      ·skip
       go_wp2_with fail
       try rw [Exit.noGoto_ret]
       go_ret
       exact ⟨_, rfl, G.out, Tells.no fun h => hW24.out (HC.out.1 h).2.2.1⟩
    ·have hA := Lib.hid (show ¬ x.always = false by simp [cA])
     rw [cA] at x5
     have hcA := Lib.hid cA
     clear cA
     go_wp2_with fail
     refine (ref_within _ _ _ _).mono ?_
     rintro _ w1 ⟨⟨v1, rfl, z1⟩, rfl⟩
     rcases z1.cases with ⟨rfl, k1⟩ | ⟨rfl, k1⟩ <;> have hW24 := Lib.hid k1 <;> clear k1 z1
     ·skip
      exact (con_B_W24 hB.out hW24.out).elim
     ·skip
      go_wp2_with fail
      try rw [Exit.noGoto_ret]
      go_ret
      exact ⟨_, rfl, G.out, Tells.no fun h => hW24.out (HC.out.1 h).2.2.1⟩
   ·have eB : (x.bye == 0) = false := by simpa using c
    have hB := Lib.hid c
    clear c
    go_wp2_with fail
    refine (ref_within _ _ _ _).mono ?_
    rintro _ w1 ⟨⟨v1, rfl, z1⟩, rfl⟩
    rcases z1.cases with ⟨rfl, k1⟩ | ⟨rfl, k1⟩ <;> have hW24 := Lib.hid k1 <;> clear k1 z1
    ·skip
     cases cA : x.always
     ·have hA := Lib.hid (show x.always = false by simp [cA])
      rw [cA] at x5
      have hcA := Lib.hid cA
      clear cA
      by_cases c : x.ms = []
      ·have eL : ((x.ms.length : Int) == 0) = true := by simp [c]
       have hL := Lib.hid c
       clear c
       go_wp2_with fail
       refine (ref_within _ _ _ _).mono ?_
       rintro _ w1 ⟨⟨v1, rfl, z1⟩, rfl⟩
       rcases z1.cases with ⟨rfl, k1⟩ | ⟨rfl, k1⟩ <;> have hW16 := Lib.hid k1 <;> clear k1 z1
       ·skip
        go_wp2_with fail
        try rw [Exit.noGoto_ret]
        go_ret
        exact ⟨_, rfl, G.out, Tells.yes (HC.out.2 ⟨hE.out, hW16.out, hW24.out, hO.out, hA.out, hL.out⟩)⟩
       ·skip
        go_wp2_with fail
        try rw [Exit.noGoto_ret]
        go_ret
        exact ⟨_, rfl, G.out, Tells.no fun h => hW16.out (HC.out.1 h).2.1⟩
      ·have eL : ((x.ms.length : Int) == 0) = false := by simpa using c
       have hL := Lib.hid c
       clear c
       go_wp2_with fail
       try rw [Exit.noGoto_ret]
       go_ret
       exact ⟨_, rfl, G.out, Tells.no fun h => hL.out (HC.out.1 h).2.2.2.2.2⟩
     ·have hA := Lib.hid (show ¬ x.always = false by simp [cA])
      rw [cA] at x5
      have hcA := Lib.hid cA
      clear cA
      go_wp2_with fail
      try rw [Exit.noGoto_ret]
      go_ret
      exact ⟨_, rfl, G.out, Tells.no fun h => hA.out (HC.out.1 h).2.2.2.2.1⟩
    ·skip
     go_wp2_with fail
     try rw [Exit.noGoto_ret]
     go_ret
     exact ⟨_, rfl, G.out, Tells.no fun h => hW24.out (HC.out.1 h).2.2.1⟩
  ·have eO : (x.other == 0) = false := by simpa using c
   have hO := Lib.hid c
   clear c
   go_wp2_with fail
   refine (ref_within _ _ _ _).mono ?_
   rintro _ w1 ⟨⟨v1, rfl, z1⟩, rfl⟩
   rcases z1.cases with ⟨rfl, k1⟩ | ⟨rfl, k1⟩ <;> have hW24 := Lib.hid k1 <;> clear k1 z1
   ·skip
    go_wp2_with fail
    try rw [Exit.noGoto_ret]
    go_ret
    exact ⟨_, rfl, G.out, Tells.no fun h => hO.out (HC.out.1 h).2.2.2.1⟩
   ·skip
    go_wp2_with fail
    try rw [Exit.noGoto_ret]
    go_ret
    exact ⟨_, rfl, G.out, Tells.no fun h => hW24.out (HC.out.1 h).2.2.1⟩
 ·skip
  by_cases c : x.other = 0
  ·have eO : (x.other == 0) = true := by simpa using c
   have hO := Lib.hid c
   clear c
   by_cases c : x.bye = 0
   ·have eB : (x.bye == 0) = true := by simpa using c
    have hB := Lib.hid c
    clear c
    cases cA : x.always
    ·have hA := Lib.hid (show x.always = false by simp [cA])
     rw [cA] at x5
     have hcA := Lib.hid cA
     clear cA
     by_cases c : x.ms = []
     ·have eL : ((x.ms.length : Int) == 0) = true := by simp [c]
      have hL := Lib.hid c
      clear c
      go_wp2_with fail
      try rw [Exit.noGoto_ret]
      go_ret
      exact ⟨_, rfl, G.out, Tells.no fun h => hE.out (HC.out.1 h).1⟩
     ·have eL : ((x.ms.length : Int) == 0) = false := by simpa using c
      have hL := Lib.hid c
      clear c
      go_wp2_with fail
      try rw [Exit.noGoto_ret]
      go_ret
      exact ⟨_, rfl, G.out, Tells.no fun h => hE.out (HC.out.1 h).1⟩
    ·have hA := Lib.hid (show ¬ x.always = false by simp [cA])
     rw [cA] at x5
     have hcA := Lib.hid cA
     clear cA
     go_wp2_with fail
     try rw [Exit.noGoto_ret]
     go_ret
     exact ⟨_, rfl, G.out, Tells.no fun h => hE.out (HC.out.1 h).1⟩
   ·have eB : (x.bye == 0) = false := by simpa using c
    have hB := Lib.hid c
    clear c
    go_wp2_with fail
    try rw [Exit.noGoto_ret]
    go_ret
    exact ⟨_, rfl, G.out, Tells.no fun h => hE.out (HC.out.1 h).1⟩
  ·have eO : (x.other == 0) = false := by simpa using c
   have hO := Lib.hid c
   clear c
   go_wp2_with fail
   try rw [Exit.noGoto_ret]
   go_ret
   exact ⟨_, rfl, G.out, Tells.no fun h => hE.out (HC.out.1 h).1⟩
set_option maxRecDepth 100000 in
set_option maxHeartbeats 3200000 in
theorem ref_Rule3 (w : World) (P : Ptrs) (M : Mdl) (x : RuleM) (hm : MdlAt w P M) (hx : RuleMs w x) (hb : x.ms.length ≤ 1000000) (hk : x.kind = 3) :
  Calls Tryz.prog 55 #[.agg (mcells P M), .agg (ruleV x)] w (Ret w fun r _ => Tells (RuleOK M x) r) := by
 have HC := Lib.hid (show RuleOK M x ↔ Ex x.item M.items.length ∧ MsOK M x.ms ∧ x.other = 0 ∧ x.n = 0 ∧ x.bye = 0 ∧ x.always = false from rule_3 hk)
 have ek0 : (x.kind == 0) = false := by rw [hk]; decide
 have ek1 : (x.kind == 1) = false := by rw [hk]; decide
 have ek2 : (x.kind == 2) = false := by rw [hk]; decide
 have ek3 : (x.kind == 3) = true := by rw [hk]; decide
 clear hk
 have HM := Lib.hid hm
 have HX := Lib.hid hx
 have B0 := Cells.new w (mcells P M) 29
 have B := Cells.new (w.alloc (.cells (mcells P M) 29)) #[.int .i64 x.kind, .int .i64 x.item, .int .i64 x.other, .int .i64 x.n, .int .i64 x.bye, .bool x.always, .slice x.msP x.ms.length x.msC] 70
 rw [World.size_alloc] at B
 clear hm hx
 have m0 := mc0 B0.2 _ B.1
 have m1 := mc1 B0.2 _ B.1
 have m2 := mc2 B0.2 _ B.1
 have m3 := mc3 B0.2 _ B.1
 have m4 := mc4 B0.2 _ B.1
 have m5 := mc5 B0.2 _ B.1
 have m6 := mc6 B0.2 _ B.1
 have m7 := mc7 B0.2 _ B.1
 have m8 := mc8 B0.2 _ B.1
 have m9 := mc9 B0.2 _ B.1
 have m10 := mc10 B0.2 _ B.1
 have x0 : World.cell? _ ⟨_, 0, none⟩ = some (.int .i64 x.kind) := (B.2).at 0 rfl
 have x1 : World.cell? _ ⟨_, 1, none⟩ = some (.int .i64 x.item) := (B.2).at 1 rfl
 have x2 : World.cell? _ ⟨_, 2, none⟩ = some (.int .i64 x.other) := (B.2).at 2 rfl
 have x3 : World.cell? _ ⟨_, 3, none⟩ = some (.int .i64 x.n) := (B.2).at 3 rfl
 have x4 : World.cell? _ ⟨_, 4, none⟩ = some (.int .i64 x.bye) := (B.2).at 4 rfl
 have x5 : World.cell? _ ⟨_, 5, none⟩ = some (.bool x.always) := (B.2).at 5 rfl
 have x6 : World.cell? _ ⟨_, 6, none⟩ = some (.slice x.msP x.ms.length x.msC) := (B.2).at 6 rfl
 have H0 := Lib.hid (B0.1.trans B.1)
 have H1 := Lib.hid (B0.2.grow B.1)
 have H2 := Lib.hid B.2
 clear B0 B
 unfold ruleV
 unfold mcells at H0 H1 H2 m0 m1 m2 m3 m4 m5 m6 m7 m8 m9 m10 x0 x1 x2 x3 x4 x5 x6 ⊢
 go_enter Tryz.func55, Tryz.ntmps55
 go_wp2_with fail
 clear m0 m1 m2 m3 m4 m5 m6 m7 m8 m9 m10 x0 x1 x2 x3 x4 x5 x6
 generalize w.heap.size + 1 = bx at H2 ⊢
 generalize w.heap.size = bm at H1 ⊢
 generalize (w.alloc _).alloc _ = W at H0 H1 H2 ⊢
 have TM := Lib.hid (show Cells W bm (mcells P M) from H1.out)
 have TX := Lib.hid H2.out
 have G := Lib.hid H0.out
 have HM := Lib.hid (HM.out.grow G.out)
 have HX := Lib.hid (SlL.grow HX.out G.out)
 clear H0 H1 H2
 have m0 := mc0 TM.out _ (Gr.refl _)
 have m1 := mc1 TM.out _ (Gr.refl _)
 have m2 := mc2 TM.out _ (Gr.refl _)
 have m3 := mc3 TM.out _ (Gr.refl _)
 have m4 := mc4 TM.out _ (Gr.refl _)
 have m5 := mc5 TM.out _ (Gr.refl _)
 have m6 := mc6 TM.out _ (Gr.refl _)
 have m7 := mc7 TM.out _ (Gr.refl _)
 have m8 := mc8 TM.out _ (Gr.refl _)
 have m9 := mc9 TM.out _ (Gr.refl _)
 have m10 := mc10 TM.out _ (Gr.refl _)
 have x0 : World.cell? W ⟨_, 0, none⟩ = some (.int .i64 x.kind) := (TX.out).at 0 rfl
 have x1 : World.cell? W ⟨_, 1, none⟩ = some (.int .i64 x.item) := (TX.out).at 1 rfl
 have x2 : World.cell? W ⟨_, 2, none⟩ = some (.int .i64 x.other) := (TX.out).at 2 rfl
 have x3 : World.cell? W ⟨_, 3, none⟩ = some (.int .i64 x.n) := (TX.out).at 3 rfl
 have x4 : World.cell? W ⟨_, 4, none⟩ = some (.int .i64 x.bye) := (TX.out).at 4 rfl
 have x5 : World.cell? W ⟨_, 5, none⟩ = some (.bool x.always) := (TX.out).at 5 rfl
 have x6 : World.cell? W ⟨_, 6, none⟩ = some (.slice x.msP x.ms.length x.msC) := (TX.out).at 6 rfl
 refine (ref_Exists _ _ _).mono ?_
 rintro _ w1 ⟨⟨v1, rfl, z1⟩, rfl⟩
 rcases z1.cases with ⟨rfl, k1⟩ | ⟨rfl, k1⟩ <;> have hE := Lib.hid k1 <;> clear k1 z1
 ·skip
  by_cases c : x.other = 0
  ·have eO : (x.other == 0) = true := by simpa using c
   have hO := Lib.hid c
   clear c
   by_cases c : x.bye = 0
   ·have eB : (x.bye == 0) = true := by simpa using c
    have hB := Lib.hid c
    clear c
    cases cA : x.always
    ·have hA := Lib.hid (show x.always = false by simp [cA])
     rw [cA] at x5
     have hcA := Lib.hid cA
     clear cA
     by_cases c : x.ms = []
     ·have eL : ((x.ms.length : Int) == 0) = true := by simp [c]
      have hL := Lib.hid c
      clear c
      go_wp2_with fail
      clear m0 m1 m2 m3 m4 m5 m6 m7 m8 m9 m10 x0 x1 x2 x3 x4 x5 x6
      refine (ref_Machines _ P M x.msP x.msC x.ms HM.out HX.out hb).mono ?_
      rintro _ w1 ⟨v1, rfl, g1, z1⟩
      have TX := Lib.hid (TX.out.grow g1)
      have G := Lib.hid (G.out.trans g1)
      clear g1
      have x0 : World.cell? w1 ⟨_, 0, none⟩ = some (.int .i64 x.kind) := (TX.out).at 0 rfl
      have x1 : World.cell? w1 ⟨_, 1, none⟩ = some (.int .i64 x.item) := (TX.out).at 1 rfl
      have x2 : World.cell? w1 ⟨_, 2, none⟩ = some (.int .i64 x.other) := (TX.out).at 2 rfl
      have x3 : World.cell? w1 ⟨_, 3, none⟩ = some (.int .i64 x.n) := (TX.out).at 3 rfl
      have x4 : World.cell? w1 ⟨_, 4, none⟩ = some (.int .i64 x.bye) := (TX.out).at 4 rfl
      have x5 : World.cell? w1 ⟨_, 5, none⟩ = some (.bool x.always) := (TX.out).at 5 rfl
      have x6 : World.cell? w1 ⟨_, 6, none⟩ = some (.slice x.msP x.ms.length x.msC) := (TX.out).at 6 rfl
      rw [hcA.out] at x5
      rcases z1.cases with ⟨rfl, k1⟩ | ⟨rfl, k1⟩ <;> have hMS := Lib.hid k1 <;> clear k1 z1
      ·skip
       exact (con_L_MS hL.out hMS.out).elim
      ·skip
       go_wp2_with fail
       try rw [Exit.noGoto_ret]
       go_ret
       exact ⟨_, rfl, G.out, Tells.no fun h => hMS.out (HC.out.1 h).2.1⟩
     ·have eL : ((x.ms.length : Int) == 0) = false := by simpa using c
      have hL := Lib.hid c
      clear c
      go_wp2_with fail
      clear m0 m1 m2 m3 m4 m5 m6 m7 m8 m9 m10 x0 x1 x2 x3 x4 x5 x6
      refine (ref_Machines _ P M x.msP x.msC x.ms HM.out HX.out hb).mono ?_
      rintro _ w1 ⟨v1, rfl, g1, z1⟩
      have TX := Lib.hid (TX.out.grow g1)
      have G := Lib.hid (G.out.trans g1)
      clear g1
      have x0 : World.cell? w1 ⟨_, 0, none⟩ = some (.int .i64 x.kind) := (TX.out).at 0 rfl
      have x1 : World.cell? w1 ⟨_, 1, none⟩ = some (.int .i64 x.item) := (TX.out).at 1 rfl
      have x2 : World.cell? w1 ⟨_, 2, none⟩ = some (.int .i64 x.other) := (TX.out).at 2 rfl
      have x3 : World.cell? w1 ⟨_, 3, none⟩ = some (.int .i64 x.n) := (TX.out).at 3 rfl
      have x4 : World.cell? w1 ⟨_, 4, none⟩ = some (.int .i64 x.bye) := (TX.out).at 4 rfl
      have x5 : World.cell? w1 ⟨_, 5, none⟩ = some (.bool x.always) := (TX.out).at 5 rfl
      have x6 : World.cell? w1 ⟨_, 6, none⟩ = some (.slice x.msP x.ms.length x.msC) := (TX.out).at 6 rfl
      rw [hcA.out] at x5
      rcases z1.cases with ⟨rfl, k1⟩ | ⟨rfl, k1⟩ <;> have hMS := Lib.hid k1 <;> clear k1 z1
      ·skip
       by_cases c : x.n = 0
       ·have eN : (x.n == 0) = true := by simpa using c
        have hN := Lib.hid c
        clear c
        go_wp2_with fail
        try rw [Exit.noGoto_ret]
        go_ret
        exact ⟨_, rfl, G.out, Tells.yes (HC.out.2 ⟨hE.out, hMS.out, hO.out, hN.out, hB.out, hA.out⟩)⟩
       ·have eN : (x.n == 0) = false := by simpa using c
        have hN := Lib.hid c
        clear c
        go_wp2_with fail
        try rw [Exit.noGoto_ret]
        go_ret
        exact ⟨_, rfl, G.out, Tells.no fun h => hN.out (HC.out.1 h).2.2.2.1⟩
      ·skip
       go_wp2_with fail
       try rw [Exit.noGoto_ret]
       go_ret
       exact ⟨_, rfl, G.out, Tells.no fun h => hMS.out (HC.out.1 h).2.1⟩
    ·have hA := Lib.hid (show ¬ x.always = false by simp [cA])
     rw [cA] at x5
     have hcA := Lib.hid cA
     clear cA
     go_wp2_with fail
     clear m0 m1 m2 m3 m4 m5 m6 m7 m8 m9 m10 x0 x1 x2 x3 x4 x5 x6
     refine (ref_Machines _ P M x.msP x.msC x.ms HM.out HX.out hb).mono ?_
     rintro _ w1 ⟨v1, rfl, g1, z1⟩
     have TX := Lib.hid (TX.out.grow g1)
     have G := Lib.hid (G.out.trans g1)
     clear g1
     have x0 : World.cell? w1 ⟨_, 0, none⟩ = some (.int .i64 x.kind) := (TX.out).at 0 rfl
     have x1 : World.cell? w1 ⟨_, 1, none⟩ = some (.int .i64 x.item) := (TX.out).at 1 rfl
     have x2 : World.cell? w1 ⟨_, 2, none⟩ = some (.int .i64 x.other) := (TX.out).at 2 rfl
     have x3 : World.cell? w1 ⟨_, 3, none⟩ = some (.int .i64 x.n) := (TX.out).at 3 rfl
     have x4 : World.cell? w1 ⟨_, 4, none⟩ = some (.int .i64 x.bye) := (TX.out).at 4 rfl
     have x5 : World.cell? w1 ⟨_, 5, none⟩ = some (.bool x.always) := (TX.out).at 5 rfl
     have x6 : World.cell? w1 ⟨_, 6, none⟩ = some (.slice x.msP x.ms.length x.msC) := (TX.out).at 6 rfl
     rw [hcA.out] at x5
     rcases z1.cases with ⟨rfl, k1⟩ | ⟨rfl, k1⟩ <;> have hMS := Lib.hid k1 <;> clear k1 z1
     ·skip
      go_wp2_with fail
      try rw [Exit.noGoto_ret]
      go_ret
      exact ⟨_, rfl, G.out, Tells.no fun h => hA.out (HC.out.1 h).2.2.2.2.2⟩
     ·skip
      go_wp2_with fail
      try rw [Exit.noGoto_ret]
      go_ret
      exact ⟨_, rfl, G.out, Tells.no fun h => hMS.out (HC.out.1 h).2.1⟩
   ·have eB : (x.bye == 0) = false := by simpa using c
    have hB := Lib.hid c
    clear c
    go_wp2_with fail
    clear m0 m1 m2 m3 m4 m5 m6 m7 m8 m9 m10 x0 x1 x2 x3 x4 x5 x6
    refine (ref_Machines _ P M x.msP x.msC x.ms HM.out HX.out hb).mono ?_
    rintro _ w1 ⟨v1, rfl, g1, z1⟩
    have TX := Lib.hid (TX.out.grow g1)
    have G := Lib.hid (G.out.trans g1)
    clear g1
    have x0 : World.cell? w1 ⟨_, 0, none⟩ = some (.int .i64 x.kind) := (TX.out).at 0 rfl
    have x1 : World.cell? w1 ⟨_, 1, none⟩ = some (.int .i64 x.item) := (TX.out).at 1 rfl
    have x2 : World.cell? w1 ⟨_, 2, none⟩ = some (.int .i64 x.other) := (TX.out).at 2 rfl
    have x3 : World.cell? w1 ⟨_, 3, none⟩ = some (.int .i64 x.n) := (TX.out).at 3 rfl
    have x4 : World.cell? w1 ⟨_, 4, none⟩ = some (.int .i64 x.bye) := (TX.out).at 4 rfl
    have x5 : World.cell? w1 ⟨_, 5, none⟩ = some (.bool x.always) := (TX.out).at 5 rfl
    have x6 : World.cell? w1 ⟨_, 6, none⟩ = some (.slice x.msP x.ms.length x.msC) := (TX.out).at 6 rfl
    rcases z1.cases with ⟨rfl, k1⟩ | ⟨rfl, k1⟩ <;> have hMS := Lib.hid k1 <;> clear k1 z1
    ·skip
     go_wp2_with fail
     try rw [Exit.noGoto_ret]
     go_ret
     exact ⟨_, rfl, G.out, Tells.no fun h => hB.out (HC.out.1 h).2.2.2.2.1⟩
    ·skip
     go_wp2_with fail
     try rw [Exit.noGoto_ret]
     go_ret
     exact ⟨_, rfl, G.out, Tells.no fun h => hMS.out (HC.out.1 h).2.1⟩
  ·have eO : (x.other == 0) = false := by simpa using c
   have hO := Lib.hid c
   clear c
   go_wp2_with fail
   clear m0 m1 m2 m3 m4 m5 m6 m7 m8 m9 m10 x0 x1 x2 x3 x4 x5 x6
   refine (ref_Machines _ P M x.msP x.msC x.ms HM.out HX.out hb).mono ?_
   rintro _ w1 ⟨v1, rfl, g1, z1⟩
   have TX := Lib.hid (TX.out.grow g1)
   have G := Lib.hid (G.out.trans g1)
   clear g1
   have x0 : World.cell? w1 ⟨_, 0, none⟩ = some (.int .i64 x.kind) := (TX.out).at 0 rfl
   have x1 : World.cell? w1 ⟨_, 1, none⟩ = some (.int .i64 x.item) := (TX.out).at 1 rfl
   have x2 : World.cell? w1 ⟨_, 2, none⟩ = some (.int .i64 x.other) := (TX.out).at 2 rfl
   have x3 : World.cell? w1 ⟨_, 3, none⟩ = some (.int .i64 x.n) := (TX.out).at 3 rfl
   have x4 : World.cell? w1 ⟨_, 4, none⟩ = some (.int .i64 x.bye) := (TX.out).at 4 rfl
   have x5 : World.cell? w1 ⟨_, 5, none⟩ = some (.bool x.always) := (TX.out).at 5 rfl
   have x6 : World.cell? w1 ⟨_, 6, none⟩ = some (.slice x.msP x.ms.length x.msC) := (TX.out).at 6 rfl
   rcases z1.cases with ⟨rfl, k1⟩ | ⟨rfl, k1⟩ <;> have hMS := Lib.hid k1 <;> clear k1 z1
   ·skip
    go_wp2_with fail
    try rw [Exit.noGoto_ret]
    go_ret
    exact ⟨_, rfl, G.out, Tells.no fun h => hO.out (HC.out.1 h).2.2.1⟩
   ·skip
    go_wp2_with fail
    try rw [Exit.noGoto_ret]
    go_ret
    exact ⟨_, rfl, G.out, Tells.no fun h => hMS.out (HC.out.1 h).2.1⟩
 ·skip
  by_cases c : x.other = 0
  ·have eO : (x.other == 0) = true := by simpa using c
   have hO := Lib.hid c
   clear c
   by_cases c : x.bye = 0
   ·have eB : (x.bye == 0) = true := by simpa using c
    have hB := Lib.hid c
    clear c
    cases cA : x.always
    ·have hA := Lib.hid (show x.always = false by simp [cA])
     rw [cA] at x5
     have hcA := Lib.hid cA
     clear cA
     by_cases c : x.ms = []
     ·have eL : ((x.ms.length : Int) == 0) = true := by simp [c]
      have hL := Lib.hid c
      clear c
      go_wp2_with fail
      try rw [Exit.noGoto_ret]
      go_ret
      exact ⟨_, rfl, G.out, Tells.no fun h => hE.out (HC.out.1 h).1⟩
     ·have eL : ((x.ms.length : Int) == 0) = false := by simpa using c
      have hL := Lib.hid c
      clear c
      go_wp2_with fail
      try rw [Exit.noGoto_ret]
      go_ret
      exact ⟨_, rfl, G.out, Tells.no fun h => hE.out (HC.out.1 h).1⟩
    ·have hA := Lib.hid (show ¬ x.always = false by simp [cA])
     rw [cA] at x5
     have hcA := Lib.hid cA
     clear cA
     go_wp2_with fail
     try rw [Exit.noGoto_ret]
     go_ret
     exact ⟨_, rfl, G.out, Tells.no fun h => hE.out (HC.out.1 h).1⟩
   ·have eB : (x.bye == 0) = false := by simpa using c
    have hB := Lib.hid c
    clear c
    go_wp2_with fail
    try rw [Exit.noGoto_ret]
    go_ret
    exact ⟨_, rfl, G.out, Tells.no fun h => hE.out (HC.out.1 h).1⟩
  ·have eO : (x.other == 0) = false := by simpa using c
   have hO := Lib.hid c
   clear c
   go_wp2_with fail
   try rw [Exit.noGoto_ret]
   go_ret
   exact ⟨_, rfl, G.out, Tells.no fun h => hE.out (HC.out.1 h).1⟩
end Go.Proofs.YtchpbaaabnkkkaaGreatDoor

/-
  catalog.validItem.
-/
import Derived.Test.YtammehbflilbiaaDoorCatD
namespace Go.Proofs.YtammehbflilbiaaDoor
open Go.RowKit Go.Lib Lex
set_option linter.unusedVariables false
set_option linter.unusedSimpArgs false

theorem ItemOn.grow {w w' : World} {x : ItemM} (h : ItemOn w x) (g : Gr w w') : ItemOn w' x := SlL.grow h g
theorem neq_func {w : World} (f : FuncId) (caps : Array Value) : (binOp .neq 22 (.func (.func f) #[] caps) .nilFunc).run Tryd.prog w = .ok (.bool true) w := by
  have h := Tryd.underlying22
  have h1 : (Op.equal 22 (.func (.func f) #[] caps) .nilFunc).run Tryd.prog w = .ok false w := by
    have h2 : ∀ d : Nat, (Op.equalIn (d + 1) 22 (.func (.func f) #[] caps) .nilFunc).run Tryd.prog w = .ok false w := fun d => by simp [Op.equalIn, run_underlying h]
    exact h2 9999
  simp only [binOp]
  simp [h1]
theorem neq_nil {w : World} : (binOp .neq 22 .nilFunc .nilFunc).run Tryd.prog w = .ok (.bool false) w := by
  have h := Tryd.underlying22
  have h1 : (Op.equal 22 .nilFunc .nilFunc).run Tryd.prog w = .ok true w := by
    have h2 : ∀ d : Nat, (Op.equalIn (d + 1) 22 .nilFunc .nilFunc).run Tryd.prog w = .ok true w := fun d => by simp [Op.equalIn, run_underlying h]
    exact h2 9999
  simp only [binOp]
  simp [h1]
set_option maxRecDepth 100000 in
set_option maxHeartbeats 1600000 in
theorem cat_validItem (w : World) (P : Ptrs) (M : Mdl) (x : ItemM) (hm : MdlAt w P M) (hx : ItemOn w x) (hb : x.on.length ≤ 1000000) :
    Calls Tryd.prog 35 #[.agg (mcells P M), .agg (itemV x)] w (Ret w fun r _ => Tells (ItemOK M x) r) := by
  unfold itemV
  have HM := Lib.hid hm
  have HX := Lib.hid hx
  have B0 := Cells.new w (mcells P M) 33
  have B := Cells.new (w.alloc (.cells (mcells P M) 33)) #[.string ⟨x.name.toArray⟩, .int .i64 x.kind, .int .i64 x.count, .int .i64 x.load, .int .i64 x.size, .int .i64 x.share, .slice x.onP x.on.length x.onC] 52
  have i1 := stores3 ((w.alloc (.cells (mcells P M) 33)).alloc (.cells #[.string ⟨x.name.toArray⟩, .int .i64 x.kind, .int .i64 x.count, .int .i64 x.load, .int .i64 x.size, .int .i64 x.share, .slice x.onP x.on.length x.onC] 52)) (.func (.func 68) #[] #[.pointer (some ⟨w.heap.size + 1, 0, none⟩)]) (.func (.func 69) #[] #[.pointer (some ⟨w.heap.size + 1, 0, none⟩)]) (.func (.func 70) #[] #[.pointer (some ⟨w.heap.size + 1, 0, none⟩)])
  have i4 := look3 ((w.alloc (.cells (mcells P M) 33)).alloc (.cells #[.string ⟨x.name.toArray⟩, .int .i64 x.kind, .int .i64 x.count, .int .i64 x.load, .int .i64 x.size, .int .i64 x.share, .slice x.onP x.on.length x.onC] 52)) (.func (.func 68) #[] #[.pointer (some ⟨w.heap.size + 1, 0, none⟩)]) (.func (.func 69) #[] #[.pointer (some ⟨w.heap.size + 1, 0, none⟩)]) (.func (.func 70) #[] #[.pointer (some ⟨w.heap.size + 1, 0, none⟩)]) x.kind
  have gm := fun o : Obj => Gr.alloc (Gr.refl ((w.alloc (.cells (mcells P M) 33)).alloc (.cells #[.string ⟨x.name.toArray⟩, .int .i64 x.kind, .int .i64 x.count, .int .i64 x.load, .int .i64 x.size, .int .i64 x.share, .slice x.onP x.on.length x.onC] 52))) o
  obtain ⟨i1, i2, i3⟩ := i1
  rw [World.size_alloc, World.size_alloc] at i1 i2 i3 i4
  rw [World.size_alloc] at B
  clear hm hx
  have y0 := fun o => B.2.c 0 rfl _ (gm o)
  have y1 := fun o => B.2.c 1 rfl _ (gm o)
  have H0 := Lib.hid (B0.1.trans B.1)
  have H1 := Lib.hid (B0.2.grow B.1)
  have H2 := Lib.hid B.2
  clear B0 B
  unfold mcells at *
  go_enter Tryd.func35, Tryd.ntmps35
  have q1 := fun w' => neq_func (w := w') 68 #[.pointer (some ⟨w.heap.size + 1, 0, none⟩)]
  have q2 := fun w' => neq_func (w := w') 69 #[.pointer (some ⟨w.heap.size + 1, 0, none⟩)]
  have q3 := fun w' => neq_func (w := w') 70 #[.pointer (some ⟨w.heap.size + 1, 0, none⟩)]
  have q4 := fun w' => neq_nil (w := w')
  have hmk := fun w => run_makeMap (P := Tryd.prog) 89 w
  have K := Lib.hid (show ∀ o, Gr _ _ from gm)
  clear gm
  by_cases k0 : x.kind = 0
  · rw [if_pos k0] at i4
    have HC := Lib.hid (show CountOK x ↔ Odd5 x by unfold CountOK Odd5; omega)
    clear k0
    go_wp2_with fail
    clear i1 i2 i3 i4 y0 y1 q1 q2 q3 q4 hmk
    generalize hg : ((w.alloc _).alloc _).alloc _ = W2
    have G : Gr w W2 := by rw [← hg]; exact H0.out.trans (K.out _)
    have TM : Cells W2 w.heap.size (mcells P M) := by rw [← hg]; exact H1.out.grow (K.out _)
    have TX : Cells W2 (w.heap.size + 1) (itemV x) := by rw [← hg]; exact H2.out.grow (K.out _)
    clear hg K H0 H1 H2
    generalize w.heap.size = bm at TM TX ⊢
    generalize bm + 1 = bx at TX ⊢
    have G := Lib.hid G
    have HM := Lib.hid (HM.out.grow G.out)
    have HX := Lib.hid (SlL.grow HX.out G.out)
    have TM := Lib.hid TM
    have TX := Lib.hid TX
    refine (item_clo1 W2 bx x TX.out).mono ?_
    rintro _ w2 ⟨v1, rfl, g1, h1⟩
    have G := Lib.hid (G.out.trans g1)
    have TM := Lib.hid (TM.out.grow g1)
    have TX := Lib.hid (TX.out.grow g1)
    have HM := Lib.hid (HM.out.grow g1)
    have HX := Lib.hid (HX.out.grow g1)
    clear g1
    rcases h1.cases with ⟨rfl, k1⟩ | ⟨rfl, k1⟩
    · have H1 := Lib.hid (HC.out.2 k1)
      clear k1 h1
      have m0 := mc0 TM.out _ (Gr.refl _)
      have m1 := mc1 TM.out _ (Gr.refl _)
      have m2 := mc2 TM.out _ (Gr.refl _)
      have m3 := mc3 TM.out _ (Gr.refl _)
      have m4 := mc4 TM.out _ (Gr.refl _)
      have m5 := mc5 TM.out _ (Gr.refl _)
      have m6 := mc6 TM.out _ (Gr.refl _)
      have m7 := mc7 TM.out _ (Gr.refl _)
      have m8 := mc8 TM.out _ (Gr.refl _)
      have m9 := mc9 TM.out _ (Gr.refl _)
      have m10 := mc10 TM.out _ (Gr.refl _)
      have x0 : w2.cell? ⟨bx, 0, none⟩ = some (.string ⟨x.name.toArray⟩) := (TX.out).at 0 rfl
      have x1 : w2.cell? ⟨bx, 1, none⟩ = some (.int .i64 x.kind) := (TX.out).at 1 rfl
      have x2 : w2.cell? ⟨bx, 2, none⟩ = some (.int .i64 x.count) := (TX.out).at 2 rfl
      have x3 : w2.cell? ⟨bx, 3, none⟩ = some (.int .i64 x.load) := (TX.out).at 3 rfl
      have x4 : w2.cell? ⟨bx, 4, none⟩ = some (.int .i64 x.size) := (TX.out).at 4 rfl
      have x5 : w2.cell? ⟨bx, 5, none⟩ = some (.int .i64 x.share) := (TX.out).at 5 rfl
      have x6 : w2.cell? ⟨bx, 6, none⟩ = some (.slice x.onP x.on.length x.onC) := (TX.out).at 6 rfl
      go_wp2_with fail
      clear m0 m1 m2 m3 m4 m5 m6 m7 m8 m9 m10
      clear x0 x1 x2 x3 x4 x5 x6
      refine (cat_machines w2 P M x.onP x.onC x.on HM.out HX.out hb).mono ?_
      rintro _ w3 ⟨v2, rfl, g2, t2⟩
      have G := Lib.hid (G.out.trans g2)
      have TM := Lib.hid (TM.out.grow g2)
      have TX := Lib.hid (TX.out.grow g2)
      have HM := Lib.hid (HM.out.grow g2)
      have HX := Lib.hid (HX.out.grow g2)
      clear g2
      have x0 : w3.cell? ⟨bx, 0, none⟩ = some (.string ⟨x.name.toArray⟩) := (TX.out).at 0 rfl
      have x1 : w3.cell? ⟨bx, 1, none⟩ = some (.int .i64 x.kind) := (TX.out).at 1 rfl
      have x2 : w3.cell? ⟨bx, 2, none⟩ = some (.int .i64 x.count) := (TX.out).at 2 rfl
      have x3 : w3.cell? ⟨bx, 3, none⟩ = some (.int .i64 x.load) := (TX.out).at 3 rfl
      have x4 : w3.cell? ⟨bx, 4, none⟩ = some (.int .i64 x.size) := (TX.out).at 4 rfl
      have x5 : w3.cell? ⟨bx, 5, none⟩ = some (.int .i64 x.share) := (TX.out).at 5 rfl
      have x6 : w3.cell? ⟨bx, 6, none⟩ = some (.slice x.onP x.on.length x.onC) := (TX.out).at 6 rfl
      rcases t2.cases with ⟨rfl, k1⟩ | ⟨rfl, k1⟩ <;> have H2 := Lib.hid k1 <;> clear k1 t2
      · go_wp2_with fail
        refine (cat_within _ _ _ _).mono ?_
        rintro _ w1 ⟨⟨v1, rfl, h1⟩, rfl⟩
        rcases h1.cases with ⟨rfl, k1⟩ | ⟨rfl, k1⟩ <;> have H3 := Lib.hid k1 <;> clear k1 h1
        · go_wp2_with fail
          refine (cat_within _ _ _ _).mono ?_
          rintro _ w1 ⟨⟨v1, rfl, h1⟩, rfl⟩
          rcases h1.cases with ⟨rfl, k1⟩ | ⟨rfl, k1⟩ <;> have H4 := Lib.hid k1 <;> clear k1 h1
          · go_wp2_with fail
            refine (cat_within _ _ _ _).mono ?_
            rintro _ w1 ⟨⟨v1, rfl, h1⟩, rfl⟩
            rcases h1.cases with ⟨rfl, k1⟩ | ⟨rfl, k1⟩ <;> have H5 := Lib.hid k1 <;> clear k1 h1
            · go_wp2_with fail
              go_ret
              exact ⟨_, rfl, G.out, Tells.yes ⟨H1.out, H2.out, H3.out, H4.out, H5.out⟩⟩
            · go_wp2_with fail
              go_ret
              exact ⟨_, rfl, G.out, Tells.no fun h => H5.out h.2.2.2.2⟩
          · go_wp2_with fail
            go_ret
            exact ⟨_, rfl, G.out, Tells.no fun h => H4.out h.2.2.2.1⟩
        · go_wp2_with fail
          go_ret
          exact ⟨_, rfl, G.out, Tells.no fun h => H3.out h.2.2.1⟩
      · go_wp2_with fail
        go_ret
        exact ⟨_, rfl, G.out, Tells.no fun h => H2.out h.2.1⟩
    · have H1 := Lib.hid (fun h => k1 (HC.out.1 h))
      clear k1 h1
      go_wp2_with fail
      go_ret
      exact ⟨_, rfl, G.out, Tells.no fun h => H1.out h.1⟩
  · by_cases k1 : x.kind = 1
    · rw [if_neg k0, if_pos k1] at i4
      have HC := Lib.hid (show CountOK x ↔ Within x.count 1 8 by unfold CountOK Within; omega)
      clear k0 k1
      go_wp2_with fail
      clear i1 i2 i3 i4 y0 y1 q1 q2 q3 q4 hmk
      generalize hg : ((w.alloc _).alloc _).alloc _ = W2
      have G : Gr w W2 := by rw [← hg]; exact H0.out.trans (K.out _)
      have TM : Cells W2 w.heap.size (mcells P M) := by rw [← hg]; exact H1.out.grow (K.out _)
      have TX : Cells W2 (w.heap.size + 1) (itemV x) := by rw [← hg]; exact H2.out.grow (K.out _)
      clear hg K H0 H1 H2
      generalize w.heap.size = bm at TM TX ⊢
      generalize bm + 1 = bx at TX ⊢
      have G := Lib.hid G
      have HM := Lib.hid (HM.out.grow G.out)
      have HX := Lib.hid (SlL.grow HX.out G.out)
      have TM := Lib.hid TM
      have TX := Lib.hid TX
      refine (item_clo2 W2 bx x TX.out).mono ?_
      rintro _ w2 ⟨v1, rfl, g1, h1⟩
      have G := Lib.hid (G.out.trans g1)
      have TM := Lib.hid (TM.out.grow g1)
      have TX := Lib.hid (TX.out.grow g1)
      have HM := Lib.hid (HM.out.grow g1)
      have HX := Lib.hid (HX.out.grow g1)
      clear g1
      rcases h1.cases with ⟨rfl, k1⟩ | ⟨rfl, k1⟩
      · have H1 := Lib.hid (HC.out.2 k1)
        clear k1 h1
        have m0 := mc0 TM.out _ (Gr.refl _)
        have m1 := mc1 TM.out _ (Gr.refl _)
        have m2 := mc2 TM.out _ (Gr.refl _)
        have m3 := mc3 TM.out _ (Gr.refl _)
        have m4 := mc4 TM.out _ (Gr.refl _)
        have m5 := mc5 TM.out _ (Gr.refl _)
        have m6 := mc6 TM.out _ (Gr.refl _)
        have m7 := mc7 TM.out _ (Gr.refl _)
        have m8 := mc8 TM.out _ (Gr.refl _)
        have m9 := mc9 TM.out _ (Gr.refl _)
        have m10 := mc10 TM.out _ (Gr.refl _)
        have x0 : w2.cell? ⟨bx, 0, none⟩ = some (.string ⟨x.name.toArray⟩) := (TX.out).at 0 rfl
        have x1 : w2.cell? ⟨bx, 1, none⟩ = some (.int .i64 x.kind) := (TX.out).at 1 rfl
        have x2 : w2.cell? ⟨bx, 2, none⟩ = some (.int .i64 x.count) := (TX.out).at 2 rfl
        have x3 : w2.cell? ⟨bx, 3, none⟩ = some (.int .i64 x.load) := (TX.out).at 3 rfl
        have x4 : w2.cell? ⟨bx, 4, none⟩ = some (.int .i64 x.size) := (TX.out).at 4 rfl
        have x5 : w2.cell? ⟨bx, 5, none⟩ = some (.int .i64 x.share) := (TX.out).at 5 rfl
        have x6 : w2.cell? ⟨bx, 6, none⟩ = some (.slice x.onP x.on.length x.onC) := (TX.out).at 6 rfl
        go_wp2_with fail
        clear m0 m1 m2 m3 m4 m5 m6 m7 m8 m9 m10
        clear x0 x1 x2 x3 x4 x5 x6
        refine (cat_machines w2 P M x.onP x.onC x.on HM.out HX.out hb).mono ?_
        rintro _ w3 ⟨v2, rfl, g2, t2⟩
        have G := Lib.hid (G.out.trans g2)
        have TM := Lib.hid (TM.out.grow g2)
        have TX := Lib.hid (TX.out.grow g2)
        have HM := Lib.hid (HM.out.grow g2)
        have HX := Lib.hid (HX.out.grow g2)
        clear g2
        have x0 : w3.cell? ⟨bx, 0, none⟩ = some (.string ⟨x.name.toArray⟩) := (TX.out).at 0 rfl
        have x1 : w3.cell? ⟨bx, 1, none⟩ = some (.int .i64 x.kind) := (TX.out).at 1 rfl
        have x2 : w3.cell? ⟨bx, 2, none⟩ = some (.int .i64 x.count) := (TX.out).at 2 rfl
        have x3 : w3.cell? ⟨bx, 3, none⟩ = some (.int .i64 x.load) := (TX.out).at 3 rfl
        have x4 : w3.cell? ⟨bx, 4, none⟩ = some (.int .i64 x.size) := (TX.out).at 4 rfl
        have x5 : w3.cell? ⟨bx, 5, none⟩ = some (.int .i64 x.share) := (TX.out).at 5 rfl
        have x6 : w3.cell? ⟨bx, 6, none⟩ = some (.slice x.onP x.on.length x.onC) := (TX.out).at 6 rfl
        rcases t2.cases with ⟨rfl, k1⟩ | ⟨rfl, k1⟩ <;> have H2 := Lib.hid k1 <;> clear k1 t2
        · go_wp2_with fail
          refine (cat_within _ _ _ _).mono ?_
          rintro _ w1 ⟨⟨v1, rfl, h1⟩, rfl⟩
          rcases h1.cases with ⟨rfl, k1⟩ | ⟨rfl, k1⟩ <;> have H3 := Lib.hid k1 <;> clear k1 h1
          · go_wp2_with fail
            refine (cat_within _ _ _ _).mono ?_
            rintro _ w1 ⟨⟨v1, rfl, h1⟩, rfl⟩
            rcases h1.cases with ⟨rfl, k1⟩ | ⟨rfl, k1⟩ <;> have H4 := Lib.hid k1 <;> clear k1 h1
            · go_wp2_with fail
              refine (cat_within _ _ _ _).mono ?_
              rintro _ w1 ⟨⟨v1, rfl, h1⟩, rfl⟩
              rcases h1.cases with ⟨rfl, k1⟩ | ⟨rfl, k1⟩ <;> have H5 := Lib.hid k1 <;> clear k1 h1
              · go_wp2_with fail
                go_ret
                exact ⟨_, rfl, G.out, Tells.yes ⟨H1.out, H2.out, H3.out, H4.out, H5.out⟩⟩
              · go_wp2_with fail
                go_ret
                exact ⟨_, rfl, G.out, Tells.no fun h => H5.out h.2.2.2.2⟩
            · go_wp2_with fail
              go_ret
              exact ⟨_, rfl, G.out, Tells.no fun h => H4.out h.2.2.2.1⟩
          · go_wp2_with fail
            go_ret
            exact ⟨_, rfl, G.out, Tells.no fun h => H3.out h.2.2.1⟩
        · go_wp2_with fail
          go_ret
          exact ⟨_, rfl, G.out, Tells.no fun h => H2.out h.2.1⟩
      · have H1 := Lib.hid (fun h => k1 (HC.out.1 h))
        clear k1 h1
        go_wp2_with fail
        go_ret
        exact ⟨_, rfl, G.out, Tells.no fun h => H1.out h.1⟩
    · by_cases k2 : x.kind = 2
      · rw [if_neg k0, if_neg k1, if_pos k2] at i4
        have HC := Lib.hid (show CountOK x ↔ x.count = 1 ∧ x.on.length = 1 by unfold CountOK; omega)
        clear k0 k1 k2
        go_wp2_with fail
        clear i1 i2 i3 i4 y0 y1 q1 q2 q3 q4 hmk
        generalize hg : ((w.alloc _).alloc _).alloc _ = W2
        have G : Gr w W2 := by rw [← hg]; exact H0.out.trans (K.out _)
        have TM : Cells W2 w.heap.size (mcells P M) := by rw [← hg]; exact H1.out.grow (K.out _)
        have TX : Cells W2 (w.heap.size + 1) (itemV x) := by rw [← hg]; exact H2.out.grow (K.out _)
        clear hg K H0 H1 H2
        generalize w.heap.size = bm at TM TX ⊢
        generalize bm + 1 = bx at TX ⊢
        have G := Lib.hid G
        have HM := Lib.hid (HM.out.grow G.out)
        have HX := Lib.hid (SlL.grow HX.out G.out)
        have TM := Lib.hid TM
        have TX := Lib.hid TX
        refine (item_clo3 W2 bx x TX.out).mono ?_
        rintro _ w2 ⟨v1, rfl, g1, h1⟩
        have G := Lib.hid (G.out.trans g1)
        have TM := Lib.hid (TM.out.grow g1)
        have TX := Lib.hid (TX.out.grow g1)
        have HM := Lib.hid (HM.out.grow g1)
        have HX := Lib.hid (HX.out.grow g1)
        clear g1
        rcases h1.cases with ⟨rfl, k1⟩ | ⟨rfl, k1⟩
        · have H1 := Lib.hid (HC.out.2 k1)
          clear k1 h1
          have m0 := mc0 TM.out _ (Gr.refl _)
          have m1 := mc1 TM.out _ (Gr.refl _)
          have m2 := mc2 TM.out _ (Gr.refl _)
          have m3 := mc3 TM.out _ (Gr.refl _)
          have m4 := mc4 TM.out _ (Gr.refl _)
          have m5 := mc5 TM.out _ (Gr.refl _)
          have m6 := mc6 TM.out _ (Gr.refl _)
          have m7 := mc7 TM.out _ (Gr.refl _)
          have m8 := mc8 TM.out _ (Gr.refl _)
          have m9 := mc9 TM.out _ (Gr.refl _)
          have m10 := mc10 TM.out _ (Gr.refl _)
          have x0 : w2.cell? ⟨bx, 0, none⟩ = some (.string ⟨x.name.toArray⟩) := (TX.out).at 0 rfl
          have x1 : w2.cell? ⟨bx, 1, none⟩ = some (.int .i64 x.kind) := (TX.out).at 1 rfl
          have x2 : w2.cell? ⟨bx, 2, none⟩ = some (.int .i64 x.count) := (TX.out).at 2 rfl
          have x3 : w2.cell? ⟨bx, 3, none⟩ = some (.int .i64 x.load) := (TX.out).at 3 rfl
          have x4 : w2.cell? ⟨bx, 4, none⟩ = some (.int .i64 x.size) := (TX.out).at 4 rfl
          have x5 : w2.cell? ⟨bx, 5, none⟩ = some (.int .i64 x.share) := (TX.out).at 5 rfl
          have x6 : w2.cell? ⟨bx, 6, none⟩ = some (.slice x.onP x.on.length x.onC) := (TX.out).at 6 rfl
          go_wp2_with fail
          clear m0 m1 m2 m3 m4 m5 m6 m7 m8 m9 m10
          clear x0 x1 x2 x3 x4 x5 x6
          refine (cat_machines w2 P M x.onP x.onC x.on HM.out HX.out hb).mono ?_
          rintro _ w3 ⟨v2, rfl, g2, t2⟩
          have G := Lib.hid (G.out.trans g2)
          have TM := Lib.hid (TM.out.grow g2)
          have TX := Lib.hid (TX.out.grow g2)
          have HM := Lib.hid (HM.out.grow g2)
          have HX := Lib.hid (HX.out.grow g2)
          clear g2
          have x0 : w3.cell? ⟨bx, 0, none⟩ = some (.string ⟨x.name.toArray⟩) := (TX.out).at 0 rfl
          have x1 : w3.cell? ⟨bx, 1, none⟩ = some (.int .i64 x.kind) := (TX.out).at 1 rfl
          have x2 : w3.cell? ⟨bx, 2, none⟩ = some (.int .i64 x.count) := (TX.out).at 2 rfl
          have x3 : w3.cell? ⟨bx, 3, none⟩ = some (.int .i64 x.load) := (TX.out).at 3 rfl
          have x4 : w3.cell? ⟨bx, 4, none⟩ = some (.int .i64 x.size) := (TX.out).at 4 rfl
          have x5 : w3.cell? ⟨bx, 5, none⟩ = some (.int .i64 x.share) := (TX.out).at 5 rfl
          have x6 : w3.cell? ⟨bx, 6, none⟩ = some (.slice x.onP x.on.length x.onC) := (TX.out).at 6 rfl
          rcases t2.cases with ⟨rfl, k1⟩ | ⟨rfl, k1⟩ <;> have H2 := Lib.hid k1 <;> clear k1 t2
          · go_wp2_with fail
            refine (cat_within _ _ _ _).mono ?_
            rintro _ w1 ⟨⟨v1, rfl, h1⟩, rfl⟩
            rcases h1.cases with ⟨rfl, k1⟩ | ⟨rfl, k1⟩ <;> have H3 := Lib.hid k1 <;> clear k1 h1
            · go_wp2_with fail
              refine (cat_within _ _ _ _).mono ?_
              rintro _ w1 ⟨⟨v1, rfl, h1⟩, rfl⟩
              rcases h1.cases with ⟨rfl, k1⟩ | ⟨rfl, k1⟩ <;> have H4 := Lib.hid k1 <;> clear k1 h1
              · go_wp2_with fail
                refine (cat_within _ _ _ _).mono ?_
                rintro _ w1 ⟨⟨v1, rfl, h1⟩, rfl⟩
                rcases h1.cases with ⟨rfl, k1⟩ | ⟨rfl, k1⟩ <;> have H5 := Lib.hid k1 <;> clear k1 h1
                · go_wp2_with fail
                  go_ret
                  exact ⟨_, rfl, G.out, Tells.yes ⟨H1.out, H2.out, H3.out, H4.out, H5.out⟩⟩
                · go_wp2_with fail
                  go_ret
                  exact ⟨_, rfl, G.out, Tells.no fun h => H5.out h.2.2.2.2⟩
              · go_wp2_with fail
                go_ret
                exact ⟨_, rfl, G.out, Tells.no fun h => H4.out h.2.2.2.1⟩
            · go_wp2_with fail
              go_ret
              exact ⟨_, rfl, G.out, Tells.no fun h => H3.out h.2.2.1⟩
          · go_wp2_with fail
            go_ret
            exact ⟨_, rfl, G.out, Tells.no fun h => H2.out h.2.1⟩
        · have H1 := Lib.hid (fun h => k1 (HC.out.1 h))
          clear k1 h1
          go_wp2_with fail
          go_ret
          exact ⟨_, rfl, G.out, Tells.no fun h => H1.out h.1⟩
      · rw [if_neg k0, if_neg k1, if_neg k2] at i4
        have HC := Lib.hid (show ¬ CountOK x by unfold CountOK; omega)
        clear k0 k1 k2
        go_wp2_with fail
        go_ret
        exact ⟨_, rfl, H0.out.trans (K.out _), Tells.no fun h => HC.out h.1⟩
end Go.Proofs.YtammehbflilbiaaDoor

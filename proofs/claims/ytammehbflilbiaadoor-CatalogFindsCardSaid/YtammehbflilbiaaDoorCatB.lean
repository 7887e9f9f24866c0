/-
  exodusref15.Machines, catalog.machines.
-/
import Derived.Test.YtammehbflilbiaaDoorSiteE
namespace Go.Proofs.YtammehbflilbiaaDoor
open Go.RowKit Go.Lib Lex
set_option linter.unusedVariables false
set_option linter.unusedSimpArgs false

def MsUp (M : Mdl) (l : List Int) (k : Nat) : Prop := ∀ i n, i < k → l[i]? = some n → Ex n M.machs.length ∧ (0 < i → ∀ p, l[i - 1]? = some p → p < n)
theorem MsUp.step {M : Mdl} {l : List Int} {k : Nat} {x : Int} (h : MsUp M l k) (hx : l[k]? = some x) (h1 : Ex x M.machs.length) (h2 : 0 < k → ∀ p, l[k - 1]? = some p → p < x) : MsUp M l (k + 1) := fun i n hi hn => by
  by_cases e : i = k
  · subst e
    rw [hx] at hn
    cases hn
    exact ⟨h1, h2⟩
  · exact h i n (by omega) hn
theorem MsUp.all {M : Mdl} {l : List Int} (h : MsUp M l l.length) (hne : l ≠ []) : MsOK M l := ⟨hne, fun i n hn => h i n (List.getElem?_eq_some_iff.1 hn).1 hn⟩

set_option maxRecDepth 100000 in
set_option maxHeartbeats 1600000 in
theorem cat_machines (w : World) (P : Ptrs) (M : Mdl) (p : Option Addr) (c : Nat) (l : List Int) (hm : MdlAt w P M) (hl : IntL w (.slice p l.length c) l) (hb : l.length ≤ 1000000) :
    Calls Tryd.prog 71 #[.agg (mcells P M), .slice p l.length c] w (Ret w fun r _ => Tells (MsOK M l) r) := by
  have HL := Lib.hid hl
  clear hl
  have HM := Lib.hid hm
  have B := Cells.new w (mcells P M) 33
  clear hm
  have m0 := mc0 B.2 _ (Gr.refl _)
  have m1 := mc1 B.2 _ (Gr.refl _)
  have m2 := mc2 B.2 _ (Gr.refl _)
  have m3 := mc3 B.2 _ (Gr.refl _)
  have m4 := mc4 B.2 _ (Gr.refl _)
  have m5 := mc5 B.2 _ (Gr.refl _)
  have m6 := mc6 B.2 _ (Gr.refl _)
  have m7 := mc7 B.2 _ (Gr.refl _)
  have m8 := mc8 B.2 _ (Gr.refl _)
  have m9 := mc9 B.2 _ (Gr.refl _)
  have m10 := mc10 B.2 _ (Gr.refl _)
  unfold mcells at B m0 m1 m2 m3 m4 m5 m6 m7 m8 m9 m10 ⊢
  go_enter Tryd.func71, Tryd.ntmps71
  go_wp2_with fail
  clear m0 m1 m2 m3 m4 m5 m6 m7 m8 m9 m10
  generalize w.heap.size = bm at B ⊢
  generalize w.alloc _ = W at B ⊢
  obtain ⟨g0, tm⟩ := B
  have TM := Lib.hid (show Cells W bm (mcells P M) from tm)
  have G := Lib.hid g0
  have HM := Lib.hid (HM.out.grow g0)
  clear g0 tm
  have m0 := mc0 TM.out _ (Gr.refl _)
  have m1 := mc1 TM.out _ (Gr.refl _)
  have m2 := mc2 TM.out _ (Gr.refl _)
  have m3 := mc3 TM.out _ (Gr.refl _)
  have m4 := mc4 TM.out _ (Gr.refl _)
  have m5 := mc5 TM.out _ (Gr.refl _)
  have m6 := mc6 TM.out _ (Gr.refl _)
  have m7 := mc7 TM.out _ (Gr.refl _)
  have m8 := mc8 TM.out _ (Gr.refl _)
  have m9 := mc9 TM.out _ (Gr.refl _)
  have m10 := mc10 TM.out _ (Gr.refl _)
  clear m0 m1 m2 m3 m4 m5 m6 m7 m8 m9 m10
  obtain ⟨p0, c0, p1, c1, p2, c2, p3, c3, p4, c4, p5, c5, p6, c6⟩ := P
  try dsimp only
  have HL := Lib.hid (HL.out.grow G.out)
  go_loopw [9] (fun i w1 => ∃ k : Nat, i = .int .i64 k ∧ k ≤ l.length ∧ MsUp M l k ∧ Gr W w1) (fun i _ => l.length - (RowKit.intOf i).toNat)
  case atStart => exact ⟨0, rfl, Nat.zero_le _, fun i n hi => by omega, Gr.refl _⟩
  case round =>
    obtain ⟨k, rfl, hk, hp, g1⟩ := hrel
    have HP := Lib.hid hp
    have G := Lib.hid (G.out.trans g1)
    have HL := Lib.hid (HL.out.grow g1)
    have TM := Lib.hid (TM.out.grow g1)
    have G1 := Lib.hid g1
    clear hp g1
    by_cases hlt : k < l.length
    · have hlt' : (k : Int) < (l.length : Int) := by omega
      obtain ⟨b, o, x, rfl, hx, hc⟩ := int_at HL.out rfl hlt
      have HX := Lib.hid hx
      have m3 := mc3 TM.out wr (Gr.refl _)
      dsimp only at m3
      clear hx
      by_cases h0 : k = 0
      · subst h0
        have hc0 : wr.cell? ⟨b, o, none⟩ = some (.int .i64 x) := hc wr (Gr.refl _)
        clear hc
        go_wp2_with fail
        refine (cat_within _ _ _ _).mono ?_
        rintro _ w1 ⟨⟨v1, rfl, h1⟩, rfl⟩
        rcases h1.cases with ⟨rfl, k1⟩ | ⟨rfl, k1⟩ <;> have H1 := Lib.hid k1 <;> clear k1 h1
        · have HS := Lib.hid (HP.out.step HX.out H1.out (fun h => absurd h (by omega)))
          go_wp2_with fail
          refine ⟨⟨1, by go_num, by omega, HS.out, G1.out⟩, by simp [RowKit.intOf]; omega⟩
        · go_wp2_with fail
          go_ret
          exact ⟨_, rfl, G.out, Tells.no fun h => H1.out (h.2 0 x HX.out).1⟩
      · obtain ⟨j, rfl⟩ : ∃ j, k = j + 1 := ⟨k - 1, by omega⟩
        obtain ⟨_, _, y, hbo, hy, hd⟩ := int_at HL.out rfl (show j < l.length by omega)
        cases hbo
        have HY := Lib.hid hy
        have hjl : j < l.length := by omega
        have hc1 := hc wr (Gr.refl _)
        have hd1 := hd wr (Gr.refl _)
        clear hy h0 hc hd
        have hjl' : (j : Int) < (l.length : Int) := by omega
        have hwj : IntKind.i64.wrap (j : Int) = (j : Int) := by rw [IntKind.wrap_i64]; omega
        have hpj : (0 : Int) < (j : Int) + 1 := by omega
        by_cases hyx : y < x
        · have hyx' : ¬ x ≤ y := by omega
          have HYX := Lib.hid hyx
          go_wp2_with fail
          refine (cat_within _ _ _ _).mono ?_
          rintro _ w1 ⟨⟨v1, rfl, h1⟩, rfl⟩
          rcases h1.cases with ⟨rfl, k1⟩ | ⟨rfl, k1⟩ <;> have H1 := Lib.hid k1 <;> clear k1 h1
          · have HS := Lib.hid (HP.out.step HX.out H1.out (fun _ p hp => by
              have e := HY.out.symm.trans hp
              cases e
              exact HYX.out))
            go_wp2_with fail
            refine ⟨⟨j + 1 + 1, by go_num, by omega, HS.out, G1.out⟩, by simp [RowKit.intOf]; omega⟩
          · go_wp2_with fail
            go_ret
            exact ⟨_, rfl, G.out, Tells.no fun h => H1.out (h.2 (j + 1) x HX.out).1⟩
        · have hyx' : x ≤ y := by omega
          go_wp2_with fail
          refine (cat_within _ _ _ _).mono ?_
          rintro _ w1 ⟨⟨v1, rfl, h1⟩, rfl⟩
          rcases h1.cases with ⟨rfl, k1⟩ | ⟨rfl, k1⟩ <;> have H1 := Lib.hid k1 <;> clear k1 h1
          · go_wp2_with fail
            go_ret
            exact ⟨_, rfl, G.out, Tells.no fun h => by have := (h.2 (j + 1) x HX.out).2 (by omega) y HY.out; omega⟩
          · go_wp2_with fail
            go_ret
            exact ⟨_, rfl, G.out, Tells.no fun h => H1.out (h.2 (j + 1) x HX.out).1⟩
    · obtain rfl : k = l.length := by omega
      by_cases hne : l = []
      · have h0 : ¬ (0 : Int) < (l.length : Int) := by rw [hne]; simp
        have h0' : ¬ 0 < l.length := by rw [hne]; simp
        have HNe := Lib.hid hne
        clear hne
        go_wp2_with fail
        go_ret
        exact ⟨_, rfl, G.out, Tells.no fun h => h.1 HNe.out⟩
      · have h0 : (0 : Int) < (l.length : Int) := by have := List.length_pos_iff.2 hne; omega
        have h0' : 0 < l.length := List.length_pos_iff.2 hne
        have HNe := Lib.hid hne
        clear hne
        go_wp2_with fail
        go_ret
        exact ⟨_, rfl, G.out, Tells.yes (HP.out.all HNe.out)⟩
end Go.Proofs.YtammehbflilbiaaDoor

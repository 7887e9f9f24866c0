/-
  awake of chapter 15.
-/
import Derived.Test.YtammehbflilbiaaDoorCatZ
import Derived.Test.YtammehbflilbiaaDoorExa
import Derived.Test.YtammehbflilbiaaDoorLoad
import Derived.Test.YtammehbflilbiaaDoorFew
namespace Go.Proofs.YtammehbflilbiaaDoor
open Go.RowKit Go.Lib Lex
set_option linter.unusedVariables false
set_option linter.unusedSimpArgs false

theorem sound1 {α : Type} {ok : α → List α → Prop} {a : α} (h : ok a []) : Sound ok [a] := fun i x hx => by
  match i with
  | 0 => simp at hx; subst hx; exact h
  | n + 1 => simp at hx
theorem sound2 {α : Type} {ok : α → List α → Prop} {a b : α} (h : ok a []) (k : ok b [a]) : Sound ok [a, b] := fun i x hx => by
  match i with
  | 0 => simp at hx; subst hx; exact h
  | 1 => simp at hx; subst hx; exact k
  | n + 2 => simp at hx
theorem namesOK_of {l : List (List UInt8)} (h : ∀ i : Fin l.length, isName l[i] = true ∧ ¬ l[i] ∈ l.take i) : NamesOK l := fun i s hs => by
  obtain ⟨hi, rfl⟩ := List.getElem?_eq_some_iff.1 hs
  exact h ⟨i, hi⟩
theorem exFew (q : Option Addr) : Few (exM q) := by
  unfold Few exM exM0
  simp
theorem exOK (q : Option Addr) : MdlOK (exM q) := by
  refine ⟨⟨⟨by simp [exM, exM0], by simp [exM, exM0]⟩, by simp [exM, exM0], by simp [exM, exM0], ⟨by simp [exM, exM0], by simp [exM, exM0]⟩, by simp [exM, exM0], sound1 ?_, sound2 ?_ ?_, sound1 ?_⟩, ?_, ?_, ?_, fun x hx => ?_, fun x hx => ?_, ?_, ?_, ?_, ?_⟩
  · exact ⟨by unfold Ex exM exM0; simp, by unfold Ex exM exM0; simp, fun y hy => by cases hy⟩
  · exact ⟨by unfold Ex exM exM0; simp, by unfold Amount; simp⟩
  · exact ⟨by unfold Ex exM exM0; simp, by unfold Amount; simp⟩
  · exact ⟨by simp, by simp, by unfold exM exM0; simp, by unfold Amount; simp, fun y hy => by cases hy⟩
  · unfold exM; simp
  · unfold exM exM0; simp
  · show NamesOK [[97], [98], [102], [114], [109, 49], [109, 50], [100, 98]]
    exact namesOK_of (by decide)
  · obtain rfl : x = _ := List.mem_singleton.1 hx
    refine ⟨.inl ⟨rfl, .inl rfl, rfl⟩, ⟨by simp, fun i n hn => ?_⟩, by unfold Within; simp, by unfold Within; simp, by unfold Within; simp⟩
    match i with
    | 0 => simp at hn; subst hn; exact ⟨by unfold Ex exM exM0; simp, fun h => by omega⟩
    | n + 1 => simp at hn
  · cases hx
  · unfold Ex exM exM0; simp
  · unfold Within exM exM0; simp
  · unfold Within exM exM0; simp
  · unfold Within exM exM0; simp
theorem exFits (q : Option Addr) : FitsM (exM q) := fun i x hx => by
  match i with
  | 0 => simp [exM, exM0] at hx; subst hx; show loadW (exM q) 1 ≤ 10; have : loadW (exM q) 1 = 0 := (by kernel_rfl); omega
  | 1 => simp [exM, exM0] at hx; subst hx; show loadW (exM q) 2 ≤ 5; have : loadW (exM q) 2 = 4 := (by kernel_rfl); omega
  | n + 2 => simp [exM, exM0] at hx
set_option maxRecDepth 100000 in
set_option maxHeartbeats 800000 in
theorem law_awake (w : World) (ht : Tab w) : Calls Tryd.prog 5 #[] w (Ret w fun r _ => r = .bool true) := by
  have HT := Lib.hid ht
  clear ht
  go_enter Tryd.func5, Tryd.ntmps5
  go_wp2_with fail
  refine (law15_Example w).mono ?_
  rintro _ w1 ⟨_, rfl, g1, P, q, rfl, hm⟩
  have B := Cells.new w1 (mcells P (exM q)) 33
  have m0 := mc0 B.2 _ (Gr.refl _)
  have m1 := mc1 B.2 _ (Gr.refl _)
  have m2 := mc2 B.2 _ (Gr.refl _)
  have m3 := mc3 B.2 _ (Gr.refl _)
  have m4 := mc4 B.2 _ (Gr.refl _)
  have m5 := mc5 B.2 _ (Gr.refl _)
  have m6 := mc6 B.2 _ (Gr.refl _)
  have m7 := mc7 B.2 _ (Gr.refl _)
  have m8 := mc8 B.2 _ (Gr.refl _)
  have m9 := mc9 B.2 _ (Gr.refl _)
  have m10 := mc10 B.2 _ (Gr.refl _)
  have H0 := Lib.hid (g1.trans B.1)
  have HM := Lib.hid (hm.grow B.1)
  have TM := Lib.hid B.2
  clear g1 hm B
  generalize hM : exM q = M at H0 HM TM m0 m1 m2 m3 m4 m5 m6 m7 m8 m9 m10 ⊢
  have HMM := Lib.hid hM
  clear hM
  unfold mcells at H0 HM TM ⊢
  go_wp2_with fail
  generalize w1.heap.size = bm at TM m0 m1 m2 m3 m4 m5 m6 m7 m8 m9 m10 ⊢
  generalize w1.alloc _ = W at TM HM H0 m0 m1 m2 m3 m4 m5 m6 m7 m8 m9 m10 ⊢
  have TM := Lib.hid (show Cells W bm (mcells P M) from TM.out)
  have G := Lib.hid H0.out
  have HT := Lib.hid (HT.out.grow G.out)
  clear H0
  clear m0 m1 m2 m3 m4 m5 m6 m7 m8 m9 m10
  have hF : Few M := by rw [← HMM.out]; exact exFew q
  refine (cat_Find W P M [100, 98] HM.out hF).mono ?_
  rintro _ w2 ⟨_, rfl, g1, rfl⟩
  rw [show (findR M [100, 98]).1 = 5 from by rw [← HMM.out]; kernel_rfl, show (findR M [100, 98]).2.1 = 1 from by rw [← HMM.out]; kernel_rfl, show (findR M [100, 98]).2.2 = true from by rw [← HMM.out]; kernel_rfl]
  have G := Lib.hid (G.out.trans g1)
  have TM := Lib.hid (TM.out.grow g1)
  have HM := Lib.hid (HM.out.grow g1)
  have HT := Lib.hid (HT.out.grow g1)
  clear g1
  have m0 := mc0 TM.out _ (Gr.refl _)
  have m1 := mc1 TM.out _ (Gr.refl _)
  have m2 := mc2 TM.out _ (Gr.refl _)
  have m3 := mc3 TM.out _ (Gr.refl _)
  have m4 := mc4 TM.out _ (Gr.refl _)
  have m5 := mc5 TM.out _ (Gr.refl _)
  have m6 := mc6 TM.out _ (Gr.refl _)
  have m7 := mc7 TM.out _ (Gr.refl _)
  have m8 := mc8 TM.out _ (Gr.refl _)
  have m9 := mc9 TM.out _ (Gr.refl _)
  have m10 := mc10 TM.out _ (Gr.refl _)
  go_wp2_with fail
  clear m0 m1 m2 m3 m4 m5 m6 m7 m8 m9 m10
  refine (cat_Valid w2 P M HM.out hF HT.out).mono ?_
  rintro _ w3 ⟨r, rfl, g1, h⟩
  have G := Lib.hid (G.out.trans g1)
  have TM := Lib.hid (TM.out.grow g1)
  have HM := Lib.hid (HM.out.grow g1)
  have HT := Lib.hid (HT.out.grow g1)
  clear g1
  rcases h.cases with ⟨rfl, _⟩ | ⟨_, k1⟩
  rotate_left
  · exact absurd (by rw [← HMM.out]; exact exOK q) k1
  clear h
  have m0 := mc0 TM.out _ (Gr.refl _)
  have m1 := mc1 TM.out _ (Gr.refl _)
  have m2 := mc2 TM.out _ (Gr.refl _)
  have m3 := mc3 TM.out _ (Gr.refl _)
  have m4 := mc4 TM.out _ (Gr.refl _)
  have m5 := mc5 TM.out _ (Gr.refl _)
  have m6 := mc6 TM.out _ (Gr.refl _)
  have m7 := mc7 TM.out _ (Gr.refl _)
  have m8 := mc8 TM.out _ (Gr.refl _)
  have m9 := mc9 TM.out _ (Gr.refl _)
  have m10 := mc10 TM.out _ (Gr.refl _)
  go_wp2_with fail
  clear m0 m1 m2 m3 m4 m5 m6 m7 m8 m9 m10
  refine (cat_Load w3 P M 2 HM.out hF).mono ?_
  rintro _ w4 ⟨_, rfl, g1, rfl⟩
  rw [show loadW M 2 = 4 from by rw [← HMM.out]; kernel_rfl]
  have G := Lib.hid (G.out.trans g1)
  have TM := Lib.hid (TM.out.grow g1)
  have HM := Lib.hid (HM.out.grow g1)
  have HT := Lib.hid (HT.out.grow g1)
  clear g1
  go_wp2_with fail
  refine (cat_IsName w4 [100, 98] HT.out (by decide)).mono ?_
  rintro _ w5 ⟨_, rfl, g1, rfl⟩
  rw [show isName [100, 98] = true from rfl]
  have G := Lib.hid (G.out.trans g1)
  have TM := Lib.hid (TM.out.grow g1)
  have HM := Lib.hid (HM.out.grow g1)
  have HT := Lib.hid (HT.out.grow g1)
  clear g1
  go_wp2_with fail
  refine (cat_IsName w5 [112, 111, 111, 108] HT.out (by decide)).mono ?_
  rintro _ w6 ⟨_, rfl, g1, rfl⟩
  rw [show isName [112, 111, 111, 108] = false from rfl]
  have G := Lib.hid (G.out.trans g1)
  have TM := Lib.hid (TM.out.grow g1)
  have HM := Lib.hid (HM.out.grow g1)
  have HT := Lib.hid (HT.out.grow g1)
  clear g1
  have m0 := mc0 TM.out _ (Gr.refl _)
  have m1 := mc1 TM.out _ (Gr.refl _)
  have m2 := mc2 TM.out _ (Gr.refl _)
  have m3 := mc3 TM.out _ (Gr.refl _)
  have m4 := mc4 TM.out _ (Gr.refl _)
  have m5 := mc5 TM.out _ (Gr.refl _)
  have m6 := mc6 TM.out _ (Gr.refl _)
  have m7 := mc7 TM.out _ (Gr.refl _)
  have m8 := mc8 TM.out _ (Gr.refl _)
  have m9 := mc9 TM.out _ (Gr.refl _)
  have m10 := mc10 TM.out _ (Gr.refl _)
  go_wp2_with fail
  clear m0 m1 m2 m3 m4 m5 m6 m7 m8 m9 m10
  refine (cat_Names w6 P M HM.out hF).mono ?_
  rintro _ w7 ⟨r, rfl, g1, h⟩
  have G := Lib.hid (G.out.trans g1)
  have TM := Lib.hid (TM.out.grow g1)
  have HM := Lib.hid (HM.out.grow g1)
  have HT := Lib.hid (HT.out.grow g1)
  clear g1
  obtain ⟨p, c, rfl, _, _⟩ := h.parts
  have hlen : (names M).length = 7 := by rw [← HMM.out]; rfl
  rw [hlen]
  go_wp2_with fail
  refine (cat_Keywords w7 HT.out).mono ?_
  rintro _ w8 ⟨_, rfl, g1, b, rfl, _⟩
  have G := Lib.hid (G.out.trans g1)
  have TM := Lib.hid (TM.out.grow g1)
  have HM := Lib.hid (HM.out.grow g1)
  have HT := Lib.hid (HT.out.grow g1)
  clear g1
  have m0 := mc0 TM.out _ (Gr.refl _)
  have m1 := mc1 TM.out _ (Gr.refl _)
  have m2 := mc2 TM.out _ (Gr.refl _)
  have m3 := mc3 TM.out _ (Gr.refl _)
  have m4 := mc4 TM.out _ (Gr.refl _)
  have m5 := mc5 TM.out _ (Gr.refl _)
  have m6 := mc6 TM.out _ (Gr.refl _)
  have m7 := mc7 TM.out _ (Gr.refl _)
  have m8 := mc8 TM.out _ (Gr.refl _)
  have m9 := mc9 TM.out _ (Gr.refl _)
  have m10 := mc10 TM.out _ (Gr.refl _)
  go_wp2_with fail
  clear m0 m1 m2 m3 m4 m5 m6 m7 m8 m9 m10
  refine (cat_Fits w8 P M HM.out hF).mono ?_
  rintro _ w9 ⟨r, rfl, g1, h⟩
  have G := Lib.hid (G.out.trans g1)
  have TM := Lib.hid (TM.out.grow g1)
  have HM := Lib.hid (HM.out.grow g1)
  have HT := Lib.hid (HT.out.grow g1)
  clear g1
  rcases h.cases with ⟨rfl, _⟩ | ⟨_, k1⟩
  rotate_left
  · exact absurd (by rw [← HMM.out]; exact exFits q) k1
  go_wp2_with fail
  go_ret
  exact ⟨_, rfl, G.out, rfl⟩
end Go.Proofs.YtammehbflilbiaaDoor

/-
  awake of chapter 23.
-/
import Derived.Test.YtdekicijinmakaaGreatDoorFrs
import Derived.Test.YtdekicijinmakaaGreatDoorFew
import Derived.Test.YtdekicijinmakaaGreatDoorMvi
namespace Go.Proofs.YtdekicijinmakaaGreatDoor
open Go.RowKit Go.Lib Lex
set_option linter.unusedVariables false
set_option linter.unusedSimpArgs false

theorem ex23Few (q : Option Addr) : Few (exM23 q) := by
  unfold Few exM23 exM exM0
  simp
theorem sound_list {α : Type} {ok : α → List α → Prop} {l : List α} (h : ∀ i : Fin l.length, ok l[i] (l.take i)) : Sound ok l := fun i x hx => by
  obtain ⟨hi, rfl⟩ := List.getElem?_eq_some_iff.1 hx
  exact h ⟨i, hi⟩
theorem ex23OK (q : Option Addr) : MdlOK (exM23 q) := by
  refine ⟨⟨⟨by simp [exM23, exM, exM0], by simp [exM23, exM, exM0]⟩, by simp [exM23, exM, exM0], by simp [exM23, exM, exM0], ⟨by simp [exM23, exM, exM0], by simp [exM23, exM, exM0]⟩, by simp [exM23, exM, exM0], ?_, ?_, sound1 ?_⟩, ?_, ?_, ?_, fun x hx => ?_, fun x hx => ?_, ?_, ?_, ?_, ?_⟩
  · refine sound2 ⟨by unfold Ex exM23 exM exM0; simp, by unfold Ex exM23 exM exM0; simp, fun y hy => by cases hy⟩ ⟨by unfold Ex exM23 exM exM0; simp, by unfold Ex exM23 exM exM0; simp, fun y hy => ?_⟩
    obtain rfl : y = _ := List.mem_singleton.1 hy
    simp
  · intro i x hx
    match i with
    | 0 => simp [exM23] at hx; subst hx; exact ⟨by unfold Ex exM23; simp, by unfold Amount; simp⟩
    | 1 => simp [exM23] at hx; subst hx; exact ⟨by unfold Ex exM23; simp, by unfold Amount; simp⟩
    | 2 => simp [exM23] at hx; subst hx; exact ⟨by unfold Ex exM23; simp, by unfold Amount; simp⟩
    | n + 3 => simp [exM23] at hx
  · exact ⟨by simp, by simp, by unfold exM23 exM exM0; simp, by unfold Amount; simp, fun y hy => by cases hy⟩
  · unfold exM23 exM; simp
  · unfold exM23 exM exM0; simp
  · show NamesOK [[97], [98], [102], [103], [114], [115], [109, 49], [109, 50], [109, 51], [100, 98]]
    exact namesOK_of (by decide)
  · obtain rfl : x = _ := List.mem_singleton.1 hx
    refine ⟨.inl ⟨rfl, .inl rfl, rfl⟩, ⟨by simp, fun i n hn => ?_⟩, by unfold Within; simp, by unfold Within; simp, by unfold Within; simp⟩
    match i with
    | 0 => simp at hn; subst hn; exact ⟨by unfold Ex exM23; simp, fun h => by omega⟩
    | n + 1 => simp at hn
  · cases hx
  · unfold Ex exM23 exM exM0; simp
  · unfold Within exM23 exM exM0; simp
  · unfold Within exM23 exM exM0; simp
  · unfold Within exM23 exM exM0; simp
theorem ex23Cands (q : Option Addr) : candsM (exM23 q) = [⟨1, 2, 3⟩] := by kernel_rfl
theorem ex23Fits (q : Option Addr) : fitsM (exM23 q) ⟨1, 2, 3⟩ = true := by kernel_rfl
theorem ex23Val (q : Option Addr) {f : ItemM → Int} {v z : Int} (h : IsVal (exM23 q) ⟨1, 2, 3⟩ f z) (hv : f ⟨[100, 98], 0, 1, 4, 2, 1, q, 1, [2]⟩ = v) : z = v := by
  rcases h with ⟨h, _⟩ | ⟨_, it, hit, rfl⟩
  · exact absurd ⟨ex23OK q, ex23Fits q⟩ h
  · obtain rfl : it = _ := (Option.some.inj hit).symm
    exact hv
theorem ex23Text (q : Option Addr) {t : List UInt8} (h : IsText (exM23 q) ⟨1, 2, 3⟩ t) : t = [100, 98, 58, 32, 109, 50, 32, 45, 62, 32, 109, 51] := by
  rcases h with ⟨h, _⟩ | ⟨_, it, hit, rfl⟩
  · exact absurd ⟨ex23OK q, ex23Fits q⟩ h
  · obtain rfl : it = _ := (Option.some.inj hit).symm
    kernel_rfl
theorem ex23Src (q : Option Addr) : srcF ⟨1, 2, 3⟩ ⟨[100, 98], 0, 1, 4, 2, 1, q, 1, [2]⟩ = 2 := by kernel_rfl
theorem ex23Dur (q : Option Addr) : durF ⟨1, 2, 3⟩ ⟨[100, 98], 0, 1, 4, 2, 1, q, 1, [2]⟩ = 2 := by kernel_rfl
theorem ex23Link (q : Option Addr) : linkF (exM23 q) ⟨1, 2, 3⟩ ⟨[100, 98], 0, 1, 4, 2, 1, q, 1, [2]⟩ = 1 := by kernel_rfl
theorem ex23Use (q : Option Addr) : useF (exM23 q) ⟨1, 2, 3⟩ ⟨[100, 98], 0, 1, 4, 2, 1, q, 1, [2]⟩ = 1 := by kernel_rfl
set_option maxRecDepth 100000 in
set_option maxHeartbeats 1600000 in
theorem law23_awake (w : World) (ht : Tab w) : Calls Tryz.prog 10 #[] w (Ret w fun r _ => r = .bool true) := by
  have HT := Lib.hid ht
  clear ht
  go_enter Tryz.func10, Tryz.ntmps10
  go_wp2_with fail
  refine (law23_Example w).mono ?_
  rintro _ w1 ⟨_, rfl, g1, P, q, rfl, hm⟩
  have B := Cells.new w1 (mcells P (exM23 q)) 29
  have m0 := mc0 B.2 _ (Gr.refl _)
  have m1 := mc1 B.2 _ (Gr.refl _)
  have m2 := mc2 B.2 _ (Gr.refl _)
  have m3 := mc3 B.2 _ (Gr.refl _)
  have m4 := mc4 B.2 _ (Gr.refl _)
  have m5 := mc5 B.2 _ (Gr.refl _)
  have m6 := mc6 B.2 _ (Gr.refl _)
  have m7 := mc7 B.2 _ (Gr.refl _)
  have m8 := mc8 B.2 _ (Gr.refl _)
  have m9 := mc9 B.2 _ (Gr.refl _)
  have m10 := mc10 B.2 _ (Gr.refl _)
  have H0 := Lib.hid (g1.trans B.1)
  have HM := Lib.hid (hm.grow B.1)
  have TM := Lib.hid B.2
  clear g1 hm B
  generalize hM : exM23 q = M at H0 HM TM m0 m1 m2 m3 m4 m5 m6 m7 m8 m9 m10 ⊢
  have HMM := Lib.hid hM
  clear hM
  unfold mcells at H0 HM TM ⊢
  go_wp2_with fail
  generalize w1.heap.size = bm at TM m0 m1 m2 m3 m4 m5 m6 m7 m8 m9 m10 ⊢
  generalize w1.alloc _ = W at TM HM H0 m0 m1 m2 m3 m4 m5 m6 m7 m8 m9 m10 ⊢
  have TM := Lib.hid (show Cells W bm (mcells P M) from TM.out)
  have G := Lib.hid H0.out
  have HT := Lib.hid (HT.out.grow G.out)
  clear H0
  clear m0 m1 m2 m3 m4 m5 m6 m7 m8 m9 m10
  have hF : Few M := by rw [← HMM.out]; exact ex23Few q
  have hOK : MdlOK M := by rw [← HMM.out]; exact ex23OK q
  have hC : candsM M = [⟨1, 2, 3⟩] := by rw [← HMM.out]; exact ex23Cands q
  have HOK := Lib.hid hOK
  have HF := Lib.hid hF
  have HC := Lib.hid hC
  clear hF hOK hC
  refine (mv_Candidates W P M HM.out HF.out HT.out).mono ?_
  rintro _ w2 ⟨rv, rfl, g1, hc⟩
  have G := Lib.hid (G.out.trans g1)
  have TM := Lib.hid (TM.out.grow g1)
  have HM := Lib.hid (HM.out.grow g1)
  have HT := Lib.hid (HT.out.grow g1)
  clear g1
  have hc3 : ∃ p c, rv = Value.tuple #[.slice p 1 c, .int .i64 0] ∧ MvL w2 (.slice p 1 c) [⟨1, 2, 3⟩] := by
    rcases hc with ⟨h, _⟩ | ⟨_, h, _⟩ | ⟨_, _, p, c, h1, h2⟩
    · exact absurd HOK.out h
    · rw [HC.out] at h; exact absurd h (by decide)
    · rw [HC.out] at h1 h2; exact ⟨p, c, h1, h2⟩
  clear hc
  obtain ⟨p, c, rfl, hl⟩ := hc3
  have HL := Lib.hid hl
  clear hl
  have B := Cells.new w2 #[.int .i64 1, .int .i64 2, .int .i64 3] 31
  have x0 := B.2.at 0 rfl
  have x1 := B.2.at 1 rfl
  have x2 := B.2.at 2 rfl
  have S := SlL.new (w2.alloc (.cells #[.int .i64 1, .int .i64 2, .int .i64 3] 31)) 31 encMv_len [⟨1, 2, 3⟩] #[.int .i64 1, .int .i64 2, .int .i64 3] 1 rfl rfl (by decide)
  simp only [World.size_alloc] at S
  have HS := Lib.hid S.2
  have HX := Lib.hid (B.2.grow S.1)
  have G2 := Lib.hid (B.1.trans S.1)
  clear B S
  go_wp2_with fail
  clear x0 x1 x2
  generalize w2.heap.size + 1 = bs at HS ⊢
  generalize w2.heap.size = bx at HX ⊢
  generalize (w2.alloc _).alloc _ = W3 at HS HX G2 ⊢
  have g1 := G2.out
  clear G2
  have G := Lib.hid (G.out.trans g1)
  have TM := Lib.hid (TM.out.grow g1)
  have HM := Lib.hid (HM.out.grow g1)
  have HT := Lib.hid (HT.out.grow g1)
  have HL := Lib.hid (HL.out.grow g1)
  clear g1
  refine (ref_Same23 W3 p (some ⟨bs, 0, none⟩) c 1 [⟨1, 2, 3⟩] [⟨1, 2, 3⟩] HL.out HS.out (by decide) (by decide)).mono ?_
  rintro _ w4 ⟨rv, rfl, g1, h⟩
  have TX := Lib.hid (show Cells W3 bx (moveV ⟨1, 2, 3⟩) from HX.out)
  have G := Lib.hid (G.out.trans g1)
  have TM := Lib.hid (TM.out.grow g1)
  have HM := Lib.hid (HM.out.grow g1)
  have HT := Lib.hid (HT.out.grow g1)
  have TX := Lib.hid (TX.out.grow g1)
  clear g1
  rcases h.cases with ⟨rfl, _⟩ | ⟨_, k1⟩
  rotate_left
  · exact absurd rfl k1
  clear h
  have m0 := mc0 TM.out _ (Gr.refl _)
  have m1 := mc1 TM.out _ (Gr.refl _)
  have m2 := mc2 TM.out _ (Gr.refl _)
  have m3 := mc3 TM.out _ (Gr.refl _)
  have m4 := mc4 TM.out _ (Gr.refl _)
  have m5 := mc5 TM.out _ (Gr.refl _)
  have m6 := mc6 TM.out _ (Gr.refl _)
  have m7 := mc7 TM.out _ (Gr.refl _)
  have m8 := mc8 TM.out _ (Gr.refl _)
  have m9 := mc9 TM.out _ (Gr.refl _)
  have m10 := mc10 TM.out _ (Gr.refl _)
  have x0 : World.cell? _ ⟨_, 0, none⟩ = some (.int .i64 1) := (TX.out).at 0 rfl
  have x1 : World.cell? _ ⟨_, 1, none⟩ = some (.int .i64 2) := (TX.out).at 1 rfl
  have x2 : World.cell? _ ⟨_, 2, none⟩ = some (.int .i64 3) := (TX.out).at 2 rfl
  go_wp2_with fail
  clear m0 m1 m2 m3 m4 m5 m6 m7 m8 m9 m10
  clear x0 x1 x2
  refine (mv_Valid w4 P M ⟨1, 2, 3⟩ HM.out HF.out HT.out).mono ?_
  rintro _ w5 ⟨rv, rfl, g1, h⟩
  have G := Lib.hid (G.out.trans g1)
  have TM := Lib.hid (TM.out.grow g1)
  have HM := Lib.hid (HM.out.grow g1)
  have HT := Lib.hid (HT.out.grow g1)
  have TX := Lib.hid (TX.out.grow g1)
  clear g1
  rcases h.cases with ⟨rfl, _⟩ | ⟨_, k1⟩
  rotate_left
  · exact absurd ⟨HOK.out, by rw [← HMM.out]; exact ex23Fits q⟩ k1
  clear h
  have m0 := mc0 TM.out _ (Gr.refl _)
  have m1 := mc1 TM.out _ (Gr.refl _)
  have m2 := mc2 TM.out _ (Gr.refl _)
  have m3 := mc3 TM.out _ (Gr.refl _)
  have m4 := mc4 TM.out _ (Gr.refl _)
  have m5 := mc5 TM.out _ (Gr.refl _)
  have m6 := mc6 TM.out _ (Gr.refl _)
  have m7 := mc7 TM.out _ (Gr.refl _)
  have m8 := mc8 TM.out _ (Gr.refl _)
  have m9 := mc9 TM.out _ (Gr.refl _)
  have m10 := mc10 TM.out _ (Gr.refl _)
  have x0 : World.cell? _ ⟨_, 0, none⟩ = some (.int .i64 1) := (TX.out).at 0 rfl
  have x1 : World.cell? _ ⟨_, 1, none⟩ = some (.int .i64 2) := (TX.out).at 1 rfl
  have x2 : World.cell? _ ⟨_, 2, none⟩ = some (.int .i64 3) := (TX.out).at 2 rfl
  go_wp2_with fail
  clear m0 m1 m2 m3 m4 m5 m6 m7 m8 m9 m10
  clear x0 x1 x2
  refine (mv_Text w5 P M ⟨1, 2, 3⟩ HM.out HF.out HT.out).mono ?_
  rintro _ w6 ⟨_, rfl, g1, tx, rfl, hz⟩
  have G := Lib.hid (G.out.trans g1)
  have TM := Lib.hid (TM.out.grow g1)
  have HM := Lib.hid (HM.out.grow g1)
  have HT := Lib.hid (HT.out.grow g1)
  have TX := Lib.hid (TX.out.grow g1)
  clear g1
  obtain rfl : tx = [100, 98, 58, 32, 109, 50, 32, 45, 62, 32, 109, 51] := by rw [← HMM.out] at hz; exact ex23Text q hz
  clear hz
  have m0 := mc0 TM.out _ (Gr.refl _)
  have m1 := mc1 TM.out _ (Gr.refl _)
  have m2 := mc2 TM.out _ (Gr.refl _)
  have m3 := mc3 TM.out _ (Gr.refl _)
  have m4 := mc4 TM.out _ (Gr.refl _)
  have m5 := mc5 TM.out _ (Gr.refl _)
  have m6 := mc6 TM.out _ (Gr.refl _)
  have m7 := mc7 TM.out _ (Gr.refl _)
  have m8 := mc8 TM.out _ (Gr.refl _)
  have m9 := mc9 TM.out _ (Gr.refl _)
  have m10 := mc10 TM.out _ (Gr.refl _)
  have x0 : World.cell? _ ⟨_, 0, none⟩ = some (.int .i64 1) := (TX.out).at 0 rfl
  have x1 : World.cell? _ ⟨_, 1, none⟩ = some (.int .i64 2) := (TX.out).at 1 rfl
  have x2 : World.cell? _ ⟨_, 2, none⟩ = some (.int .i64 3) := (TX.out).at 2 rfl
  go_wp2_with fail
  clear m0 m1 m2 m3 m4 m5 m6 m7 m8 m9 m10
  clear x0 x1 x2
  refine (mv_Link w6 P M ⟨1, 2, 3⟩ HM.out HF.out HT.out).mono ?_
  rintro _ w7 ⟨_, rfl, g1, z, rfl, hz⟩
  have G := Lib.hid (G.out.trans g1)
  have TM := Lib.hid (TM.out.grow g1)
  have HM := Lib.hid (HM.out.grow g1)
  have HT := Lib.hid (HT.out.grow g1)
  have TX := Lib.hid (TX.out.grow g1)
  clear g1
  obtain rfl : z = 1 := by rw [← HMM.out] at hz; exact ex23Val q hz (ex23Link q)
  clear hz
  have m0 := mc0 TM.out _ (Gr.refl _)
  have m1 := mc1 TM.out _ (Gr.refl _)
  have m2 := mc2 TM.out _ (Gr.refl _)
  have m3 := mc3 TM.out _ (Gr.refl _)
  have m4 := mc4 TM.out _ (Gr.refl _)
  have m5 := mc5 TM.out _ (Gr.refl _)
  have m6 := mc6 TM.out _ (Gr.refl _)
  have m7 := mc7 TM.out _ (Gr.refl _)
  have m8 := mc8 TM.out _ (Gr.refl _)
  have m9 := mc9 TM.out _ (Gr.refl _)
  have m10 := mc10 TM.out _ (Gr.refl _)
  have x0 : World.cell? _ ⟨_, 0, none⟩ = some (.int .i64 1) := (TX.out).at 0 rfl
  have x1 : World.cell? _ ⟨_, 1, none⟩ = some (.int .i64 2) := (TX.out).at 1 rfl
  have x2 : World.cell? _ ⟨_, 2, none⟩ = some (.int .i64 3) := (TX.out).at 2 rfl
  go_wp2_with fail
  clear m0 m1 m2 m3 m4 m5 m6 m7 m8 m9 m10
  clear x0 x1 x2
  refine (mv_Use w7 P M ⟨1, 2, 3⟩ HM.out HF.out HT.out).mono ?_
  rintro _ w8 ⟨_, rfl, g1, z, rfl, hz⟩
  have G := Lib.hid (G.out.trans g1)
  have TM := Lib.hid (TM.out.grow g1)
  have HM := Lib.hid (HM.out.grow g1)
  have HT := Lib.hid (HT.out.grow g1)
  have TX := Lib.hid (TX.out.grow g1)
  clear g1
  obtain rfl : z = 1 := by rw [← HMM.out] at hz; exact ex23Val q hz (ex23Use q)
  clear hz
  have m0 := mc0 TM.out _ (Gr.refl _)
  have m1 := mc1 TM.out _ (Gr.refl _)
  have m2 := mc2 TM.out _ (Gr.refl _)
  have m3 := mc3 TM.out _ (Gr.refl _)
  have m4 := mc4 TM.out _ (Gr.refl _)
  have m5 := mc5 TM.out _ (Gr.refl _)
  have m6 := mc6 TM.out _ (Gr.refl _)
  have m7 := mc7 TM.out _ (Gr.refl _)
  have m8 := mc8 TM.out _ (Gr.refl _)
  have m9 := mc9 TM.out _ (Gr.refl _)
  have m10 := mc10 TM.out _ (Gr.refl _)
  have x0 : World.cell? _ ⟨_, 0, none⟩ = some (.int .i64 1) := (TX.out).at 0 rfl
  have x1 : World.cell? _ ⟨_, 1, none⟩ = some (.int .i64 2) := (TX.out).at 1 rfl
  have x2 : World.cell? _ ⟨_, 2, none⟩ = some (.int .i64 3) := (TX.out).at 2 rfl
  go_wp2_with fail
  clear m0 m1 m2 m3 m4 m5 m6 m7 m8 m9 m10
  clear x0 x1 x2
  refine (mv_Duration w8 P M ⟨1, 2, 3⟩ HM.out HF.out HT.out).mono ?_
  rintro _ w9 ⟨_, rfl, g1, z, rfl, hz⟩
  have G := Lib.hid (G.out.trans g1)
  have TM := Lib.hid (TM.out.grow g1)
  have HM := Lib.hid (HM.out.grow g1)
  have HT := Lib.hid (HT.out.grow g1)
  have TX := Lib.hid (TX.out.grow g1)
  clear g1
  obtain rfl : z = 2 := by rw [← HMM.out] at hz; exact ex23Val q hz (ex23Dur q)
  clear hz
  have m0 := mc0 TM.out _ (Gr.refl _)
  have m1 := mc1 TM.out _ (Gr.refl _)
  have m2 := mc2 TM.out _ (Gr.refl _)
  have m3 := mc3 TM.out _ (Gr.refl _)
  have m4 := mc4 TM.out _ (Gr.refl _)
  have m5 := mc5 TM.out _ (Gr.refl _)
  have m6 := mc6 TM.out _ (Gr.refl _)
  have m7 := mc7 TM.out _ (Gr.refl _)
  have m8 := mc8 TM.out _ (Gr.refl _)
  have m9 := mc9 TM.out _ (Gr.refl _)
  have m10 := mc10 TM.out _ (Gr.refl _)
  have x0 : World.cell? _ ⟨_, 0, none⟩ = some (.int .i64 1) := (TX.out).at 0 rfl
  have x1 : World.cell? _ ⟨_, 1, none⟩ = some (.int .i64 2) := (TX.out).at 1 rfl
  have x2 : World.cell? _ ⟨_, 2, none⟩ = some (.int .i64 3) := (TX.out).at 2 rfl
  go_wp2_with fail
  clear m0 m1 m2 m3 m4 m5 m6 m7 m8 m9 m10
  clear x0 x1 x2
  refine (mv_Source w9 P M ⟨1, 2, 3⟩ HM.out HF.out HT.out).mono ?_
  rintro _ w10 ⟨_, rfl, g1, z, rfl, hz⟩
  have G := Lib.hid (G.out.trans g1)
  have TM := Lib.hid (TM.out.grow g1)
  have HM := Lib.hid (HM.out.grow g1)
  have HT := Lib.hid (HT.out.grow g1)
  have TX := Lib.hid (TX.out.grow g1)
  clear g1
  obtain rfl : z = 2 := by rw [← HMM.out] at hz; exact ex23Val q hz (ex23Src q)
  clear hz
  have x0 : World.cell? _ ⟨_, 0, none⟩ = some (.int .i64 1) := (TX.out).at 0 rfl
  have x1 : World.cell? _ ⟨_, 1, none⟩ = some (.int .i64 2) := (TX.out).at 1 rfl
  have x2 : World.cell? _ ⟨_, 2, none⟩ = some (.int .i64 3) := (TX.out).at 2 rfl
  go_wp2_with fail
  clear x0 x1 x2
  refine (mv_Compare w10 ⟨1, 2, 3⟩ ⟨0, 0, 0⟩).mono ?_
  rintro _ w11 ⟨_, rfl, g1, rfl⟩
  have G := Lib.hid (G.out.trans g1)
  have TM := Lib.hid (TM.out.grow g1)
  have HM := Lib.hid (HM.out.grow g1)
  have HT := Lib.hid (HT.out.grow g1)
  have TX := Lib.hid (TX.out.grow g1)
  clear g1
  rw [show cmpMv ⟨1, 2, 3⟩ ⟨0, 0, 0⟩ = 1 from rfl]
  go_wp2_with fail
  go_ret
  exact ⟨_, rfl, G.out, rfl⟩
end Go.Proofs.YtdekicijinmakaaGreatDoor

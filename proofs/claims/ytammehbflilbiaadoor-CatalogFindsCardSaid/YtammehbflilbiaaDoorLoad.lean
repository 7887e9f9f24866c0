/-
  catalog.Load, catalog.Fits.
-/
import Derived.Test.YtammehbflilbiaaDoorCatJ
namespace Go.Proofs.YtammehbflilbiaaDoor
open Go.RowKit Go.Lib Lex
set_option linter.unusedVariables false
set_option linter.unusedSimpArgs false

theorem contains_int (w : World) (p : Option Addr) (c : Nat) (l : List Int) (x : Int) (hl : IntL w (.slice p l.length c) l) (hb : l.length ≤ 1000000) :
    Calls Tryd.prog 39 #[.slice p l.length c, .int .i64 x] w fun e w' => e = .returned (.bool (l.contains x)) ∧ w' = w := by
  by_cases h0 : l.length = 0
  · have hn : l = [] := List.eq_nil_of_length_eq_zero h0
    subst hn
    exact Tryd.slices_Contains_int_empty p c x w
  · obtain ⟨b, o, rfl, hc⟩ := SlV.cells hl (by omega)
    have h := Tryd.slices_Contains_int b o l.length c l x w (Nat.le_refl _) (by omega) (int_cells hl rfl)
    rw [List.take_length] at h
    exact h
def loadStep (n : Int) (s : Int) (x : ItemM) : Int := if x.on.contains n = true then wrap64 (s + x.load) else s
/-- the load of a machine at the beginning, as 64-bit numbers add -/
def loadW (M : Mdl) (n : Int) : Int := M.items.foldl (loadStep n) 0
theorem foldl_take {α β : Type} (f : β → α → β) (l : List α) (a : β) {k : Nat} {x : α} (h : l[k]? = some x) : (l.take (k + 1)).foldl f a = f ((l.take k).foldl f a) x := by
  rw [List.take_add_one, h, List.foldl_append]; rfl
set_option maxRecDepth 100000 in
set_option maxHeartbeats 800000 in
theorem cat_Load (w : World) (P : Ptrs) (M : Mdl) (n : Int) (hm : MdlAt w P M) (hf : Few M) :
    Calls Tryd.prog 18 #[.agg (mcells P M), .int .i64 n] w (Ret w fun r _ => r = .int .i64 (loadW M n)) := by
  have HF := Lib.hid hf
  clear hf
  have HM := Lib.hid hm
  have B := Cells.new w (mcells P M) 33
  clear hm
  have m0 := mc0 B.2 _ (Gr.refl _)
  have m1 := mc1 B.2 _ (Gr.refl _)
  have m2 := mc2 B.2 _ (Gr.refl _)
  have m3 := mc3 B.2 _ (Gr.refl _)
  have m4 := mc4 B.2 _ (Gr.refl _)
  have m5 := mc5 B.2 _ (Gr.refl _)
  have m6 := mc6 B.2 _ (Gr.refl _)
  have m7 := mc7 B.2 _ (Gr.refl _)
  have m8 := mc8 B.2 _ (Gr.refl _)
  have m9 := mc9 B.2 _ (Gr.refl _)
  have m10 := mc10 B.2 _ (Gr.refl _)
  unfold mcells at B m0 m1 m2 m3 m4 m5 m6 m7 m8 m9 m10 ⊢
  go_enter Tryd.func18, Tryd.ntmps18
  go_wp2_with fail
  clear m0 m1 m2 m3 m4 m5 m6 m7 m8 m9 m10
  generalize w.heap.size = bm at B ⊢
  generalize w.alloc _ = W at B ⊢
  obtain ⟨g0, tm⟩ := B
  have TM := Lib.hid (show Cells W bm (mcells P M) from tm)
  have G := Lib.hid g0
  have HM := Lib.hid (HM.out.grow g0)
  clear g0 tm
  have m0 := mc0 TM.out _ (Gr.refl _)
  have m1 := mc1 TM.out _ (Gr.refl _)
  have m2 := mc2 TM.out _ (Gr.refl _)
  have m3 := mc3 TM.out _ (Gr.refl _)
  have m4 := mc4 TM.out _ (Gr.refl _)
  have m5 := mc5 TM.out _ (Gr.refl _)
  have m6 := mc6 TM.out _ (Gr.refl _)
  have m7 := mc7 TM.out _ (Gr.refl _)
  have m8 := mc8 TM.out _ (Gr.refl _)
  have m9 := mc9 TM.out _ (Gr.refl _)
  have m10 := mc10 TM.out _ (Gr.refl _)
  clear m0 m1 m2 m3 m4 m5 m6 m7 m8 m9 m10
  go_loopw [5, 11] (fun v i w1 => ∃ k : Nat, v = .int .i64 ((M.items.take k).foldl (loadStep n) 0) ∧ i = .int .i64 (k : Int) ∧ k ≤ M.items.length ∧ Gr W w1) (fun _ i _ => M.items.length - (RowKit.intOf i).toNat)
  case atStart => exact ⟨0, rfl, rfl, Nat.zero_le _, Gr.refl _⟩
  case round =>
    obtain ⟨k, rfl, rfl, hk, hg⟩ := hrel
    have G := Lib.hid (G.out.trans hg)
    have HM := Lib.hid (HM.out.grow hg)
    have GL := Lib.hid hg
    clear hg
    have hbig := HF.out.1
    by_cases hlt : k < M.items.length
    · have hlt' : (k : Int) < (M.items.length : Int) := by omega
      obtain ⟨b, o, x, hpp, hx, hc⟩ := item_at HM.out.items rfl hlt
      have HX := Lib.hid hx
      have hon := HM.out.ons x (List.mem_of_getElem? hx)
      have hol := (HF.out.2.2.2.2.2.1 x (List.mem_of_getElem? hx)).2
      have hstep := foldl_take (loadStep n) M.items 0 hx
      obtain ⟨c0, c1, c2, c3, c4, c5, c6⟩ := hc wr (Gr.refl _)
      have B := Cells.new wr (itemV x) 52
      have d3 := B.2.at 3 rfl
      have d6 := B.2.at 6 rfl
      have HO := Lib.hid (SlL.grow hon B.1)
      have HS := Lib.hid hstep
      have GB := Lib.hid B.1
      have HB := Lib.hid B.2
      clear hx hc B hon hstep
      unfold itemV at d3 d6 HO HB GB
      rw [hpp]
      go_wp2_with fail
      clear c0 c1 c2 c3 c4 c5 c6 d3 d6
      generalize wr.heap.size = b2 at HB ⊢
      generalize wr.alloc _ = W2 at HB HO GB ⊢
      refine (contains_int W2 x.onP x.onC x.on n HO.out (by omega)).mono ?_
      rintro _ _ ⟨rfl, rfl⟩
      have d3 := HB.out.at 3 rfl
      obtain ⟨t, ht⟩ : ∃ t, x.on.contains n = t := ⟨_, rfl⟩
      have HS := Lib.hid (show (M.items.take (k + 1)).foldl (loadStep n) 0 = if t = true then wrap64 ((M.items.take k).foldl (loadStep n) 0 + x.load) else (M.items.take k).foldl (loadStep n) 0 by
        rw [HS.out]; unfold loadStep; rw [ht])
      rw [ht]
      clear ht
      cases t
      · go_wp2_with fail
        exact ⟨⟨k + 1, by rw [HS.out]; simp, by go_num, by omega, GL.out.trans GB.out⟩, by simp [RowKit.intOf]; omega⟩
      · go_wp2_with fail
        exact ⟨⟨k + 1, by rw [HS.out]; simp, by go_num, by omega, GL.out.trans GB.out⟩, by simp [RowKit.intOf]; omega⟩
    · obtain rfl : k = M.items.length := by omega
      go_wp2_with fail
      go_ret
      exact ⟨_, rfl, G.out, by unfold loadW; rw [List.take_length]; rfl⟩
/-- no machine has more load than capacity -/
def FitsM (M : Mdl) : Prop := ∀ (i : Nat) (x : MachM), M.machs[i]? = some x → loadW M ((i : Int) + 1) ≤ x.cap
set_option maxRecDepth 100000 in
set_option maxHeartbeats 800000 in
theorem cat_Fits (w : World) (P : Ptrs) (M : Mdl) (hm : MdlAt w P M) (hf : Few M) :
    Calls Tryd.prog 19 #[.agg (mcells P M)] w (Ret w fun r _ => Tells (FitsM M) r) := by
  have HF := Lib.hid hf
  clear hf
  have HM := Lib.hid hm
  have B := Cells.new w (mcells P M) 33
  clear hm
  have m0 := mc0 B.2 _ (Gr.refl _)
  have m1 := mc1 B.2 _ (Gr.refl _)
  have m2 := mc2 B.2 _ (Gr.refl _)
  have m3 := mc3 B.2 _ (Gr.refl _)
  have m4 := mc4 B.2 _ (Gr.refl _)
  have m5 := mc5 B.2 _ (Gr.refl _)
  have m6 := mc6 B.2 _ (Gr.refl _)
  have m7 := mc7 B.2 _ (Gr.refl _)
  have m8 := mc8 B.2 _ (Gr.refl _)
  have m9 := mc9 B.2 _ (Gr.refl _)
  have m10 := mc10 B.2 _ (Gr.refl _)
  unfold mcells at B m0 m1 m2 m3 m4 m5 m6 m7 m8 m9 m10 ⊢
  go_enter Tryd.func19, Tryd.ntmps19
  go_wp2_with fail
  clear m0 m1 m2 m3 m4 m5 m6 m7 m8 m9 m10
  generalize w.heap.size = bm at B ⊢
  generalize w.alloc _ = W at B ⊢
  obtain ⟨g0, tm⟩ := B
  have TM := Lib.hid (show Cells W bm (mcells P M) from tm)
  have G := Lib.hid g0
  have HM := Lib.hid (HM.out.grow g0)
  clear g0 tm
  have m0 := mc0 TM.out _ (Gr.refl _)
  have m1 := mc1 TM.out _ (Gr.refl _)
  have m2 := mc2 TM.out _ (Gr.refl _)
  have m3 := mc3 TM.out _ (Gr.refl _)
  have m4 := mc4 TM.out _ (Gr.refl _)
  have m5 := mc5 TM.out _ (Gr.refl _)
  have m6 := mc6 TM.out _ (Gr.refl _)
  have m7 := mc7 TM.out _ (Gr.refl _)
  have m8 := mc8 TM.out _ (Gr.refl _)
  have m9 := mc9 TM.out _ (Gr.refl _)
  have m10 := mc10 TM.out _ (Gr.refl _)
  clear m0 m1 m2 m3 m4 m5 m6 m7 m8 m9 m10
  obtain ⟨p0, c0, p1, c1, p2, c2, p3, c3, p4, c4, p5, c5, p6, c6⟩ := P
  try dsimp only
  go_loopw [8] (fun i w1 => ∃ k : Nat, i = .int .i64 (k : Int) ∧ k ≤ M.machs.length ∧ (∀ (i : Nat) (x : MachM), i < k → M.machs[i]? = some x → loadW M ((i : Int) + 1) ≤ x.cap) ∧ Gr W w1) (fun i _ => M.machs.length - (RowKit.intOf i).toNat)
  case atStart => exact ⟨0, rfl, Nat.zero_le _, fun i x hi => by omega, Gr.refl _⟩
  case round =>
    obtain ⟨k, rfl, hk, hp, hg⟩ := hrel
    have HP := Lib.hid hp
    have GL := Lib.hid hg
    clear hg hp
    have hbig := HF.out.1
    by_cases hlt : k < M.machs.length
    · have hlt' : (k : Int) < (M.machs.length : Int) := by omega
      obtain ⟨b, o, x, rfl, hx, hc⟩ := mach_at (HM.out.grow GL.out).machs rfl hlt
      have HX := Lib.hid hx
      obtain ⟨y0, y1, y2⟩ := hc wr (Gr.refl _)
      have hw1 : IntKind.i64.wrap ((k : Int) + 1) = (k : Int) + 1 := by rw [IntKind.wrap_i64]; omega
      have B := Cells.new wr #[.string ⟨x.name.toArray⟩, .int .i64 x.rack, .int .i64 x.cap] 49
      clear hx hc
      have e2 : ∀ w', Gr _ w' → w'.cell? ⟨_, 2, none⟩ = some (.int .i64 x.cap) := B.2.c 2 rfl
      go_wp2_with fail
      clear y0 y1 y2
      generalize wr.heap.size = b2 at B e2 ⊢
      generalize wr.alloc _ = W2 at B e2 ⊢
      have GL := Lib.hid (GL.out.trans B.1)
      have HM := Lib.hid (HM.out.grow GL.out)
      have TM := Lib.hid (TM.out.grow GL.out)
      have G := Lib.hid (G.out.trans GL.out)
      clear B
      have g0 : Gr W2 W2.drew := (Gr.refl _).drew
      have m0 := mc0 TM.out
      have m1 := mc1 TM.out
      have m2 := mc2 TM.out
      have m3 := mc3 TM.out
      have m4 := mc4 TM.out
      have m5 := mc5 TM.out
      have m6 := mc6 TM.out
      have m7 := mc7 TM.out
      have m8 := mc8 TM.out
      have m9 := mc9 TM.out
      have m10 := mc10 TM.out
      try dsimp only at m0 m1 m2 m3 m4 m5 m6 m7 m8 m9 m10
      refine wp_region_fast [(0, true), (1, true), (2, true), (4, true), (5, true), (3, false), (6, true)] (by kernel_rfl) (by kernel_rfl) rfl (by kernel_rfl) (fun _ _ d _ _ h => by cases d <;> exact h) ?_
      repeat (refine wpE_readB (v := ?_) g0 rfl rfl (fun w' hg => ?_) (fun K hK => ?_); rotate_left; (go_simp; rfl); go_simp; refine hK _ _ ?_; clear hK K)
      refine wpE_fn (args := ?_) rfl rfl rfl rfl rfl rfl (by kernel_rfl) (by kernel_rfl) ?_ (fun K hK => ?_)
      rotate_left
      · go_simp; rfl
      refine (cat_Load _ _ M _ (HM.out.grow g0) HF.out).mono ?_
      rintro _ w4 ⟨_, rfl, g4, rfl⟩
      refine ⟨_, rfl, g4, ?_⟩
      go_simp
      refine hK _ _ ?_
      clear hK K
      replace g0 := g0.trans g4
      by_cases hf : x.cap < loadW M ((k : Int) + 1)
      · have HC := Lib.hid hf
        repeat (refine wpE_readB (v := ?_) g0 rfl rfl (fun w' hg => ?_) (fun K hK => ?_); rotate_left; (go_simp; rfl); go_simp; refine hK _ _ ?_; clear hK K)
        refine wpE_nil ?_
        have G := Lib.hid (G.out.trans g0)
        clear m0 m1 m2 m3 m4 m5 m6 m7 m8 m9 m10 e2 g0 g4
        go_wp2_with fail
        try rw [Exit.noGoto_ret]
        go_ret
        exact ⟨_, rfl, G.out, Tells.no fun h => by have := h k x HX.out; have := HC.out; omega⟩
      · have HC := Lib.hid hf
        repeat (refine wpE_readB (v := ?_) g0 rfl rfl (fun w' hg => ?_) (fun K hK => ?_); rotate_left; (go_simp; rfl); go_simp; refine hK _ _ ?_; clear hK K)
        refine wpE_nil ?_
        have GL := Lib.hid (GL.out.trans g0)
        clear m0 m1 m2 m3 m4 m5 m6 m7 m8 m9 m10 e2 g0 g4 hf
        have hf : loadW M ((k : Int) + 1) ≤ x.cap := by have := HC.out; omega
        go_wp2_with fail
        refine ⟨⟨k + 1, by go_num, by omega, fun i y hi hy => ?_, GL.out⟩, by simp [RowKit.intOf]; omega⟩
        rcases Nat.lt_or_ge i k with h | h
        · exact HP.out i y h hy
        · obtain rfl : i = k := by omega
          obtain rfl : y = x := by have := hy.symm.trans HX.out; simpa using this
          have := HC.out; omega
    · obtain rfl : k = M.machs.length := by omega
      go_wp2_with fail
      go_ret
      exact ⟨_, rfl, G.out.trans GL.out, Tells.yes fun i x hx => HP.out i x (List.getElem?_eq_some_iff.1 hx).1 hx⟩
end Go.Proofs.YtammehbflilbiaaDoor

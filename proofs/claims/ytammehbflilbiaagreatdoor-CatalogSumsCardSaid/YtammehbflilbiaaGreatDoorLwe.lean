/-
  The law CatalogSums.
-/
import Derived.Test.YtammehbflilbiaaGreatDoorLwd
namespace Go.Proofs.YtammehbflilbiaaGreatDoor
open Go.RowKit Go.Lib Lex
set_option linter.unusedVariables false
set_option linter.unusedSimpArgs false

theorem mach_info : (Tryz.prog.info? 39).map (fun i => (i.zero, i.size, i.bytes)) = some (some (.agg #[.string ⟨#[]⟩, .int .i64 0, .int .i64 0]), 3, 32) := by kernel_rfl
theorem encMach_one : ∀ x, ∀ u ∈ encMach x, u.oneCell' = true := fun x u hu => by
  simp [encMach] at hu; rcases hu with rfl | rfl | rfl <;> rfl
set_option maxRecDepth 100000 in
set_option maxHeartbeats 1600000 in
theorem law_CatalogSums (w : World) (ht : Tab w) (P : Ptrs) (M : Mdl) (hm : MdlAt w P M) (hr : MdlR M) :
    Calls Tryz.prog 5 #[.agg (mcells P M)] w (Ret w fun r _ => r = .bool true) := by
  have HT := Lib.hid ht
  have HM0 := Lib.hid hm
  clear ht hr
  have HM := Lib.hid hm
  have B := Cells.new w (mcells P M) 29
  clear hm
  have m0 := mc0 B.2 _ (Gr.refl _)
  have m1 := mc1 B.2 _ (Gr.refl _)
  have m2 := mc2 B.2 _ (Gr.refl _)
  have m3 := mc3 B.2 _ (Gr.refl _)
  have m4 := mc4 B.2 _ (Gr.refl _)
  have m5 := mc5 B.2 _ (Gr.refl _)
  have m6 := mc6 B.2 _ (Gr.refl _)
  have m7 := mc7 B.2 _ (Gr.refl _)
  have m8 := mc8 B.2 _ (Gr.refl _)
  have m9 := mc9 B.2 _ (Gr.refl _)
  have m10 := mc10 B.2 _ (Gr.refl _)
  unfold mcells at B m0 m1 m2 m3 m4 m5 m6 m7 m8 m9 m10 ⊢
  go_enter Tryz.func5, Tryz.ntmps5
  go_wp2_with fail
  clear m0 m1 m2 m3 m4 m5 m6 m7 m8 m9 m10
  generalize hbm : w.heap.size = bm at B ⊢
  have HBM := Lib.hid (show w.heap.size ≤ bm from Nat.le_of_eq hbm)
  clear hbm
  generalize w.alloc _ = W at B ⊢
  obtain ⟨g0, tm⟩ := B
  have TM := Lib.hid (show Cells W bm (mcells P M) from tm)
  have G := Lib.hid g0
  have HM := Lib.hid (HM.out.grow g0)
  clear g0 tm
  have m0 := mc0 TM.out _ (Gr.refl _)
  have m1 := mc1 TM.out _ (Gr.refl _)
  have m2 := mc2 TM.out _ (Gr.refl _)
  have m3 := mc3 TM.out _ (Gr.refl _)
  have m4 := mc4 TM.out _ (Gr.refl _)
  have m5 := mc5 TM.out _ (Gr.refl _)
  have m6 := mc6 TM.out _ (Gr.refl _)
  have m7 := mc7 TM.out _ (Gr.refl _)
  have m8 := mc8 TM.out _ (Gr.refl _)
  have m9 := mc9 TM.out _ (Gr.refl _)
  have m10 := mc10 TM.out _ (Gr.refl _)
  have HT := Lib.hid (HT.out.grow G.out)
  clear m0 m1 m2 m3 m4 m5 m6 m7 m8 m9 m10
  refine (law_awake W HT.out).mono ?_
  rintro _ w1 ⟨_, rfl, g1, rfl⟩
  have G := Lib.hid (G.out.trans g1)
  have TM := Lib.hid (TM.out.grow g1)
  have HM := Lib.hid (HM.out.grow g1)
  have HT := Lib.hid (HT.out.grow g1)
  clear g1
  have m0 := mc0 TM.out _ (Gr.refl _)
  have m1 := mc1 TM.out _ (Gr.refl _)
  have m2 := mc2 TM.out _ (Gr.refl _)
  have m3 := mc3 TM.out _ (Gr.refl _)
  have m4 := mc4 TM.out _ (Gr.refl _)
  have m5 := mc5 TM.out _ (Gr.refl _)
  have m6 := mc6 TM.out _ (Gr.refl _)
  have m7 := mc7 TM.out _ (Gr.refl _)
  have m8 := mc8 TM.out _ (Gr.refl _)
  have m9 := mc9 TM.out _ (Gr.refl _)
  have m10 := mc10 TM.out _ (Gr.refl _)
  go_wp2_with fail
  clear m0 m1 m2 m3 m4 m5 m6 m7 m8 m9 m10
  refine (ref_Few _ P M HM.out).mono ?_
  rintro _ w2 ⟨r2, rfl, g2, h⟩
  have G := Lib.hid (G.out.trans g2)
  have TM := Lib.hid (TM.out.grow g2)
  have HM := Lib.hid (HM.out.grow g2)
  have HT := Lib.hid (HT.out.grow g2)
  clear g2
  rcases h.cases with ⟨rfl, k1⟩ | ⟨rfl, k1⟩
  · have HF := Lib.hid k1
    clear h k1
    have m0 := mc0 TM.out _ (Gr.refl _)
    have m1 := mc1 TM.out _ (Gr.refl _)
    have m2 := mc2 TM.out _ (Gr.refl _)
    have m3 := mc3 TM.out _ (Gr.refl _)
    have m4 := mc4 TM.out _ (Gr.refl _)
    have m5 := mc5 TM.out _ (Gr.refl _)
    have m6 := mc6 TM.out _ (Gr.refl _)
    have m7 := mc7 TM.out _ (Gr.refl _)
    have m8 := mc8 TM.out _ (Gr.refl _)
    have m9 := mc9 TM.out _ (Gr.refl _)
    have m10 := mc10 TM.out _ (Gr.refl _)
    go_wp2_with fail
    clear m0 m1 m2 m3 m4 m5 m6 m7 m8 m9 m10
    refine (ref_Valid15 _ P M HM.out HF.out).mono ?_
    rintro _ w3 ⟨r3, rfl, g3, h⟩
    have G := Lib.hid (G.out.trans g3)
    have TM := Lib.hid (TM.out.grow g3)
    have HM := Lib.hid (HM.out.grow g3)
    have HT := Lib.hid (HT.out.grow g3)
    clear g3
    rcases h.cases with ⟨rfl, k1⟩ | ⟨rfl, k1⟩
    · have HV := Lib.hid k1
      clear h k1
      have b0 := OwnL.made0 (sz := 3) (enc := encMach) w3 w3.heap.size 39 (Nat.le_refl _)
      have gb := (Gr.refl w3).alloc (.cells #[] 39)
      have m3 := mc3 TM.out _ gb
      go_wp2_with (at_builtin; refine Hold.hold ?_)
      clear m3
      have hmz : 1 ≤ M.machs.length ∧ M.machs.length ≤ 16 := HV.out.1.2.2.2.1
      have HB := Lib.hid b0
      generalize hw4 : w3.alloc (.cells #[] 39) = w4 at HB gb ⊢
      have hb0 : w3.heap.size = w3.heap.size := rfl
      have HMg := Lib.hid (HM.out.grow gb)
      generalize Value.slice (some ⟨w3.heap.size, 0, none⟩) 0 0 = v0 at HB ⊢
      clear b0
      refine Hold.go ?_
      refine wpList_appendL rfl _ _ 24 39 _ 32 rfl Tryz.underlying24 mach_info rfl (by decide) encMach_len encMach_one w3.heap.size v0 (.slice P.p3 M.machs.length P.c3) [] M.machs rfl HB.out rfl HMg.out.machs (by simp; omega) (by simp; omega) gb.size ?_
      intro v1 w5 ho k5
      have g5 := HB.out.gr gb k5
      rw [List.nil_append] at ho
      obtain ⟨g, cap, rfl, hgb, hgs, hgc, hgm⟩ := OwnL.made ho (by omega)
      have HO := Lib.hid (show OwnL _ _ _ _ _ _ (machUp M 0) from by rw [machUp_zero]; exact ho)
      have GL := Lib.hid g5
      have HLB := Lib.hid (show bm < w3.heap.size from TM.out.lt)
      have HG := Lib.hid (show w3.heap.size ≤ g ∧ M.machs.length ≤ cap ∧ cap ≤ 9223372036854775807 from ⟨hgb, hgc, hgm⟩)
      clear ho g5 HMg HB hw4 hb0 k5 gb hgb hgs hgc hgm
      go_wp2_with fail
      go_loopw [3, 6] (fun v i w9 => ∃ k : Nat, v = .int .i64 (sumTo (fun i => loadS M.items ((i : Int) + 1)) k) ∧ i = .int .i64 (k : Int) ∧ k ≤ M.machs.length ∧ OwnL w9 w3.heap.size 39 3 encMach (.slice (some ⟨g, 0, none⟩) M.machs.length cap) (machUp M k) ∧ Gr w3 w9) (fun _ i _ => M.machs.length - (RowKit.intOf i).toNat)
      case atStart => exact ⟨0, rfl, rfl, Nat.zero_le _, HO.out, GL.out⟩
      case round =>
        clear HO GL
        obtain ⟨k, rfl, rfl, hk, ho, hg⟩ := hrel
        have HO := Lib.hid ho
        have GL := Lib.hid hg
        clear ho hg
        by_cases hlt : k < M.machs.length
        · have hlt' : (k : Int) < (M.machs.length : Int) := by omega
          have hw1 : IntKind.i64.wrap ((k : Int) + 1) = (k : Int) + 1 := by rw [IntKind.wrap_i64]; omega
          have TMx := Lib.hid (TM.out.grow GL.out)
          have m0 := mc0 TMx.out _ (Gr.refl _)
          have m1 := mc1 TMx.out _ (Gr.refl _)
          have m2 := mc2 TMx.out _ (Gr.refl _)
          have m3 := mc3 TMx.out _ (Gr.refl _)
          have m4 := mc4 TMx.out _ (Gr.refl _)
          have m5 := mc5 TMx.out _ (Gr.refl _)
          have m6 := mc6 TMx.out _ (Gr.refl _)
          have m7 := mc7 TMx.out _ (Gr.refl _)
          have m8 := mc8 TMx.out _ (Gr.refl _)
          have m9 := mc9 TMx.out _ (Gr.refl _)
          have m10 := mc10 TMx.out _ (Gr.refl _)
          go_wp2_with fail
          clear m0 m1 m2 m3 m4 m5 m6 m7 m8 m9 m10
          refine (cat_Load _ P M _ (HM.out.grow GL.out) HF.out).mono ?_
          rintro _ w6 ⟨_, rfl, g6, rfl⟩
          rw [loadW_eq HV.out]
          have GL := Lib.hid (GL.out.trans g6)
          have HO := Lib.hid (HO.out.grow g6)
          clear g6 TMx
          obtain ⟨x, hx⟩ : ∃ x, M.machs[k]? = some x := ⟨_, List.getElem?_eq_getElem hlt⟩
          have hxu := machUp_get (k := k) hx
          rw [if_neg (by omega)] at hxu
          have hset := machUp_set hx
          obtain ⟨q1, q2, q3, q4, q5⟩ := OwnL.putS encMach_len HO.out { x with cap := loadS M.items ((k : Int) + 1) } 2 (.int .i64 (loadS M.items ((k : Int) + 1))) hxu (by decide) rfl
          rw [hset] at q5
          have q3 : w6.cell? ⟨g, k * 3 + 2, none⟩ = some (.int .i64 x.cap) := q3
          have hlb := loadS_bound (load_bound HV.out) ((k : Int) + 1)
          have hsb := sumTo_bound (f := fun i => loadS M.items ((i : Int) + 1)) k (fun i _ => loadS_bound (load_bound HV.out) ((i : Int) + 1))
          have hil := HV.out.2.1
          have hsb2 := mul_bound (a := (k : Int)) (b := 1048576 * (M.items.length : Int)) (A := 16) (B := 8388608) (by omega) (by omega) (by omega) (by omega)
          have hw2 : IntKind.i64.wrap (sumTo (fun i => loadS M.items ((i : Int) + 1)) k + loadS M.items ((k : Int) + 1)) = sumTo (fun i => loadS M.items ((i : Int) + 1)) k + loadS M.items ((k : Int) + 1) := by rw [IntKind.wrap_i64]; omega
          have HQ := Lib.hid q5
          have GQ := Lib.hid (GL.out.set (b := g) (i := k * 3 + 2) (by omega) (.int .i64 (loadS M.items ((k : Int) + 1))))
          clear hxu hset q1 q2 q5 hlb hsb hsb2 hil hx
          have hzz := HG.out
          go_wp2_with fail
          exact ⟨⟨k + 1, rfl, by go_num, by omega, HQ.out, GQ.out⟩, by simp [RowKit.intOf]; omega⟩
        · obtain rfl : k = M.machs.length := by omega
          rw [have_want M M.items (fun x hx => (HV.out.2.2.2.2.1 x hx).2.1)]
          have TM := Lib.hid (TM.out.grow GL.out)
          have hfew := HF.out.1
          go_wp2_with fail
          clear hlt hk
          generalize hwr1 : wr = W1 at HO GL TM ⊢
          clear hwr1
          go_loopw [4, 8] (fun v i w9 => ∃ k : Nat, v = .int .i64 (wantS (M.items.take k)) ∧ i = .int .i64 (k : Int) ∧ k ≤ M.items.length ∧ Gr W1 w9) (fun _ i _ => M.items.length - (RowKit.intOf i).toNat)
          case atStart => exact ⟨0, rfl, rfl, Nat.zero_le _, Gr.refl _⟩
          case round =>
            obtain ⟨k, rfl, rfl, hk, hg⟩ := hrel
            have GK := Lib.hid hg
            clear hg
            have TMx := Lib.hid (TM.out.grow GK.out)
            have m5 := mc5 TMx.out _ (Gr.refl _)
            by_cases hlt : k < M.items.length
            · have hlt' : (k : Int) < (M.items.length : Int) := by omega
              obtain ⟨b, o, x, hpp, hx, hc⟩ := item_at (HM.out.grow (GL.out.trans GK.out)).items rfl hlt
              have hin := List.mem_of_getElem? hx
              have hlb := load_bound HV.out x hin
              have hol := (HF.out.2.2.2.2.2.1 x hin).2
              have hst := wantS_take hx
              have hwb := wantS_bound (l := M.items.take k) (fun y hy => ⟨load_bound HV.out y (List.mem_of_mem_take hy), (HF.out.2.2.2.2.2.1 y (List.mem_of_mem_take hy)).2⟩)
              rw [List.length_take, Nat.min_eq_left (by omega)] at hwb
              have hmb := mul_bound hlb.1 hlb.2 (show (0 : Int) ≤ (x.on.length : Int) by omega) (show (x.on.length : Int) ≤ 25 by omega)
              have hw1 : IntKind.i64.wrap (x.load * (x.on.length : Int)) = x.load * (x.on.length : Int) := by rw [IntKind.wrap_i64]; omega
              have hw2 : IntKind.i64.wrap (wantS (M.items.take k) + x.load * (x.on.length : Int)) = wantS (M.items.take k) + x.load * (x.on.length : Int) := by rw [IntKind.wrap_i64]; omega
              have HST := Lib.hid hst
              have c3 := fun w' g => (hc w' g).2.2.2.1
              have c6 := fun w' g => (hc w' g).2.2.2.2.2.2
              have HPP := Lib.hid hpp
              clear hx hin hlb hol hst hwb hmb hc hpp
              go_wp2_with fail
              clear m5
              have m5 := mc5 TMx.out
              rw [HPP.out] at m5
              have g0 : Gr wr wr.drew := (Gr.refl _).drew
              refine wp_region_fast [(0, true), (1, true), (2, true), (3, true), (4, true), (5, true), (6, true), (7, true), (8, true), (9, true), (10, true), (11, true), (12, true), (13, true), (14, true), (15, true), (16, true)] (by kernel_rfl) (by kernel_rfl) rfl (by kernel_rfl) (fun _ _ d _ _ h => by cases d <;> exact h) ?_
              repeat (refine wpE_readB (v := ?_) g0 rfl rfl (fun w' hg => ?_) (fun K hK => ?_); rotate_left; (go_simp; rfl); go_simp; refine hK _ _ ?_; clear hK K)
              refine wpE_nil ?_
              clear m5 c3 c6
              go_wp2_with fail
              exact ⟨⟨k + 1, by rw [HST.out], by go_num, by omega, GK.out.trans g0⟩, by simp [RowKit.intOf]; omega⟩
            · obtain rfl : k = M.items.length := by omega
              rw [List.take_length]
              have hml : (withMachs M).machs.length = M.machs.length := machUp_len M _
              have HOx := HO.out.grow GK.out
              have hlt3 := HG.out.1
              have hbw := TM.out.lt
              have hne : (Value.slice (some ⟨g, 0, none⟩) M.machs.length cap).ownBlock ≠ some bm := fun e => by
                have e : some g = some bm := e
                injection e with e
                have := HLB.out
                omega
              have t2 := TMx.out.set 3 (.slice (some ⟨g, 0, none⟩) M.machs.length cap)
              unfold mcells at t2
              simp only [List.setIfInBounds_toArray, List.set_cons_succ, List.set_cons_zero] at t2
              have gV := ((G.out.trans (GL.out.trans GK.out)).set (b := bm) (i := 3) (by have := HBM.out; omega) (.slice (some ⟨g, 0, none⟩) M.machs.length cap))
              have ho2 := HOx.other (i := 3) (u := .slice (some ⟨g, 0, none⟩) M.machs.length cap) hne
              have HV2 := Lib.hid (show MdlAt (wr.setCell ⟨bm, 3, none⟩ (.slice (some ⟨g, 0, none⟩) M.machs.length cap)) ⟨P.p0, P.c0, P.p1, P.c1, P.p2, P.c2, some ⟨g, 0, none⟩, cap, P.p4, P.c4, P.p5, P.c5, P.p6, P.c6⟩ (withMachs M) from by
                have h := HM0.out.grow gV
                have hs := ho2.read
                refine ⟨h.sites, h.feeds, h.racks, ?_, h.links, h.items, h.rules, h.ons, h.mss, ?_, h.onb, h.msb⟩
                · rw [hml]; exact hs
                · have hb := h.big; rw [hml]; exact hb)
              have GV := Lib.hid gV
              have y0 := t2.at 0 rfl
              have y1 := t2.at 1 rfl
              have y2 := t2.at 2 rfl
              have y3 := t2.at 3 rfl
              have y4 := t2.at 4 rfl
              have y5 := t2.at 5 rfl
              have y6 := t2.at 6 rfl
              have y7 := t2.at 7 rfl
              have y8 := t2.at 8 rfl
              have y9 := t2.at 9 rfl
              have y10 := t2.at 10 rfl
              have m3 := mc3 TMx.out _ (Gr.refl _)
              have f3 := Cells.f TMx.out 3
              clear HOx t2 gV ho2 hne hlt3 hbw
              go_wp2_with fail
              clear y0 y1 y2 y3 y4 y5 y6 y7 y8 y9 y10 m3 f3 m5
              have hcall := cat_Fits _ _ _ HV2.out (withMachs_few HF.out)
              unfold mcells at hcall
              rw [hml] at hcall
              refine hcall.mono ?_
              clear hcall
              rintro _ w8 ⟨r8, rfl, g8, h8⟩
              rcases h8.cases with ⟨rfl, _⟩ | ⟨_, k1⟩
              rotate_left
              · exact absurd (withMachs_fits HV.out) k1
              go_wp2_with fail
              go_ret
              exact ⟨_, rfl, GV.out.trans g8, rfl⟩
    · clear h
      have m0 := mc0 TM.out _ (Gr.refl _)
      have m1 := mc1 TM.out _ (Gr.refl _)
      have m2 := mc2 TM.out _ (Gr.refl _)
      have m3 := mc3 TM.out _ (Gr.refl _)
      have m4 := mc4 TM.out _ (Gr.refl _)
      have m5 := mc5 TM.out _ (Gr.refl _)
      have m6 := mc6 TM.out _ (Gr.refl _)
      have m7 := mc7 TM.out _ (Gr.refl _)
      have m8 := mc8 TM.out _ (Gr.refl _)
      have m9 := mc9 TM.out _ (Gr.refl _)
      have m10 := mc10 TM.out _ (Gr.refl _)
      go_wp2_with fail
      go_ret
      exact ⟨_, rfl, G.out, rfl⟩
  · clear h
    have m0 := mc0 TM.out _ (Gr.refl _)
    have m1 := mc1 TM.out _ (Gr.refl _)
    have m2 := mc2 TM.out _ (Gr.refl _)
    have m3 := mc3 TM.out _ (Gr.refl _)
    have m4 := mc4 TM.out _ (Gr.refl _)
    have m5 := mc5 TM.out _ (Gr.refl _)
    have m6 := mc6 TM.out _ (Gr.refl _)
    have m7 := mc7 TM.out _ (Gr.refl _)
    have m8 := mc8 TM.out _ (Gr.refl _)
    have m9 := mc9 TM.out _ (Gr.refl _)
    have m10 := mc10 TM.out _ (Gr.refl _)
    go_wp2_with fail
    go_ret
    exact ⟨_, rfl, G.out, rfl⟩
end Go.Proofs.YtammehbflilbiaaGreatDoor

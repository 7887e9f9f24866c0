/-
  exodusref14.racks.
  exodusref14.links.
  exodusref14.Valid.
-/
import Derived.Test.YtnlocdijdfclcaaGreatDoorSiteA
namespace Go.Proofs.YtnlocdijdfclcaaGreatDoor
open Go.RowKit Go.Lib Lex
set_option linter.unusedVariables false
set_option linter.unusedSimpArgs false

set_option maxRecDepth 100000 in
set_option maxHeartbeats 1600000 in
theorem ref_racks (w : World) (P : Ptrs) (M : Mdl) (hm : MdlAt w P M) (hf : M.racks.length ≤ 1000000) :
  Calls Tryz.prog 93 #[.agg (mcells P M)] w (Ret w fun r _ => Tells (Sound (RackOK M) M.racks) r) := by
 have HM := Lib.hid hm
 have B := Cells.new w (mcells P M) 29
 clear hm
 have m0 := mc0 B.2 _ (Gr.refl _)
 have m1 := mc1 B.2 _ (Gr.refl _)
 have m2 := mc2 B.2 _ (Gr.refl _)
 have m3 := mc3 B.2 _ (Gr.refl _)
 have m4 := mc4 B.2 _ (Gr.refl _)
 have m5 := mc5 B.2 _ (Gr.refl _)
 have m6 := mc6 B.2 _ (Gr.refl _)
 have m7 := mc7 B.2 _ (Gr.refl _)
 have m8 := mc8 B.2 _ (Gr.refl _)
 have m9 := mc9 B.2 _ (Gr.refl _)
 have m10 := mc10 B.2 _ (Gr.refl _)
 unfold mcells at B m0 m1 m2 m3 m4 m5 m6 m7 m8 m9 m10 ⊢
 go_enter Tryz.func93, Tryz.ntmps93
 go_wp2_with fail
 clear m0 m1 m2 m3 m4 m5 m6 m7 m8 m9 m10
 generalize w.heap.size = bm at B ⊢
 generalize w.alloc _ = W at B ⊢
 obtain ⟨g0, tm⟩ := B
 have TM := Lib.hid (show Cells W bm (mcells P M) from tm)
 have G := Lib.hid g0
 have HM := Lib.hid (HM.out.grow g0)
 clear g0 tm
 have m0 := mc0 TM.out _ (Gr.refl _)
 have m1 := mc1 TM.out _ (Gr.refl _)
 have m2 := mc2 TM.out _ (Gr.refl _)
 have m3 := mc3 TM.out _ (Gr.refl _)
 have m4 := mc4 TM.out _ (Gr.refl _)
 have m5 := mc5 TM.out _ (Gr.refl _)
 have m6 := mc6 TM.out _ (Gr.refl _)
 have m7 := mc7 TM.out _ (Gr.refl _)
 have m8 := mc8 TM.out _ (Gr.refl _)
 have m9 := mc9 TM.out _ (Gr.refl _)
 have m10 := mc10 TM.out _ (Gr.refl _)
 clear m0 m1 m2 m3 m4 m5 m6 m7 m8 m9 m10
 obtain ⟨p0, c0, p1, c1, p2, c2, p3, c3, p4, c4, p5, c5, p6, c6⟩ := P
 try dsimp only
 obtain ⟨n, hn⟩ : ∃ n, M.racks.length = n := ⟨_, rfl⟩
 have HN := Lib.hid hn
 clear hn
 go_loopw [3] (fun i w1 => ∃ k : Nat, i = .int .i64 k ∧ k ≤ M.racks.length ∧ (∀ j x, j < k → M.racks[j]? = some x → RackOK M x (M.racks.take j)) ∧ Gr W w1) (fun i _ => M.racks.length - (RowKit.intOf i).toNat)
 case atStart => exact ⟨0, rfl, Nat.zero_le _, fun j x hj => by omega, Gr.refl _⟩
 case round =>
  obtain ⟨k, rfl, hk, hp, g1⟩ := hrel
  have HP := Lib.hid hp
  have G := Lib.hid (G.out.trans g1)
  have HM := Lib.hid (HM.out.grow g1)
  have TM := Lib.hid (TM.out.grow g1)
  have G1 := Lib.hid g1
  clear hp g1
  have m0 := mc0 TM.out _ (Gr.refl _)
  have m1 := mc1 TM.out _ (Gr.refl _)
  have m2 := mc2 TM.out _ (Gr.refl _)
  have m3 := mc3 TM.out _ (Gr.refl _)
  have m4 := mc4 TM.out _ (Gr.refl _)
  have m5 := mc5 TM.out _ (Gr.refl _)
  have m6 := mc6 TM.out _ (Gr.refl _)
  have m7 := mc7 TM.out _ (Gr.refl _)
  have m8 := mc8 TM.out _ (Gr.refl _)
  have m9 := mc9 TM.out _ (Gr.refl _)
  have m10 := mc10 TM.out _ (Gr.refl _)
  try dsimp only at m0 m1 m2 m3 m4 m5 m6 m7 m8 m9 m10
  by_cases hlt : k < M.racks.length
  ·have hlt' : (k : Int) < (M.racks.length : Int) := by omega
   obtain ⟨b, o, x, rfl, hx, hc⟩ := rack_at HM.out.racks rfl hlt
   have HX := Lib.hid hx
   have HC := Lib.hid hc
   obtain ⟨x0, x1, x2⟩ := hc wr (Gr.refl _)
   clear hx hc
   have B := Cells.new wr #[.string ⟨x.name.toArray⟩, .int .i64 x.site, .int .i64 x.feed] 56
   have n0 := mc0 TM.out _ B.1
   have n1 := mc1 TM.out _ B.1
   have d1 := B.2.at 1 rfl
   have d2 := B.2.at 2 rfl
   dsimp only at n0 n1
   go_wp2_with fail
   clear n0 n1 d1 d2 x0 x1 x2
   generalize wr.heap.size = b4 at B ⊢
   generalize wr.alloc _ = w4 at B ⊢
   obtain ⟨g4, t4⟩ := B
   clear m0 m1 m2 m3 m4 m5 m6 m7 m8 m9 m10
   have T4 := Lib.hid t4
   have HC := Lib.hid (fun w' (g : Gr w4 w') => HC.out w' (g4.trans g))
   have G1 := Lib.hid (G1.out.trans g4)
   have G := Lib.hid (G.out.trans g4)
   have HM := Lib.hid (HM.out.grow g4)
   have TM := Lib.hid (TM.out.grow g4)
   clear g4
   clear t4
   have n0 := mc0 TM.out _ (Gr.refl _)
   have n1 := mc1 TM.out _ (Gr.refl _)
   have d1 := T4.out.at 1 rfl
   have d2 := T4.out.at 2 rfl
   dsimp only at n0 n1
   refine (ref_Exists _ _ _).mono ?_
   rintro _ w1 ⟨⟨v1, rfl, h1⟩, rfl⟩
   rcases h1.cases with ⟨rfl, k1⟩ | ⟨rfl, k1⟩ <;> have H1 := Lib.hid k1 <;> clear k1 h1
   ·go_wp2_with fail
    refine (ref_Exists _ _ _).mono ?_
    rintro _ w1 ⟨⟨v1, rfl, h1⟩, rfl⟩
    rcases h1.cases with ⟨rfl, k1⟩ | ⟨rfl, k1⟩ <;> have H2 := Lib.hid k1 <;> clear k1 h1
    ·go_wp2_with fail
     clear n0 n1 d1 d2
     go_loopw [5] (fun i w1 => ∃ j : Nat, i = .int .i64 j ∧ j ≤ k ∧ (∀ q y, q < j → M.racks[q]? = some y → ¬ (y.feed = x.feed ∧ y.site ≠ x.site)) ∧ Gr w4 w1) (fun i _ => k - (RowKit.intOf i).toNat)
     case atStart => exact ⟨0, rfl, Nat.zero_le _, fun j x hj => by omega, Gr.refl _⟩
     case round =>
      obtain ⟨j, rfl, hj, hp, g1⟩ := hrel
      have HP2 := Lib.hid hp
      have Gr4 := Lib.hid g1
      have G := Lib.hid (G.out.trans g1)
      have G1 := Lib.hid (G1.out.trans g1)
      have HM := Lib.hid (HM.out.grow g1)
      have TM := Lib.hid (TM.out.grow g1)
      have T4 := Lib.hid (T4.out.grow g1)
      clear hp g1
      by_cases hjk : j < k
      ·have hjk' : (j : Int) < (k : Int) := by omega
       obtain ⟨_, _, y, hbo, hy, hd⟩ := rack_at HM.out.racks rfl (show j < M.racks.length by omega)
       cases hbo
       have HY := Lib.hid hy
       have y1 := fun w' (g : Gr wr w') => (hd w' g).2.1
       have y2 := fun w' (g : Gr wr w') => (hd w' g).2.2
       have t1 := T4.out.c 1 rfl
       have t2 := T4.out.c 2 rfl
       have m2 := mc2 TM.out
       have hjl : j < M.racks.length := by omega
       have hjl' : (j : Int) < (M.racks.length : Int) := by omega
       dsimp only at m2
       clear hy hd
       by_cases e1 : y.feed = x.feed
       ·have e1b : (y.feed == x.feed) = true := by simpa using e1
        have E1 := Lib.hid e1
        clear e1
        by_cases e2 : y.site = x.site
        ·have e2b : (y.site != x.site) = false := by simpa using e2
         have HK := Lib.hid (show ¬ (y.feed = x.feed ∧ y.site ≠ x.site) from fun h => h.2 e2)
         clear e2
         have HS := Lib.hid (show ∀ q z, q < j + 1 → M.racks[q]? = some z → ¬ (z.feed = x.feed ∧ z.site ≠ x.site) from fun q z hq hz => by
          by_cases e : q = j
          ·subst e
           have h1 := HY.out.symm.trans hz
           cases h1
           exact HK.out
          ·exact HP2.out q z (by omega) hz)
         go_wp2_with fail
         refine wp_region_fast [(0, true), (1, true), (2, true), (3, true), (4, true), (5, true), (6, true), (7, true), (8, true), (9, true), (10, true), (11, true), (12, true), (13, true), (14, true), (15, true), (16, true), (17, true), (18, true), (19, true)] (by kernel_rfl) (by kernel_rfl) rfl (by kernel_rfl) (fun _ _ d _ _ h => by cases d <;> exact h) ?_
         have g0 : Gr wr wr.drew := (Gr.refl _).drew
         have G := Lib.hid (G.out.trans g0)
         have G1 := Lib.hid (G1.out.trans g0)
         repeat (refine wpE_readB (v := ?_) g0 rfl rfl (fun w' hg => ?_) (fun K hK => ?_); rotate_left; (go_simp; rfl); go_simp; refine hK _ _ ?_; clear hK K)
         repeat (refine wpE_skip rfl rfl ?_; go_simp)
         repeat (refine wpE_readB (v := ?_) g0 rfl rfl (fun w' hg => ?_) (fun K hK => ?_); rotate_left; (go_simp; rfl); go_simp; refine hK _ _ ?_; clear hK K)
         refine wpE_nil ?_
         go_wp2_with fail
         refine ⟨⟨j + 1, by go_num, by omega, HS.out, Gr4.out.trans g0⟩, by simp [RowKit.intOf]; omega⟩
        ·have e2b : (y.site != x.site) = true := by simpa using e2
         have E2 := Lib.hid e2
         clear e2
         go_wp2_with fail
         refine wp_region_fast [(0, true), (1, true), (2, true), (3, true), (4, true), (5, true), (6, true), (7, true), (8, true), (9, true), (10, true), (11, true), (12, true), (13, true), (14, true), (15, true), (16, true), (17, true), (18, true), (19, true)] (by kernel_rfl) (by kernel_rfl) rfl (by kernel_rfl) (fun _ _ d _ _ h => by cases d <;> exact h) ?_
         have g0 : Gr wr wr.drew := (Gr.refl _).drew
         have G := Lib.hid (G.out.trans g0)
         have G1 := Lib.hid (G1.out.trans g0)
         repeat (refine wpE_readB (v := ?_) g0 rfl rfl (fun w' hg => ?_) (fun K hK => ?_); rotate_left; (go_simp; rfl); go_simp; refine hK _ _ ?_; clear hK K)
         repeat (refine wpE_skip rfl rfl ?_; go_simp)
         repeat (refine wpE_readB (v := ?_) g0 rfl rfl (fun w' hg => ?_) (fun K hK => ?_); rotate_left; (go_simp; rfl); go_simp; refine hK _ _ ?_; clear hK K)
         refine wpE_nil ?_
         go_wp2_with fail
         go_ret
         exact ⟨_, rfl, G.out, Tells.no fun h => by have h2 := (h k x HX.out).2.2 y (List.mem_take_iff_getElem.2 ⟨j, by omega, by have := HY.out; rw [List.getElem?_eq_getElem hjl] at this; simpa using this⟩); exact h2 ⟨E1.out, E2.out⟩⟩
       ·have e1b : (y.feed == x.feed) = false := by simpa using e1
        have HK := Lib.hid (show ¬ (y.feed = x.feed ∧ y.site ≠ x.site) from fun h => e1 h.1)
        clear e1
        have HS := Lib.hid (show ∀ q z, q < j + 1 → M.racks[q]? = some z → ¬ (z.feed = x.feed ∧ z.site ≠ x.site) from fun q z hq hz => by
         by_cases e : q = j
         ·subst e
          have h1 := HY.out.symm.trans hz
          cases h1
          exact HK.out
         ·exact HP2.out q z (by omega) hz)
        go_wp2_with fail
        refine wp_region_fast [(0, true), (1, true), (2, true), (3, true), (4, true), (5, true), (6, true), (7, true), (8, true), (9, true), (10, true), (11, true), (12, true), (13, true), (14, true), (15, true), (16, true), (17, true), (18, true), (19, true)] (by kernel_rfl) (by kernel_rfl) rfl (by kernel_rfl) (fun _ _ d _ _ h => by cases d <;> exact h) ?_
        have g0 : Gr wr wr.drew := (Gr.refl _).drew
        have G := Lib.hid (G.out.trans g0)
        have G1 := Lib.hid (G1.out.trans g0)
        repeat (refine wpE_readB (v := ?_) g0 rfl rfl (fun w' hg => ?_) (fun K hK => ?_); rotate_left; (go_simp; rfl); go_simp; refine hK _ _ ?_; clear hK K)
        repeat (refine wpE_skip rfl rfl ?_; go_simp)
        repeat (refine wpE_readB (v := ?_) g0 rfl rfl (fun w' hg => ?_) (fun K hK => ?_); rotate_left; (go_simp; rfl); go_simp; refine hK _ _ ?_; clear hK K)
        refine wpE_nil ?_
        go_wp2_with fail
        refine ⟨⟨j + 1, by go_num, by omega, HS.out, Gr4.out.trans g0⟩, by simp [RowKit.intOf]; omega⟩
      ·obtain rfl : j = k := by omega
       go_wp2_with fail
       refine ⟨⟨j + 1, by go_num, by omega, sound_step HX.out HP.out ⟨H1.out, H2.out, fun y hy => ?_⟩, G1.out⟩, by simp [RowKit.intOf]; omega⟩
       obtain ⟨q, hq, e⟩ := List.mem_take_iff_getElem.1 hy
       exact HP2.out q y (by omega) (by rw [List.getElem?_eq_getElem (by omega), e])
    ·go_wp2_with fail
     go_ret
     exact ⟨_, rfl, G.out, Tells.no fun h => H2.out (h k x HX.out).2.1⟩
   ·go_wp2_with fail
    go_ret
    exact ⟨_, rfl, G.out, Tells.no fun h => H1.out (h k x HX.out).1⟩
  ·obtain rfl : k = M.racks.length := by omega
   have HS := Lib.hid (show Sound (RackOK M) M.racks from fun i x hx => HP.out i x (List.getElem?_eq_some_iff.1 hx).1 hx)
   go_wp2_with fail
   go_ret
   exact ⟨_, rfl, G.out, Tells.yes HS.out⟩
end Go.Proofs.YtnlocdijdfclcaaGreatDoor
namespace Go.Proofs.YtnlocdijdfclcaaGreatDoor
open Go.RowKit Go.Lib Lex
set_option linter.unusedVariables false
set_option linter.unusedSimpArgs false

set_option maxRecDepth 100000 in
set_option maxHeartbeats 1600000 in
theorem ref_links (w : World) (P : Ptrs) (M : Mdl) (hm : MdlAt w P M) (hf : M.links.length ≤ 1000000) :
  Calls Tryz.prog 94 #[.agg (mcells P M)] w (Ret w fun r _ => Tells (Sound (LinkOK M) M.links) r) := by
 have HM := Lib.hid hm
 have B := Cells.new w (mcells P M) 29
 clear hm
 have m0 := mc0 B.2 _ (Gr.refl _)
 have m1 := mc1 B.2 _ (Gr.refl _)
 have m2 := mc2 B.2 _ (Gr.refl _)
 have m3 := mc3 B.2 _ (Gr.refl _)
 have m4 := mc4 B.2 _ (Gr.refl _)
 have m5 := mc5 B.2 _ (Gr.refl _)
 have m6 := mc6 B.2 _ (Gr.refl _)
 have m7 := mc7 B.2 _ (Gr.refl _)
 have m8 := mc8 B.2 _ (Gr.refl _)
 have m9 := mc9 B.2 _ (Gr.refl _)
 have m10 := mc10 B.2 _ (Gr.refl _)
 unfold mcells at B m0 m1 m2 m3 m4 m5 m6 m7 m8 m9 m10 ⊢
 go_enter Tryz.func94, Tryz.ntmps94
 go_wp2_with fail
 clear m0 m1 m2 m3 m4 m5 m6 m7 m8 m9 m10
 generalize w.heap.size = bm at B ⊢
 generalize w.alloc _ = W at B ⊢
 obtain ⟨g0, tm⟩ := B
 have TM := Lib.hid (show Cells W bm (mcells P M) from tm)
 have G := Lib.hid g0
 have HM := Lib.hid (HM.out.grow g0)
 clear g0 tm
 have m0 := mc0 TM.out _ (Gr.refl _)
 have m1 := mc1 TM.out _ (Gr.refl _)
 have m2 := mc2 TM.out _ (Gr.refl _)
 have m3 := mc3 TM.out _ (Gr.refl _)
 have m4 := mc4 TM.out _ (Gr.refl _)
 have m5 := mc5 TM.out _ (Gr.refl _)
 have m6 := mc6 TM.out _ (Gr.refl _)
 have m7 := mc7 TM.out _ (Gr.refl _)
 have m8 := mc8 TM.out _ (Gr.refl _)
 have m9 := mc9 TM.out _ (Gr.refl _)
 have m10 := mc10 TM.out _ (Gr.refl _)
 clear m0 m1 m2 m3 m4 m5 m6 m7 m8 m9 m10
 obtain ⟨p0, c0, p1, c1, p2, c2, p3, c3, p4, c4, p5, c5, p6, c6⟩ := P
 try dsimp only
 obtain ⟨n, hn⟩ : ∃ n, M.links.length = n := ⟨_, rfl⟩
 have HN := Lib.hid hn
 clear hn
 go_loopw [3] (fun i w1 => ∃ k : Nat, i = .int .i64 k ∧ k ≤ M.links.length ∧ (∀ j x, j < k → M.links[j]? = some x → LinkOK M x (M.links.take j)) ∧ Gr W w1) (fun i _ => M.links.length - (RowKit.intOf i).toNat)
 case atStart => exact ⟨0, rfl, Nat.zero_le _, fun j x hj => by omega, Gr.refl _⟩
 case round =>
  obtain ⟨k, rfl, hk, hp, g1⟩ := hrel
  have HP := Lib.hid hp
  have G := Lib.hid (G.out.trans g1)
  have HM := Lib.hid (HM.out.grow g1)
  have TM := Lib.hid (TM.out.grow g1)
  have G1 := Lib.hid g1
  clear hp g1
  have m0 := mc0 TM.out _ (Gr.refl _)
  have m1 := mc1 TM.out _ (Gr.refl _)
  have m2 := mc2 TM.out _ (Gr.refl _)
  have m3 := mc3 TM.out _ (Gr.refl _)
  have m4 := mc4 TM.out _ (Gr.refl _)
  have m5 := mc5 TM.out _ (Gr.refl _)
  have m6 := mc6 TM.out _ (Gr.refl _)
  have m7 := mc7 TM.out _ (Gr.refl _)
  have m8 := mc8 TM.out _ (Gr.refl _)
  have m9 := mc9 TM.out _ (Gr.refl _)
  have m10 := mc10 TM.out _ (Gr.refl _)
  try dsimp only at m0 m1 m2 m3 m4 m5 m6 m7 m8 m9 m10
  by_cases hlt : k < M.links.length
  ·have hlt' : (k : Int) < (M.links.length : Int) := by omega
   obtain ⟨b, o, x, rfl, hx, hc⟩ := link_at HM.out.links rfl hlt
   have HX := Lib.hid hx
   have HC := Lib.hid hc
   obtain ⟨x0, x1, x2⟩ := hc wr (Gr.refl _)
   clear hx hc
   have B := Cells.new wr #[.int .i64 x.a, .int .i64 x.b, .int .i64 x.cap] 117
   have n0 := mc0 TM.out _ B.1
   have d0 := B.2.at 0 rfl
   have d1 := B.2.at 1 rfl
   have d2 := B.2.at 2 rfl
   dsimp only at n0
   by_cases h1 : 1 ≤ x.a
   ·by_cases h2 : x.a < x.b
    ·by_cases h3 : x.b ≤ (M.sites.length : Int)
     ·go_wp2_with fail
      clear n0 d0 d1 d2 x0 x1 x2
      generalize wr.heap.size = b4 at B ⊢
      generalize wr.alloc _ = w4 at B ⊢
      obtain ⟨g4, t4⟩ := B
      clear m0 m1 m2 m3 m4 m5 m6 m7 m8 m9 m10
      have T4 := Lib.hid t4
      have HC := Lib.hid (fun w' (g : Gr w4 w') => HC.out w' (g4.trans g))
      have G1 := Lib.hid (G1.out.trans g4)
      have G := Lib.hid (G.out.trans g4)
      have HM := Lib.hid (HM.out.grow g4)
      have TM := Lib.hid (TM.out.grow g4)
      clear g4
      clear t4
      refine (ref_number _ _).mono ?_
      rintro _ w1 ⟨⟨v1, rfl, h1⟩, rfl⟩
      rcases h1.cases with ⟨rfl, k1⟩ | ⟨rfl, k1⟩ <;> have H2 := Lib.hid k1 <;> clear k1 h1
      ·go_wp2_with fail
       go_loopw [5] (fun i w1 => ∃ j : Nat, i = .int .i64 j ∧ j ≤ k ∧ (∀ q y, q < j → M.links[q]? = some y → ¬ (y.a = x.a ∧ y.b = x.b)) ∧ Gr w4 w1) (fun i _ => k - (RowKit.intOf i).toNat)
       case atStart => exact ⟨0, rfl, Nat.zero_le _, fun j x hj => by omega, Gr.refl _⟩
       case round =>
        obtain ⟨j, rfl, hj, hp, g1⟩ := hrel
        have HP2 := Lib.hid hp
        have Gr4 := Lib.hid g1
        have G := Lib.hid (G.out.trans g1)
        have G1 := Lib.hid (G1.out.trans g1)
        have HM := Lib.hid (HM.out.grow g1)
        have TM := Lib.hid (TM.out.grow g1)
        have T4 := Lib.hid (T4.out.grow g1)
        clear hp g1
        by_cases hjk : j < k
        ·have hjk' : (j : Int) < (k : Int) := by omega
         obtain ⟨_, _, y, hbo, hy, hd⟩ := link_at HM.out.links rfl (show j < M.links.length by omega)
         cases hbo
         have HY := Lib.hid hy
         have y1 := fun w' (g : Gr wr w') => (hd w' g).1
         have y2 := fun w' (g : Gr wr w') => (hd w' g).2.1
         have t1 := T4.out.c 0 rfl
         have t2 := T4.out.c 1 rfl
         have m4 := mc4 TM.out
         have hjl : j < M.links.length := by omega
         have hjl' : (j : Int) < (M.links.length : Int) := by omega
         dsimp only at m4
         clear hy hd
         by_cases e1 : y.a = x.a
         ·have e1b : (y.a == x.a) = true := by simpa using e1
          have E1 := Lib.hid e1
          clear e1
          by_cases e2 : y.b = x.b
          ·have e2b : (y.b == x.b) = true := by simpa using e2
           have E2 := Lib.hid e2
           clear e2
           go_wp2_with fail
           refine wp_region_fast [(0, true), (1, true), (2, true), (3, true), (4, true), (5, true), (6, true), (7, true), (8, true), (9, true), (10, true), (11, true), (12, true), (13, true), (14, true), (15, true), (16, true), (17, true), (18, true), (19, true)] (by kernel_rfl) (by kernel_rfl) rfl (by kernel_rfl) (fun _ _ d _ _ h => by cases d <;> exact h) ?_
           have g0 : Gr wr wr.drew := (Gr.refl _).drew
           have G := Lib.hid (G.out.trans g0)
           have G1 := Lib.hid (G1.out.trans g0)
           repeat (refine wpE_readB (v := ?_) g0 rfl rfl (fun w' hg => ?_) (fun K hK => ?_); rotate_left; (go_simp; rfl); go_simp; refine hK _ _ ?_; clear hK K)
           repeat (refine wpE_skip rfl rfl ?_; go_simp)
           repeat (refine wpE_readB (v := ?_) g0 rfl rfl (fun w' hg => ?_) (fun K hK => ?_); rotate_left; (go_simp; rfl); go_simp; refine hK _ _ ?_; clear hK K)
           refine wpE_nil ?_
           go_wp2_with fail
           go_ret
           exact ⟨_, rfl, G.out, Tells.no fun h => by have h2 := (h k x HX.out).2.2.2.2 y (List.mem_take_iff_getElem.2 ⟨j, by omega, by have := HY.out; rw [List.getElem?_eq_getElem hjl] at this; simpa using this⟩); exact h2 ⟨E1.out, E2.out⟩⟩
          ·have e2b : (y.b == x.b) = false := by simpa using e2
           have HK := Lib.hid (show ¬ (y.a = x.a ∧ y.b = x.b) from fun h => e2 h.2)
           clear e2
           have HS := Lib.hid (show ∀ q z, q < j + 1 → M.links[q]? = some z → ¬ (z.a = x.a ∧ z.b = x.b) from fun q z hq hz => by
            by_cases e : q = j
            ·subst e
             have h1 := HY.out.symm.trans hz
             cases h1
             exact HK.out
            ·exact HP2.out q z (by omega) hz)
           go_wp2_with fail
           refine wp_region_fast [(0, true), (1, true), (2, true), (3, true), (4, true), (5, true), (6, true), (7, true), (8, true), (9, true), (10, true), (11, true), (12, true), (13, true), (14, true), (15, true), (16, true), (17, true), (18, true), (19, true)] (by kernel_rfl) (by kernel_rfl) rfl (by kernel_rfl) (fun _ _ d _ _ h => by cases d <;> exact h) ?_
           have g0 : Gr wr wr.drew := (Gr.refl _).drew
           have G := Lib.hid (G.out.trans g0)
           have G1 := Lib.hid (G1.out.trans g0)
           repeat (refine wpE_readB (v := ?_) g0 rfl rfl (fun w' hg => ?_) (fun K hK => ?_); rotate_left; (go_simp; rfl); go_simp; refine hK _ _ ?_; clear hK K)
           repeat (refine wpE_skip rfl rfl ?_; go_simp)
           repeat (refine wpE_readB (v := ?_) g0 rfl rfl (fun w' hg => ?_) (fun K hK => ?_); rotate_left; (go_simp; rfl); go_simp; refine hK _ _ ?_; clear hK K)
           refine wpE_nil ?_
           go_wp2_with fail
           refine ⟨⟨j + 1, by go_num, by omega, HS.out, Gr4.out.trans g0⟩, by simp [RowKit.intOf]; omega⟩
         ·have e1b : (y.a == x.a) = false := by simpa using e1
          have HK := Lib.hid (show ¬ (y.a = x.a ∧ y.b = x.b) from fun h => e1 h.1)
          clear e1
          have HS := Lib.hid (show ∀ q z, q < j + 1 → M.links[q]? = some z → ¬ (z.a = x.a ∧ z.b = x.b) from fun q z hq hz => by
           by_cases e : q = j
           ·subst e
            have h1 := HY.out.symm.trans hz
            cases h1
            exact HK.out
           ·exact HP2.out q z (by omega) hz)
          go_wp2_with fail
          refine wp_region_fast [(0, true), (1, true), (2, true), (3, true), (4, true), (5, true), (6, true), (7, true), (8, true), (9, true), (10, true), (11, true), (12, true), (13, true), (14, true), (15, true), (16, true), (17, true), (18, true), (19, true)] (by kernel_rfl) (by kernel_rfl) rfl (by kernel_rfl) (fun _ _ d _ _ h => by cases d <;> exact h) ?_
          have g0 : Gr wr wr.drew := (Gr.refl _).drew
          have G := Lib.hid (G.out.trans g0)
          have G1 := Lib.hid (G1.out.trans g0)
          repeat (refine wpE_readB (v := ?_) g0 rfl rfl (fun w' hg => ?_) (fun K hK => ?_); rotate_left; (go_simp; rfl); go_simp; refine hK _ _ ?_; clear hK K)
          repeat (refine wpE_skip rfl rfl ?_; go_simp)
          repeat (refine wpE_readB (v := ?_) g0 rfl rfl (fun w' hg => ?_) (fun K hK => ?_); rotate_left; (go_simp; rfl); go_simp; refine hK _ _ ?_; clear hK K)
          refine wpE_nil ?_
          go_wp2_with fail
          refine ⟨⟨j + 1, by go_num, by omega, HS.out, Gr4.out.trans g0⟩, by simp [RowKit.intOf]; omega⟩
        ·obtain rfl : j = k := by omega
         go_wp2_with fail
         refine ⟨⟨j + 1, by go_num, by omega, sound_step HX.out HP.out ⟨h1, h2, h3, H2.out, fun y hy => ?_⟩, G1.out⟩, by simp [RowKit.intOf]; omega⟩
         obtain ⟨q, hq, e⟩ := List.mem_take_iff_getElem.1 hy
         exact HP2.out q y (by omega) (by rw [List.getElem?_eq_getElem (by omega), e])
      ·go_wp2_with fail
       go_ret
       exact ⟨_, rfl, G.out, Tells.no fun h => H2.out (h k x HX.out).2.2.2.1⟩
     ·have B1 := Lib.hid (G.out.trans B.1)
      go_wp2_with fail
      go_ret
      exact ⟨_, rfl, B1.out, Tells.no fun h => by have := (h k x HX.out).2.2.1; omega⟩
    ·have B1 := Lib.hid (G.out.trans B.1)
     go_wp2_with fail
     go_ret
     exact ⟨_, rfl, B1.out, Tells.no fun h => by have := (h k x HX.out).2.1; omega⟩
   ·have B1 := Lib.hid (G.out.trans B.1)
    go_wp2_with fail
    go_ret
    exact ⟨_, rfl, B1.out, Tells.no fun h => by have := (h k x HX.out).1; omega⟩
  ·obtain rfl : k = M.links.length := by omega
   have HS := Lib.hid (show Sound (LinkOK M) M.links from fun i x hx => HP.out i x (List.getElem?_eq_some_iff.1 hx).1 hx)
   go_wp2_with fail
   go_ret
   exact ⟨_, rfl, G.out, Tells.yes HS.out⟩
end Go.Proofs.YtnlocdijdfclcaaGreatDoor
namespace Go.Proofs.YtnlocdijdfclcaaGreatDoor
open Go.RowKit Go.Lib Lex
set_option linter.unusedVariables false
set_option linter.unusedSimpArgs false

set_option maxRecDepth 100000 in
set_option maxHeartbeats 1600000 in
theorem ref_Valid14 (w : World) (P : Ptrs) (M : Mdl) (hm : MdlAt w P M) (hf : Few M) :
  Calls Tryz.prog 61 #[.agg (mcells P M)] w (Ret w fun r _ => Tells (SiteOK M) r) := by
 obtain ⟨⟨l0, l1, l2, l3, l4, l5, l6⟩, -⟩ := hf
 by_cases q0 : 1 ≤ M.sites.length ∧ M.sites.length ≤ 4
 ·obtain ⟨q0, q1⟩ := q0
  by_cases q2 : M.feeds.length ≤ 16
  ·by_cases q3 : M.racks.length ≤ 16
   ·by_cases q4 : 1 ≤ M.machs.length ∧ M.machs.length ≤ 16
    ·obtain ⟨q4, q5⟩ := q4
     by_cases q6 : M.links.length ≤ 12
     ·have r0 : ¬ (M.sites.length : Int) < 1 := by omega
      have r1 : ¬ (4 : Int) < (M.sites.length : Int) := by omega
      have r2 : ¬ (16 : Int) < (M.feeds.length : Int) := by omega
      have r3 : ¬ (16 : Int) < (M.racks.length : Int) := by omega
      have r4 : ¬ (M.machs.length : Int) < 1 := by omega
      have r5 : ¬ (16 : Int) < (M.machs.length : Int) := by omega
      have r6 : ¬ (12 : Int) < (M.links.length : Int) := by omega
      have HQ := Lib.hid (show Sound (fun x _ => MachOK M x) M.machs ∧ Sound (RackOK M) M.racks ∧ Sound (LinkOK M) M.links ↔ SiteOK M from ⟨fun h => ⟨⟨q0, q1⟩, q2, q3, ⟨q4, q5⟩, q6, h.2.1, h.1, h.2.2⟩, fun h => ⟨h.2.2.2.2.2.2.1, h.2.2.2.2.2.1, h.2.2.2.2.2.2.2⟩⟩)
      clear q0 q1 q2 q3 q4 q5 q6
      have HM := Lib.hid hm
      have B := Cells.new w (mcells P M) 29
      clear hm
      have m0 := mc0 B.2 _ (Gr.refl _)
      have m1 := mc1 B.2 _ (Gr.refl _)
      have m2 := mc2 B.2 _ (Gr.refl _)
      have m3 := mc3 B.2 _ (Gr.refl _)
      have m4 := mc4 B.2 _ (Gr.refl _)
      have m5 := mc5 B.2 _ (Gr.refl _)
      have m6 := mc6 B.2 _ (Gr.refl _)
      have m7 := mc7 B.2 _ (Gr.refl _)
      have m8 := mc8 B.2 _ (Gr.refl _)
      have m9 := mc9 B.2 _ (Gr.refl _)
      have m10 := mc10 B.2 _ (Gr.refl _)
      unfold mcells at B m0 m1 m2 m3 m4 m5 m6 m7 m8 m9 m10 ⊢
      go_enter Tryz.func61, Tryz.ntmps61
      go_wp2_with fail
      clear m0 m1 m2 m3 m4 m5 m6 m7 m8 m9 m10
      generalize w.heap.size = bm at B ⊢
      generalize w.alloc _ = W at B ⊢
      obtain ⟨g0, tm⟩ := B
      have TM := Lib.hid (show Cells W bm (mcells P M) from tm)
      have G := Lib.hid g0
      have HM := Lib.hid (HM.out.grow g0)
      clear g0 tm
      have m0 := mc0 TM.out _ (Gr.refl _)
      have m1 := mc1 TM.out _ (Gr.refl _)
      have m2 := mc2 TM.out _ (Gr.refl _)
      have m3 := mc3 TM.out _ (Gr.refl _)
      have m4 := mc4 TM.out _ (Gr.refl _)
      have m5 := mc5 TM.out _ (Gr.refl _)
      have m6 := mc6 TM.out _ (Gr.refl _)
      have m7 := mc7 TM.out _ (Gr.refl _)
      have m8 := mc8 TM.out _ (Gr.refl _)
      have m9 := mc9 TM.out _ (Gr.refl _)
      have m10 := mc10 TM.out _ (Gr.refl _)
      clear m0 m1 m2 m3 m4 m5 m6 m7 m8 m9 m10
      obtain ⟨p0, c0, p1, c1, p2, c2, p3, c3, p4, c4, p5, c5, p6, c6⟩ := P
      try dsimp only
      clear r0 r1 r2 r3 r4 r5 r6
      go_loopw [3] (fun i w1 => ∃ k : Nat, i = .int .i64 k ∧ k ≤ M.machs.length ∧ (∀ j x, j < k → M.machs[j]? = some x → MachOK M x) ∧ Gr W w1) (fun i _ => M.machs.length - (RowKit.intOf i).toNat)
      case atStart => exact ⟨0, rfl, Nat.zero_le _, fun j x hj => by omega, Gr.refl _⟩
      case round =>
       obtain ⟨k, rfl, hk, hp, g1⟩ := hrel
       have HP := Lib.hid hp
       have G := Lib.hid (G.out.trans g1)
       have HM := Lib.hid (HM.out.grow g1)
       have TM := Lib.hid (TM.out.grow g1)
       have G1 := Lib.hid g1
       clear hp g1
       by_cases hlt : k < M.machs.length
       ·have hlt' : (k : Int) < (M.machs.length : Int) := by omega
        obtain ⟨b, o, x, rfl, hx, hc⟩ := mach_at HM.out.machs rfl hlt
        have HX := Lib.hid hx
        have x1 := fun w' (g : Gr wr w') => (hc w' g).2.1
        have x2 := fun w' (g : Gr wr w') => (hc w' g).2.2
        have m3 := mc3 TM.out
        have m2 := mc2 TM.out
        dsimp only at m2 m3
        have a3 := m3 wr (Gr.refl _)
        clear hx hc
        go_wp2_with fail
        refine wp_region_fast [(0, true), (1, true), (2, true), (3, true), (4, true), (5, true), (6, true), (7, true), (8, true), (9, false), (10, true), (11, true), (12, true), (13, true), (14, true), (15, true), (16, true), (17, true), (18, false), (19, true), (20, true)] (by kernel_rfl) (by kernel_rfl) rfl (by kernel_rfl) (fun _ _ d _ _ h => by cases d <;> exact h) ?_
        have g0 : Gr wr wr.drew := (Gr.refl _).drew
        have G := Lib.hid (G.out.trans g0)
        have G1 := Lib.hid (G1.out.trans g0)
        repeat (refine wpE_readB (v := ?_) g0 rfl rfl (fun w' hg => ?_) (fun K hK => ?_); rotate_left; (go_simp; rfl); go_simp; refine hK _ _ ?_; clear hK K)
        refine wpE_fn (args := ?_) rfl rfl rfl rfl rfl rfl (by kernel_rfl) (by kernel_rfl) ?_ (fun K hK => ?_)
        rotate_left
        ·go_simp; rfl
        refine (ref_Exists _ _ _).mono ?_
        rintro _ _ ⟨⟨v1, rfl, h1⟩, rfl⟩
        rcases h1.cases with ⟨rfl, k1⟩ | ⟨rfl, k1⟩ <;> have H1 := Lib.hid k1 <;> clear k1 h1
        ·refine ⟨_, rfl, Gr.refl _, ?_⟩
         go_simp
         refine hK _ _ ?_
         clear hK K
         repeat (refine wpE_readB (v := ?_) g0 rfl rfl (fun w' hg => ?_) (fun K hK => ?_); rotate_left; (go_simp; rfl); go_simp; refine hK _ _ ?_; clear hK K)
         refine wpE_fn (args := ?_) rfl rfl rfl rfl rfl rfl (by kernel_rfl) (by kernel_rfl) ?_ (fun K hK => ?_)
         rotate_left
         ·go_simp; rfl
         refine (ref_number _ _).mono ?_
         rintro _ _ ⟨⟨v1, rfl, h1⟩, rfl⟩
         rcases h1.cases with ⟨rfl, k1⟩ | ⟨rfl, k1⟩ <;> have H2 := Lib.hid k1 <;> clear k1 h1
         ·refine ⟨_, rfl, Gr.refl _, ?_⟩
          go_simp
          refine hK _ _ ?_
          clear hK K
          repeat (refine wpE_readB (v := ?_) g0 rfl rfl (fun w' hg => ?_) (fun K hK => ?_); rotate_left; (go_simp; rfl); go_simp; refine hK _ _ ?_; clear hK K)
          refine wpE_nil ?_
          have HS := Lib.hid (show ∀ j y, j < k + 1 → M.machs[j]? = some y → MachOK M y from fun j y hj hy => by
           by_cases e : j = k
           ·subst e
            have h1 := HX.out.symm.trans hy
            cases h1
            exact ⟨H1.out, H2.out⟩
           ·exact HP.out j y (by omega) hy)
          go_wp2_with fail
          refine ⟨⟨k + 1, by go_num, by omega, HS.out, G1.out⟩, by simp [RowKit.intOf]; omega⟩
         ·refine ⟨_, rfl, Gr.refl _, ?_⟩
          go_simp
          refine hK _ _ ?_
          clear hK K
          repeat (refine wpE_readB (v := ?_) g0 rfl rfl (fun w' hg => ?_) (fun K hK => ?_); rotate_left; (go_simp; rfl); go_simp; refine hK _ _ ?_; clear hK K)
          refine wpE_nil ?_
          go_wp2_with fail
          go_ret
          exact ⟨_, rfl, G.out, Tells.no fun h => H2.out ((HQ.out.2 h).1 k x HX.out).2⟩
        ·refine ⟨_, rfl, Gr.refl _, ?_⟩
         go_simp
         refine hK _ _ ?_
         clear hK K
         repeat (refine wpE_readB (v := ?_) g0 rfl rfl (fun w' hg => ?_) (fun K hK => ?_); rotate_left; (go_simp; rfl); go_simp; refine hK _ _ ?_; clear hK K)
         repeat (refine wpE_skip rfl rfl ?_; go_simp)
         repeat (refine wpE_readB (v := ?_) g0 rfl rfl (fun w' hg => ?_) (fun K hK => ?_); rotate_left; (go_simp; rfl); go_simp; refine hK _ _ ?_; clear hK K)
         refine wpE_nil ?_
         go_wp2_with fail
         go_ret
         exact ⟨_, rfl, G.out, Tells.no fun h => H1.out ((HQ.out.2 h).1 k x HX.out).1⟩
       ·obtain rfl : k = M.machs.length := by omega
        have HS := Lib.hid (show Sound (fun x _ => MachOK M x) M.machs from fun i x hx => HP.out i x (List.getElem?_eq_some_iff.1 hx).1 hx)
        have m0 := mc0 TM.out _ (Gr.refl _)
        have m1 := mc1 TM.out _ (Gr.refl _)
        have m2 := mc2 TM.out _ (Gr.refl _)
        have m3 := mc3 TM.out _ (Gr.refl _)
        have m4 := mc4 TM.out _ (Gr.refl _)
        have m5 := mc5 TM.out _ (Gr.refl _)
        have m6 := mc6 TM.out _ (Gr.refl _)
        have m7 := mc7 TM.out _ (Gr.refl _)
        have m8 := mc8 TM.out _ (Gr.refl _)
        have m9 := mc9 TM.out _ (Gr.refl _)
        have m10 := mc10 TM.out _ (Gr.refl _)
        try dsimp only at m0 m1 m2 m3 m4 m5 m6 m7 m8 m9 m10
        go_wp2_with fail
        clear m0 m1 m2 m3 m4 m5 m6 m7 m8 m9 m10
        refine (ref_racks wr ⟨p0, c0, p1, c1, p2, c2, p3, c3, p4, c4, p5, c5, p6, c6⟩ M HM.out (by omega)).mono ?_
        rintro _ w5 ⟨v5, rfl, g5, t5⟩
        have G := Lib.hid (G.out.trans g5)
        have HM := Lib.hid (HM.out.grow g5)
        have TM := Lib.hid (TM.out.grow g5)
        clear g5
        rcases t5.cases with ⟨rfl, k1⟩ | ⟨rfl, k1⟩ <;> have H5 := Lib.hid k1 <;> clear k1 t5
        ·have m0 := mc0 TM.out _ (Gr.refl _)
         have m1 := mc1 TM.out _ (Gr.refl _)
         have m2 := mc2 TM.out _ (Gr.refl _)
         have m3 := mc3 TM.out _ (Gr.refl _)
         have m4 := mc4 TM.out _ (Gr.refl _)
         have m5 := mc5 TM.out _ (Gr.refl _)
         have m6 := mc6 TM.out _ (Gr.refl _)
         have m7 := mc7 TM.out _ (Gr.refl _)
         have m8 := mc8 TM.out _ (Gr.refl _)
         have m9 := mc9 TM.out _ (Gr.refl _)
         have m10 := mc10 TM.out _ (Gr.refl _)
         try dsimp only at m0 m1 m2 m3 m4 m5 m6 m7 m8 m9 m10
         go_wp2_with fail
         clear m0 m1 m2 m3 m4 m5 m6 m7 m8 m9 m10
         refine (ref_links w5 ⟨p0, c0, p1, c1, p2, c2, p3, c3, p4, c4, p5, c5, p6, c6⟩ M HM.out (by omega)).mono ?_
         rintro _ w6 ⟨v6, rfl, g6, t6⟩
         have G := Lib.hid (G.out.trans g6)
         have HM := Lib.hid (HM.out.grow g6)
         have TM := Lib.hid (TM.out.grow g6)
         clear g6
         rcases t6.cases with ⟨rfl, k1⟩ | ⟨rfl, k1⟩ <;> have H6 := Lib.hid k1 <;> clear k1 t6
         ·go_wp2_with fail
          go_ret
          exact ⟨_, rfl, G.out, Tells.yes (HQ.out.1 ⟨HS.out, H5.out, H6.out⟩)⟩
         ·go_wp2_with fail
          go_ret
          exact ⟨_, rfl, G.out, Tells.no fun h => H6.out (HQ.out.2 h).2.2⟩
        ·go_wp2_with fail
         go_ret
         exact ⟨_, rfl, G.out, Tells.no fun h => H5.out (HQ.out.2 h).2.1⟩
     ·have HNo := Lib.hid (show ¬ SiteOK M from fun h => by have := h.2.2.2.2.1; omega)
      have r0 : ¬ (M.sites.length : Int) < 1 := (by omega); have r1 : ¬ (4 : Int) < (M.sites.length : Int) := (by omega); have r2 : ¬ (16 : Int) < (M.feeds.length : Int) := (by omega); have r3 : ¬ (16 : Int) < (M.racks.length : Int) := (by omega); have r4 : ¬ (M.machs.length : Int) < 1 := (by omega); have r5 : ¬ (16 : Int) < (M.machs.length : Int) := (by omega); have r6 : (12 : Int) < (M.links.length : Int) := (by omega)
      have HM := Lib.hid hm
      have B := Cells.new w (mcells P M) 29
      clear hm
      have m0 := mc0 B.2 _ (Gr.refl _)
      have m1 := mc1 B.2 _ (Gr.refl _)
      have m2 := mc2 B.2 _ (Gr.refl _)
      have m3 := mc3 B.2 _ (Gr.refl _)
      have m4 := mc4 B.2 _ (Gr.refl _)
      have m5 := mc5 B.2 _ (Gr.refl _)
      have m6 := mc6 B.2 _ (Gr.refl _)
      have m7 := mc7 B.2 _ (Gr.refl _)
      have m8 := mc8 B.2 _ (Gr.refl _)
      have m9 := mc9 B.2 _ (Gr.refl _)
      have m10 := mc10 B.2 _ (Gr.refl _)
      unfold mcells at B m0 m1 m2 m3 m4 m5 m6 m7 m8 m9 m10 ⊢
      go_enter Tryz.func61, Tryz.ntmps61
      go_wp2_with fail
      clear m0 m1 m2 m3 m4 m5 m6 m7 m8 m9 m10
      generalize w.heap.size = bm at B ⊢
      generalize w.alloc _ = W at B ⊢
      obtain ⟨g0, tm⟩ := B
      have TM := Lib.hid (show Cells W bm (mcells P M) from tm)
      have G := Lib.hid g0
      have HM := Lib.hid (HM.out.grow g0)
      clear g0 tm
      have m0 := mc0 TM.out _ (Gr.refl _)
      have m1 := mc1 TM.out _ (Gr.refl _)
      have m2 := mc2 TM.out _ (Gr.refl _)
      have m3 := mc3 TM.out _ (Gr.refl _)
      have m4 := mc4 TM.out _ (Gr.refl _)
      have m5 := mc5 TM.out _ (Gr.refl _)
      have m6 := mc6 TM.out _ (Gr.refl _)
      have m7 := mc7 TM.out _ (Gr.refl _)
      have m8 := mc8 TM.out _ (Gr.refl _)
      have m9 := mc9 TM.out _ (Gr.refl _)
      have m10 := mc10 TM.out _ (Gr.refl _)
      clear m0 m1 m2 m3 m4 m5 m6 m7 m8 m9 m10
      obtain ⟨p0, c0, p1, c1, p2, c2, p3, c3, p4, c4, p5, c5, p6, c6⟩ := P
      try dsimp only
      go_ret
      exact ⟨_, rfl, G.out, Tells.no HNo.out⟩
    ·by_cases z : M.machs.length < 1
     ·have HNo := Lib.hid (show ¬ SiteOK M from fun h => q4 h.2.2.2.1)
      have r0 : ¬ (M.sites.length : Int) < 1 := (by omega); have r1 : ¬ (4 : Int) < (M.sites.length : Int) := (by omega); have r2 : ¬ (16 : Int) < (M.feeds.length : Int) := (by omega); have r3 : ¬ (16 : Int) < (M.racks.length : Int) := (by omega); have r4 : (M.machs.length : Int) < 1 := (by omega)
      have HM := Lib.hid hm
      have B := Cells.new w (mcells P M) 29
      clear hm
      have m0 := mc0 B.2 _ (Gr.refl _)
      have m1 := mc1 B.2 _ (Gr.refl _)
      have m2 := mc2 B.2 _ (Gr.refl _)
      have m3 := mc3 B.2 _ (Gr.refl _)
      have m4 := mc4 B.2 _ (Gr.refl _)
      have m5 := mc5 B.2 _ (Gr.refl _)
      have m6 := mc6 B.2 _ (Gr.refl _)
      have m7 := mc7 B.2 _ (Gr.refl _)
      have m8 := mc8 B.2 _ (Gr.refl _)
      have m9 := mc9 B.2 _ (Gr.refl _)
      have m10 := mc10 B.2 _ (Gr.refl _)
      unfold mcells at B m0 m1 m2 m3 m4 m5 m6 m7 m8 m9 m10 ⊢
      go_enter Tryz.func61, Tryz.ntmps61
      go_wp2_with fail
      clear m0 m1 m2 m3 m4 m5 m6 m7 m8 m9 m10
      generalize w.heap.size = bm at B ⊢
      generalize w.alloc _ = W at B ⊢
      obtain ⟨g0, tm⟩ := B
      have TM := Lib.hid (show Cells W bm (mcells P M) from tm)
      have G := Lib.hid g0
      have HM := Lib.hid (HM.out.grow g0)
      clear g0 tm
      have m0 := mc0 TM.out _ (Gr.refl _)
      have m1 := mc1 TM.out _ (Gr.refl _)
      have m2 := mc2 TM.out _ (Gr.refl _)
      have m3 := mc3 TM.out _ (Gr.refl _)
      have m4 := mc4 TM.out _ (Gr.refl _)
      have m5 := mc5 TM.out _ (Gr.refl _)
      have m6 := mc6 TM.out _ (Gr.refl _)
      have m7 := mc7 TM.out _ (Gr.refl _)
      have m8 := mc8 TM.out _ (Gr.refl _)
      have m9 := mc9 TM.out _ (Gr.refl _)
      have m10 := mc10 TM.out _ (Gr.refl _)
      clear m0 m1 m2 m3 m4 m5 m6 m7 m8 m9 m10
      obtain ⟨p0, c0, p1, c1, p2, c2, p3, c3, p4, c4, p5, c5, p6, c6⟩ := P
      try dsimp only
      go_ret
      exact ⟨_, rfl, G.out, Tells.no HNo.out⟩
     ·have HNo := Lib.hid (show ¬ SiteOK M from fun h => q4 h.2.2.2.1)
      have r0 : ¬ (M.sites.length : Int) < 1 := (by omega); have r1 : ¬ (4 : Int) < (M.sites.length : Int) := (by omega); have r2 : ¬ (16 : Int) < (M.feeds.length : Int) := (by omega); have r3 : ¬ (16 : Int) < (M.racks.length : Int) := (by omega); have r4 : ¬ (M.machs.length : Int) < 1 := (by omega); have r5 : (16 : Int) < (M.machs.length : Int) := (by omega)
      have HM := Lib.hid hm
      have B := Cells.new w (mcells P M) 29
      clear hm
      have m0 := mc0 B.2 _ (Gr.refl _)
      have m1 := mc1 B.2 _ (Gr.refl _)
      have m2 := mc2 B.2 _ (Gr.refl _)
      have m3 := mc3 B.2 _ (Gr.refl _)
      have m4 := mc4 B.2 _ (Gr.refl _)
      have m5 := mc5 B.2 _ (Gr.refl _)
      have m6 := mc6 B.2 _ (Gr.refl _)
      have m7 := mc7 B.2 _ (Gr.refl _)
      have m8 := mc8 B.2 _ (Gr.refl _)
      have m9 := mc9 B.2 _ (Gr.refl _)
      have m10 := mc10 B.2 _ (Gr.refl _)
      unfold mcells at B m0 m1 m2 m3 m4 m5 m6 m7 m8 m9 m10 ⊢
      go_enter Tryz.func61, Tryz.ntmps61
      go_wp2_with fail
      clear m0 m1 m2 m3 m4 m5 m6 m7 m8 m9 m10
      generalize w.heap.size = bm at B ⊢
      generalize w.alloc _ = W at B ⊢
      obtain ⟨g0, tm⟩ := B
      have TM := Lib.hid (show Cells W bm (mcells P M) from tm)
      have G := Lib.hid g0
      have HM := Lib.hid (HM.out.grow g0)
      clear g0 tm
      have m0 := mc0 TM.out _ (Gr.refl _)
      have m1 := mc1 TM.out _ (Gr.refl _)
      have m2 := mc2 TM.out _ (Gr.refl _)
      have m3 := mc3 TM.out _ (Gr.refl _)
      have m4 := mc4 TM.out _ (Gr.refl _)
      have m5 := mc5 TM.out _ (Gr.refl _)
      have m6 := mc6 TM.out _ (Gr.refl _)
      have m7 := mc7 TM.out _ (Gr.refl _)
      have m8 := mc8 TM.out _ (Gr.refl _)
      have m9 := mc9 TM.out _ (Gr.refl _)
      have m10 := mc10 TM.out _ (Gr.refl _)
      clear m0 m1 m2 m3 m4 m5 m6 m7 m8 m9 m10
      obtain ⟨p0, c0, p1, c1, p2, c2, p3, c3, p4, c4, p5, c5, p6, c6⟩ := P
      try dsimp only
      go_ret
      exact ⟨_, rfl, G.out, Tells.no HNo.out⟩
   ·have HNo := Lib.hid (show ¬ SiteOK M from fun h => by have := h.2.2.1; omega)
    have r0 : ¬ (M.sites.length : Int) < 1 := (by omega); have r1 : ¬ (4 : Int) < (M.sites.length : Int) := (by omega); have r2 : ¬ (16 : Int) < (M.feeds.length : Int) := (by omega); have r3 : (16 : Int) < (M.racks.length : Int) := (by omega)
    have HM := Lib.hid hm
    have B := Cells.new w (mcells P M) 29
    clear hm
    have m0 := mc0 B.2 _ (Gr.refl _)
    have m1 := mc1 B.2 _ (Gr.refl _)
    have m2 := mc2 B.2 _ (Gr.refl _)
    have m3 := mc3 B.2 _ (Gr.refl _)
    have m4 := mc4 B.2 _ (Gr.refl _)
    have m5 := mc5 B.2 _ (Gr.refl _)
    have m6 := mc6 B.2 _ (Gr.refl _)
    have m7 := mc7 B.2 _ (Gr.refl _)
    have m8 := mc8 B.2 _ (Gr.refl _)
    have m9 := mc9 B.2 _ (Gr.refl _)
    have m10 := mc10 B.2 _ (Gr.refl _)
    unfold mcells at B m0 m1 m2 m3 m4 m5 m6 m7 m8 m9 m10 ⊢
    go_enter Tryz.func61, Tryz.ntmps61
    go_wp2_with fail
    clear m0 m1 m2 m3 m4 m5 m6 m7 m8 m9 m10
    generalize w.heap.size = bm at B ⊢
    generalize w.alloc _ = W at B ⊢
    obtain ⟨g0, tm⟩ := B
    have TM := Lib.hid (show Cells W bm (mcells P M) from tm)
    have G := Lib.hid g0
    have HM := Lib.hid (HM.out.grow g0)
    clear g0 tm
    have m0 := mc0 TM.out _ (Gr.refl _)
    have m1 := mc1 TM.out _ (Gr.refl _)
    have m2 := mc2 TM.out _ (Gr.refl _)
    have m3 := mc3 TM.out _ (Gr.refl _)
    have m4 := mc4 TM.out _ (Gr.refl _)
    have m5 := mc5 TM.out _ (Gr.refl _)
    have m6 := mc6 TM.out _ (Gr.refl _)
    have m7 := mc7 TM.out _ (Gr.refl _)
    have m8 := mc8 TM.out _ (Gr.refl _)
    have m9 := mc9 TM.out _ (Gr.refl _)
    have m10 := mc10 TM.out _ (Gr.refl _)
    clear m0 m1 m2 m3 m4 m5 m6 m7 m8 m9 m10
    obtain ⟨p0, c0, p1, c1, p2, c2, p3, c3, p4, c4, p5, c5, p6, c6⟩ := P
    try dsimp only
    go_ret
    exact ⟨_, rfl, G.out, Tells.no HNo.out⟩
  ·have HNo := Lib.hid (show ¬ SiteOK M from fun h => by have := h.2.1; omega)
   have r0 : ¬ (M.sites.length : Int) < 1 := (by omega); have r1 : ¬ (4 : Int) < (M.sites.length : Int) := (by omega); have r2 : (16 : Int) < (M.feeds.length : Int) := (by omega)
   have HM := Lib.hid hm
   have B := Cells.new w (mcells P M) 29
   clear hm
   have m0 := mc0 B.2 _ (Gr.refl _)
   have m1 := mc1 B.2 _ (Gr.refl _)
   have m2 := mc2 B.2 _ (Gr.refl _)
   have m3 := mc3 B.2 _ (Gr.refl _)
   have m4 := mc4 B.2 _ (Gr.refl _)
   have m5 := mc5 B.2 _ (Gr.refl _)
   have m6 := mc6 B.2 _ (Gr.refl _)
   have m7 := mc7 B.2 _ (Gr.refl _)
   have m8 := mc8 B.2 _ (Gr.refl _)
   have m9 := mc9 B.2 _ (Gr.refl _)
   have m10 := mc10 B.2 _ (Gr.refl _)
   unfold mcells at B m0 m1 m2 m3 m4 m5 m6 m7 m8 m9 m10 ⊢
   go_enter Tryz.func61, Tryz.ntmps61
   go_wp2_with fail
   clear m0 m1 m2 m3 m4 m5 m6 m7 m8 m9 m10
   generalize w.heap.size = bm at B ⊢
   generalize w.alloc _ = W at B ⊢
   obtain ⟨g0, tm⟩ := B
   have TM := Lib.hid (show Cells W bm (mcells P M) from tm)
   have G := Lib.hid g0
   have HM := Lib.hid (HM.out.grow g0)
   clear g0 tm
   have m0 := mc0 TM.out _ (Gr.refl _)
   have m1 := mc1 TM.out _ (Gr.refl _)
   have m2 := mc2 TM.out _ (Gr.refl _)
   have m3 := mc3 TM.out _ (Gr.refl _)
   have m4 := mc4 TM.out _ (Gr.refl _)
   have m5 := mc5 TM.out _ (Gr.refl _)
   have m6 := mc6 TM.out _ (Gr.refl _)
   have m7 := mc7 TM.out _ (Gr.refl _)
   have m8 := mc8 TM.out _ (Gr.refl _)
   have m9 := mc9 TM.out _ (Gr.refl _)
   have m10 := mc10 TM.out _ (Gr.refl _)
   clear m0 m1 m2 m3 m4 m5 m6 m7 m8 m9 m10
   obtain ⟨p0, c0, p1, c1, p2, c2, p3, c3, p4, c4, p5, c5, p6, c6⟩ := P
   try dsimp only
   go_ret
   exact ⟨_, rfl, G.out, Tells.no HNo.out⟩
 ·by_cases z : M.sites.length < 1
  ·have HNo := Lib.hid (show ¬ SiteOK M from fun h => q0 h.1)
   have r0 : (M.sites.length : Int) < 1 := (by omega)
   have HM := Lib.hid hm
   have B := Cells.new w (mcells P M) 29
   clear hm
   have m0 := mc0 B.2 _ (Gr.refl _)
   have m1 := mc1 B.2 _ (Gr.refl _)
   have m2 := mc2 B.2 _ (Gr.refl _)
   have m3 := mc3 B.2 _ (Gr.refl _)
   have m4 := mc4 B.2 _ (Gr.refl _)
   have m5 := mc5 B.2 _ (Gr.refl _)
   have m6 := mc6 B.2 _ (Gr.refl _)
   have m7 := mc7 B.2 _ (Gr.refl _)
   have m8 := mc8 B.2 _ (Gr.refl _)
   have m9 := mc9 B.2 _ (Gr.refl _)
   have m10 := mc10 B.2 _ (Gr.refl _)
   unfold mcells at B m0 m1 m2 m3 m4 m5 m6 m7 m8 m9 m10 ⊢
   go_enter Tryz.func61, Tryz.ntmps61
   go_wp2_with fail
   clear m0 m1 m2 m3 m4 m5 m6 m7 m8 m9 m10
   generalize w.heap.size = bm at B ⊢
   generalize w.alloc _ = W at B ⊢
   obtain ⟨g0, tm⟩ := B
   have TM := Lib.hid (show Cells W bm (mcells P M) from tm)
   have G := Lib.hid g0
   have HM := Lib.hid (HM.out.grow g0)
   clear g0 tm
   have m0 := mc0 TM.out _ (Gr.refl _)
   have m1 := mc1 TM.out _ (Gr.refl _)
   have m2 := mc2 TM.out _ (Gr.refl _)
   have m3 := mc3 TM.out _ (Gr.refl _)
   have m4 := mc4 TM.out _ (Gr.refl _)
   have m5 := mc5 TM.out _ (Gr.refl _)
   have m6 := mc6 TM.out _ (Gr.refl _)
   have m7 := mc7 TM.out _ (Gr.refl _)
   have m8 := mc8 TM.out _ (Gr.refl _)
   have m9 := mc9 TM.out _ (Gr.refl _)
   have m10 := mc10 TM.out _ (Gr.refl _)
   clear m0 m1 m2 m3 m4 m5 m6 m7 m8 m9 m10
   obtain ⟨p0, c0, p1, c1, p2, c2, p3, c3, p4, c4, p5, c5, p6, c6⟩ := P
   try dsimp only
   go_ret
   exact ⟨_, rfl, G.out, Tells.no HNo.out⟩
  ·have HNo := Lib.hid (show ¬ SiteOK M from fun h => q0 h.1)
   have r0 : ¬ (M.sites.length : Int) < 1 := (by omega); have r1 : (4 : Int) < (M.sites.length : Int) := (by omega)
   have HM := Lib.hid hm
   have B := Cells.new w (mcells P M) 29
   clear hm
   have m0 := mc0 B.2 _ (Gr.refl _)
   have m1 := mc1 B.2 _ (Gr.refl _)
   have m2 := mc2 B.2 _ (Gr.refl _)
   have m3 := mc3 B.2 _ (Gr.refl _)
   have m4 := mc4 B.2 _ (Gr.refl _)
   have m5 := mc5 B.2 _ (Gr.refl _)
   have m6 := mc6 B.2 _ (Gr.refl _)
   have m7 := mc7 B.2 _ (Gr.refl _)
   have m8 := mc8 B.2 _ (Gr.refl _)
   have m9 := mc9 B.2 _ (Gr.refl _)
   have m10 := mc10 B.2 _ (Gr.refl _)
   unfold mcells at B m0 m1 m2 m3 m4 m5 m6 m7 m8 m9 m10 ⊢
   go_enter Tryz.func61, Tryz.ntmps61
   go_wp2_with fail
   clear m0 m1 m2 m3 m4 m5 m6 m7 m8 m9 m10
   generalize w.heap.size = bm at B ⊢
   generalize w.alloc _ = W at B ⊢
   obtain ⟨g0, tm⟩ := B
   have TM := Lib.hid (show Cells W bm (mcells P M) from tm)
   have G := Lib.hid g0
   have HM := Lib.hid (HM.out.grow g0)
   clear g0 tm
   have m0 := mc0 TM.out _ (Gr.refl _)
   have m1 := mc1 TM.out _ (Gr.refl _)
   have m2 := mc2 TM.out _ (Gr.refl _)
   have m3 := mc3 TM.out _ (Gr.refl _)
   have m4 := mc4 TM.out _ (Gr.refl _)
   have m5 := mc5 TM.out _ (Gr.refl _)
   have m6 := mc6 TM.out _ (Gr.refl _)
   have m7 := mc7 TM.out _ (Gr.refl _)
   have m8 := mc8 TM.out _ (Gr.refl _)
   have m9 := mc9 TM.out _ (Gr.refl _)
   have m10 := mc10 TM.out _ (Gr.refl _)
   clear m0 m1 m2 m3 m4 m5 m6 m7 m8 m9 m10
   obtain ⟨p0, c0, p1, c1, p2, c2, p3, c3, p4, c4, p5, c5, p6, c6⟩ := P
   try dsimp only
   go_ret
   exact ⟨_, rfl, G.out, Tells.no HNo.out⟩
end Go.Proofs.YtnlocdijdfclcaaGreatDoor

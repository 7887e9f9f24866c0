/-
  exodusref14.Few.
  awake of chapter 15.
-/
import Derived.Test.YtdekicijinmakaaGreatDoorSiteA
import Derived.Test.YtdekicijinmakaaGreatDoorCatZ
import Derived.Test.YtdekicijinmakaaGreatDoorFind
import Derived.Test.YtdekicijinmakaaGreatDoorLoad
namespace Go.Proofs.YtdekicijinmakaaGreatDoor
open Go.RowKit Go.Lib Lex
set_option linter.unusedVariables false
set_option linter.unusedSimpArgs false

set_option maxRecDepth 100000 in
set_option maxHeartbeats 1600000 in
theorem ref_Few (w : World) (P : Ptrs) (M : Mdl) (hm : MdlAt w P M) :
    Calls Tryz.prog 11 #[.agg (mcells P M)] w (Ret w fun r _ => Tells (Few M) r) := by
  by_cases h0 : (24 : Int) < (M.sites.length : Int)
  · have HM := Lib.hid hm
    have B := Cells.new w (mcells P M) 29
    clear hm
    have m0 := mc0 B.2 _ (Gr.refl _)
    have m1 := mc1 B.2 _ (Gr.refl _)
    have m2 := mc2 B.2 _ (Gr.refl _)
    have m3 := mc3 B.2 _ (Gr.refl _)
    have m4 := mc4 B.2 _ (Gr.refl _)
    have m5 := mc5 B.2 _ (Gr.refl _)
    have m6 := mc6 B.2 _ (Gr.refl _)
    have m7 := mc7 B.2 _ (Gr.refl _)
    have m8 := mc8 B.2 _ (Gr.refl _)
    have m9 := mc9 B.2 _ (Gr.refl _)
    have m10 := mc10 B.2 _ (Gr.refl _)
    unfold mcells at B m0 m1 m2 m3 m4 m5 m6 m7 m8 m9 m10 ⊢
    go_enter Tryz.func11, Tryz.ntmps11
    go_wp2_with fail
    clear m0 m1 m2 m3 m4 m5 m6 m7 m8 m9 m10
    generalize w.heap.size = bm at B ⊢
    generalize w.alloc _ = W at B ⊢
    obtain ⟨g0, tm⟩ := B
    have TM := Lib.hid (show Cells W bm (mcells P M) from tm)
    have G := Lib.hid g0
    have HM := Lib.hid (HM.out.grow g0)
    clear g0 tm
    have m0 := mc0 TM.out _ (Gr.refl _)
    have m1 := mc1 TM.out _ (Gr.refl _)
    have m2 := mc2 TM.out _ (Gr.refl _)
    have m3 := mc3 TM.out _ (Gr.refl _)
    have m4 := mc4 TM.out _ (Gr.refl _)
    have m5 := mc5 TM.out _ (Gr.refl _)
    have m6 := mc6 TM.out _ (Gr.refl _)
    have m7 := mc7 TM.out _ (Gr.refl _)
    have m8 := mc8 TM.out _ (Gr.refl _)
    have m9 := mc9 TM.out _ (Gr.refl _)
    have m10 := mc10 TM.out _ (Gr.refl _)
    go_ret
    exact ⟨_, rfl, G.out, Tells.no fun h => by have := h.1; omega⟩
  by_cases h1 : (24 : Int) < (M.feeds.length : Int)
  · have HM := Lib.hid hm
    have B := Cells.new w (mcells P M) 29
    clear hm
    have m0 := mc0 B.2 _ (Gr.refl _)
    have m1 := mc1 B.2 _ (Gr.refl _)
    have m2 := mc2 B.2 _ (Gr.refl _)
    have m3 := mc3 B.2 _ (Gr.refl _)
    have m4 := mc4 B.2 _ (Gr.refl _)
    have m5 := mc5 B.2 _ (Gr.refl _)
    have m6 := mc6 B.2 _ (Gr.refl _)
    have m7 := mc7 B.2 _ (Gr.refl _)
    have m8 := mc8 B.2 _ (Gr.refl _)
    have m9 := mc9 B.2 _ (Gr.refl _)
    have m10 := mc10 B.2 _ (Gr.refl _)
    unfold mcells at B m0 m1 m2 m3 m4 m5 m6 m7 m8 m9 m10 ⊢
    go_enter Tryz.func11, Tryz.ntmps11
    go_wp2_with fail
    clear m0 m1 m2 m3 m4 m5 m6 m7 m8 m9 m10
    generalize w.heap.size = bm at B ⊢
    generalize w.alloc _ = W at B ⊢
    obtain ⟨g0, tm⟩ := B
    have TM := Lib.hid (show Cells W bm (mcells P M) from tm)
    have G := Lib.hid g0
    have HM := Lib.hid (HM.out.grow g0)
    clear g0 tm
    have m0 := mc0 TM.out _ (Gr.refl _)
    have m1 := mc1 TM.out _ (Gr.refl _)
    have m2 := mc2 TM.out _ (Gr.refl _)
    have m3 := mc3 TM.out _ (Gr.refl _)
    have m4 := mc4 TM.out _ (Gr.refl _)
    have m5 := mc5 TM.out _ (Gr.refl _)
    have m6 := mc6 TM.out _ (Gr.refl _)
    have m7 := mc7 TM.out _ (Gr.refl _)
    have m8 := mc8 TM.out _ (Gr.refl _)
    have m9 := mc9 TM.out _ (Gr.refl _)
    have m10 := mc10 TM.out _ (Gr.refl _)
    go_ret
    exact ⟨_, rfl, G.out, Tells.no fun h => by have := h.1; omega⟩
  by_cases h2 : (24 : Int) < (M.racks.length : Int)
  · have HM := Lib.hid hm
    have B := Cells.new w (mcells P M) 29
    clear hm
    have m0 := mc0 B.2 _ (Gr.refl _)
    have m1 := mc1 B.2 _ (Gr.refl _)
    have m2 := mc2 B.2 _ (Gr.refl _)
    have m3 := mc3 B.2 _ (Gr.refl _)
    have m4 := mc4 B.2 _ (Gr.refl _)
    have m5 := mc5 B.2 _ (Gr.refl _)
    have m6 := mc6 B.2 _ (Gr.refl _)
    have m7 := mc7 B.2 _ (Gr.refl _)
    have m8 := mc8 B.2 _ (Gr.refl _)
    have m9 := mc9 B.2 _ (Gr.refl _)
    have m10 := mc10 B.2 _ (Gr.refl _)
    unfold mcells at B m0 m1 m2 m3 m4 m5 m6 m7 m8 m9 m10 ⊢
    go_enter Tryz.func11, Tryz.ntmps11
    go_wp2_with fail
    clear m0 m1 m2 m3 m4 m5 m6 m7 m8 m9 m10
    generalize w.heap.size = bm at B ⊢
    generalize w.alloc _ = W at B ⊢
    obtain ⟨g0, tm⟩ := B
    have TM := Lib.hid (show Cells W bm (mcells P M) from tm)
    have G := Lib.hid g0
    have HM := Lib.hid (HM.out.grow g0)
    clear g0 tm
    have m0 := mc0 TM.out _ (Gr.refl _)
    have m1 := mc1 TM.out _ (Gr.refl _)
    have m2 := mc2 TM.out _ (Gr.refl _)
    have m3 := mc3 TM.out _ (Gr.refl _)
    have m4 := mc4 TM.out _ (Gr.refl _)
    have m5 := mc5 TM.out _ (Gr.refl _)
    have m6 := mc6 TM.out _ (Gr.refl _)
    have m7 := mc7 TM.out _ (Gr.refl _)
    have m8 := mc8 TM.out _ (Gr.refl _)
    have m9 := mc9 TM.out _ (Gr.refl _)
    have m10 := mc10 TM.out _ (Gr.refl _)
    go_ret
    exact ⟨_, rfl, G.out, Tells.no fun h => by have := h.1; omega⟩
  by_cases h3 : (24 : Int) < (M.machs.length : Int)
  · have HM := Lib.hid hm
    have B := Cells.new w (mcells P M) 29
    clear hm
    have m0 := mc0 B.2 _ (Gr.refl _)
    have m1 := mc1 B.2 _ (Gr.refl _)
    have m2 := mc2 B.2 _ (Gr.refl _)
    have m3 := mc3 B.2 _ (Gr.refl _)
    have m4 := mc4 B.2 _ (Gr.refl _)
    have m5 := mc5 B.2 _ (Gr.refl _)
    have m6 := mc6 B.2 _ (Gr.refl _)
    have m7 := mc7 B.2 _ (Gr.refl _)
    have m8 := mc8 B.2 _ (Gr.refl _)
    have m9 := mc9 B.2 _ (Gr.refl _)
    have m10 := mc10 B.2 _ (Gr.refl _)
    unfold mcells at B m0 m1 m2 m3 m4 m5 m6 m7 m8 m9 m10 ⊢
    go_enter Tryz.func11, Tryz.ntmps11
    go_wp2_with fail
    clear m0 m1 m2 m3 m4 m5 m6 m7 m8 m9 m10
    generalize w.heap.size = bm at B ⊢
    generalize w.alloc _ = W at B ⊢
    obtain ⟨g0, tm⟩ := B
    have TM := Lib.hid (show Cells W bm (mcells P M) from tm)
    have G := Lib.hid g0
    have HM := Lib.hid (HM.out.grow g0)
    clear g0 tm
    have m0 := mc0 TM.out _ (Gr.refl _)
    have m1 := mc1 TM.out _ (Gr.refl _)
    have m2 := mc2 TM.out _ (Gr.refl _)
    have m3 := mc3 TM.out _ (Gr.refl _)
    have m4 := mc4 TM.out _ (Gr.refl _)
    have m5 := mc5 TM.out _ (Gr.refl _)
    have m6 := mc6 TM.out _ (Gr.refl _)
    have m7 := mc7 TM.out _ (Gr.refl _)
    have m8 := mc8 TM.out _ (Gr.refl _)
    have m9 := mc9 TM.out _ (Gr.refl _)
    have m10 := mc10 TM.out _ (Gr.refl _)
    go_ret
    exact ⟨_, rfl, G.out, Tells.no fun h => by have := h.1; omega⟩
  by_cases h4 : (24 : Int) < (M.links.length : Int)
  · have HM := Lib.hid hm
    have B := Cells.new w (mcells P M) 29
    clear hm
    have m0 := mc0 B.2 _ (Gr.refl _)
    have m1 := mc1 B.2 _ (Gr.refl _)
    have m2 := mc2 B.2 _ (Gr.refl _)
    have m3 := mc3 B.2 _ (Gr.refl _)
    have m4 := mc4 B.2 _ (Gr.refl _)
    have m5 := mc5 B.2 _ (Gr.refl _)
    have m6 := mc6 B.2 _ (Gr.refl _)
    have m7 := mc7 B.2 _ (Gr.refl _)
    have m8 := mc8 B.2 _ (Gr.refl _)
    have m9 := mc9 B.2 _ (Gr.refl _)
    have m10 := mc10 B.2 _ (Gr.refl _)
    unfold mcells at B m0 m1 m2 m3 m4 m5 m6 m7 m8 m9 m10 ⊢
    go_enter Tryz.func11, Tryz.ntmps11
    go_wp2_with fail
    clear m0 m1 m2 m3 m4 m5 m6 m7 m8 m9 m10
    generalize w.heap.size = bm at B ⊢
    generalize w.alloc _ = W at B ⊢
    obtain ⟨g0, tm⟩ := B
    have TM := Lib.hid (show Cells W bm (mcells P M) from tm)
    have G := Lib.hid g0
    have HM := Lib.hid (HM.out.grow g0)
    clear g0 tm
    have m0 := mc0 TM.out _ (Gr.refl _)
    have m1 := mc1 TM.out _ (Gr.refl _)
    have m2 := mc2 TM.out _ (Gr.refl _)
    have m3 := mc3 TM.out _ (Gr.refl _)
    have m4 := mc4 TM.out _ (Gr.refl _)
    have m5 := mc5 TM.out _ (Gr.refl _)
    have m6 := mc6 TM.out _ (Gr.refl _)
    have m7 := mc7 TM.out _ (Gr.refl _)
    have m8 := mc8 TM.out _ (Gr.refl _)
    have m9 := mc9 TM.out _ (Gr.refl _)
    have m10 := mc10 TM.out _ (Gr.refl _)
    go_ret
    exact ⟨_, rfl, G.out, Tells.no fun h => by have := h.1; omega⟩
  by_cases h5 : (24 : Int) < (M.items.length : Int)
  · have HM := Lib.hid hm
    have B := Cells.new w (mcells P M) 29
    clear hm
    have m0 := mc0 B.2 _ (Gr.refl _)
    have m1 := mc1 B.2 _ (Gr.refl _)
    have m2 := mc2 B.2 _ (Gr.refl _)
    have m3 := mc3 B.2 _ (Gr.refl _)
    have m4 := mc4 B.2 _ (Gr.refl _)
    have m5 := mc5 B.2 _ (Gr.refl _)
    have m6 := mc6 B.2 _ (Gr.refl _)
    have m7 := mc7 B.2 _ (Gr.refl _)
    have m8 := mc8 B.2 _ (Gr.refl _)
    have m9 := mc9 B.2 _ (Gr.refl _)
    have m10 := mc10 B.2 _ (Gr.refl _)
    unfold mcells at B m0 m1 m2 m3 m4 m5 m6 m7 m8 m9 m10 ⊢
    go_enter Tryz.func11, Tryz.ntmps11
    go_wp2_with fail
    clear m0 m1 m2 m3 m4 m5 m6 m7 m8 m9 m10
    generalize w.heap.size = bm at B ⊢
    generalize w.alloc _ = W at B ⊢
    obtain ⟨g0, tm⟩ := B
    have TM := Lib.hid (show Cells W bm (mcells P M) from tm)
    have G := Lib.hid g0
    have HM := Lib.hid (HM.out.grow g0)
    clear g0 tm
    have m0 := mc0 TM.out _ (Gr.refl _)
    have m1 := mc1 TM.out _ (Gr.refl _)
    have m2 := mc2 TM.out _ (Gr.refl _)
    have m3 := mc3 TM.out _ (Gr.refl _)
    have m4 := mc4 TM.out _ (Gr.refl _)
    have m5 := mc5 TM.out _ (Gr.refl _)
    have m6 := mc6 TM.out _ (Gr.refl _)
    have m7 := mc7 TM.out _ (Gr.refl _)
    have m8 := mc8 TM.out _ (Gr.refl _)
    have m9 := mc9 TM.out _ (Gr.refl _)
    have m10 := mc10 TM.out _ (Gr.refl _)
    go_ret
    exact ⟨_, rfl, G.out, Tells.no fun h => by have := h.1; omega⟩
  by_cases h6 : (48 : Int) < (M.rules.length : Int)
  · have HM := Lib.hid hm
    have B := Cells.new w (mcells P M) 29
    clear hm
    have m0 := mc0 B.2 _ (Gr.refl _)
    have m1 := mc1 B.2 _ (Gr.refl _)
    have m2 := mc2 B.2 _ (Gr.refl _)
    have m3 := mc3 B.2 _ (Gr.refl _)
    have m4 := mc4 B.2 _ (Gr.refl _)
    have m5 := mc5 B.2 _ (Gr.refl _)
    have m6 := mc6 B.2 _ (Gr.refl _)
    have m7 := mc7 B.2 _ (Gr.refl _)
    have m8 := mc8 B.2 _ (Gr.refl _)
    have m9 := mc9 B.2 _ (Gr.refl _)
    have m10 := mc10 B.2 _ (Gr.refl _)
    unfold mcells at B m0 m1 m2 m3 m4 m5 m6 m7 m8 m9 m10 ⊢
    go_enter Tryz.func11, Tryz.ntmps11
    go_wp2_with fail
    clear m0 m1 m2 m3 m4 m5 m6 m7 m8 m9 m10
    generalize w.heap.size = bm at B ⊢
    generalize w.alloc _ = W at B ⊢
    obtain ⟨g0, tm⟩ := B
    have TM := Lib.hid (show Cells W bm (mcells P M) from tm)
    have G := Lib.hid g0
    have HM := Lib.hid (HM.out.grow g0)
    clear g0 tm
    have m0 := mc0 TM.out _ (Gr.refl _)
    have m1 := mc1 TM.out _ (Gr.refl _)
    have m2 := mc2 TM.out _ (Gr.refl _)
    have m3 := mc3 TM.out _ (Gr.refl _)
    have m4 := mc4 TM.out _ (Gr.refl _)
    have m5 := mc5 TM.out _ (Gr.refl _)
    have m6 := mc6 TM.out _ (Gr.refl _)
    have m7 := mc7 TM.out _ (Gr.refl _)
    have m8 := mc8 TM.out _ (Gr.refl _)
    have m9 := mc9 TM.out _ (Gr.refl _)
    have m10 := mc10 TM.out _ (Gr.refl _)
    go_ret
    exact ⟨_, rfl, G.out, Tells.no fun h => by have := h.1; omega⟩
  have HM := Lib.hid hm
  have B := Cells.new w (mcells P M) 29
  clear hm
  have m0 := mc0 B.2 _ (Gr.refl _)
  have m1 := mc1 B.2 _ (Gr.refl _)
  have m2 := mc2 B.2 _ (Gr.refl _)
  have m3 := mc3 B.2 _ (Gr.refl _)
  have m4 := mc4 B.2 _ (Gr.refl _)
  have m5 := mc5 B.2 _ (Gr.refl _)
  have m6 := mc6 B.2 _ (Gr.refl _)
  have m7 := mc7 B.2 _ (Gr.refl _)
  have m8 := mc8 B.2 _ (Gr.refl _)
  have m9 := mc9 B.2 _ (Gr.refl _)
  have m10 := mc10 B.2 _ (Gr.refl _)
  unfold mcells at B m0 m1 m2 m3 m4 m5 m6 m7 m8 m9 m10 ⊢
  go_enter Tryz.func11, Tryz.ntmps11
  go_wp2_with fail
  clear m0 m1 m2 m3 m4 m5 m6 m7 m8 m9 m10
  generalize w.heap.size = bm at B ⊢
  generalize w.alloc _ = W at B ⊢
  obtain ⟨g0, tm⟩ := B
  have TM := Lib.hid (show Cells W bm (mcells P M) from tm)
  have G := Lib.hid g0
  have HM := Lib.hid (HM.out.grow g0)
  clear g0 tm
  have m0 := mc0 TM.out _ (Gr.refl _)
  have m1 := mc1 TM.out _ (Gr.refl _)
  have m2 := mc2 TM.out _ (Gr.refl _)
  have m3 := mc3 TM.out _ (Gr.refl _)
  have m4 := mc4 TM.out _ (Gr.refl _)
  have m5 := mc5 TM.out _ (Gr.refl _)
  have m6 := mc6 TM.out _ (Gr.refl _)
  have m7 := mc7 TM.out _ (Gr.refl _)
  have m8 := mc8 TM.out _ (Gr.refl _)
  have m9 := mc9 TM.out _ (Gr.refl _)
  have m10 := mc10 TM.out _ (Gr.refl _)
  clear m0 m1 m2 m3 m4 m5 m6 m7 m8 m9 m10
  have HQ := Lib.hid (show (0 : Int) ≤ 100 ↔ True by simp)
  have HL := Lib.hid (show M.sites.length ≤ 24 ∧ M.feeds.length ≤ 24 ∧ M.racks.length ≤ 24 ∧ M.machs.length ≤ 24 ∧ M.links.length ≤ 24 ∧ M.items.length ≤ 24 ∧ M.rules.length ≤ 48 by omega)
  clear h0 h1 h2 h3 h4 h5 h6
  go_loopw [3, 4] (fun v i w1 => ∃ (k : Nat) (n : Int), v = .int .i64 n ∧ i = .int .i64 (k : Int) ∧ k ≤ M.sites.length ∧ (n ≤ 100 ↔ (True) ∧ ∀ j x, j < k → M.sites[j]? = some x → x.length ≤ 100) ∧ Gr W w1) (fun _ i _ => M.sites.length - (RowKit.intOf i).toNat)
  case atStart => exact ⟨0, _, rfl, rfl, Nat.zero_le _, ⟨fun h => ⟨HQ.out.1 h, fun j x hj => by omega⟩, fun h => HQ.out.2 h.1⟩, Gr.refl _⟩
  case round =>
    clear HQ
    obtain ⟨k, n, rfl, rfl, hk, hq, hg⟩ := hrel
    have HP := Lib.hid hq
    have G := Lib.hid (G.out.trans hg)
    have HM := Lib.hid (HM.out.grow hg)
    have TM := Lib.hid (TM.out.grow hg)
    have GL := Lib.hid hg
    clear hq hg
    have hbig := HM.out.big
    by_cases hlt : k < M.sites.length
    · have hlt' : (k : Int) < (M.sites.length : Int) := by omega
      obtain ⟨b, o, x, hpp, hx, hc⟩ := str_at HM.out.sites rfl hlt
      have HX := Lib.hid hx
      have m := mc0 TM.out _ (Gr.refl _)
      have mp := mc0 TM.out
      rw [hpp] at m mp
      have c0 := hc _ (Gr.refl _)
      clear hx hpp hc mp
      go_wp2_with fail
      have GZ := GL
      refine ⟨⟨k + 1, _, rfl, by go_num, by omega, ⟨fun h => ⟨(HP.out.1 (by omega)).1, fun j y hj hy => ?_⟩, fun h => ?_⟩, GZ.out⟩, by simp [RowKit.intOf]; omega⟩
      · rcases Nat.lt_or_ge j k with hjk | hjk
        · exact (HP.out.1 (by omega)).2 j y hjk hy
        · obtain rfl : j = k := by omega
          have e : y = x := by have := hy.symm.trans HX.out; simpa using this
          subst e
          omega
      · have h1 := HP.out.2 ⟨h.1, fun j y hj hy => h.2 j y (by omega) hy⟩
        have h2 := h.2 k x (by omega) HX.out
        omega
    · obtain rfl : k = M.sites.length := by omega
      have m := mc0 TM.out _ (Gr.refl _)
      have HQ := Lib.hid (show n ≤ 100 ↔ ((True) ∧ ∀ x ∈ M.sites, x.length ≤ 100) from HP.out.trans ⟨fun h => ⟨h.1, fun x hx => by
        obtain ⟨i, hi, e⟩ := List.getElem_of_mem hx
        exact h.2 i x hi (by rw [List.getElem?_eq_getElem hi, e])⟩, fun h => ⟨h.1, fun j x _ hx => h.2 x (List.mem_of_getElem? hx)⟩⟩)
      clear HP
      go_wp2_with fail
      clear m
      go_loopw [3, 5] (fun v i w1 => ∃ (k : Nat) (n : Int), v = .int .i64 n ∧ i = .int .i64 (k : Int) ∧ k ≤ M.feeds.length ∧ (n ≤ 100 ↔ ((True) ∧ ∀ x ∈ M.sites, x.length ≤ 100) ∧ ∀ j x, j < k → M.feeds[j]? = some x → x.length ≤ 100) ∧ Gr wr w1) (fun _ i _ => M.feeds.length - (RowKit.intOf i).toNat)
      case atStart => exact ⟨0, _, rfl, rfl, Nat.zero_le _, ⟨fun h => ⟨HQ.out.1 h, fun j x hj => by omega⟩, fun h => HQ.out.2 h.1⟩, Gr.refl _⟩
      case round =>
        clear HQ
        obtain ⟨k, n, rfl, rfl, hk, hq, hg⟩ := hrel
        have HP := Lib.hid hq
        have G := Lib.hid (G.out.trans hg)
        have HM := Lib.hid (HM.out.grow hg)
        have TM := Lib.hid (TM.out.grow hg)
        have GL := Lib.hid hg
        clear hq hg
        have hbig := HM.out.big
        by_cases hlt : k < M.feeds.length
        · have hlt' : (k : Int) < (M.feeds.length : Int) := by omega
          obtain ⟨b, o, x, hpp, hx, hc⟩ := str_at HM.out.feeds rfl hlt
          have HX := Lib.hid hx
          have m := mc1 TM.out _ (Gr.refl _)
          have mp := mc1 TM.out
          rw [hpp] at m mp
          have c0 := hc _ (Gr.refl _)
          clear hx hpp hc mp
          go_wp2_with fail
          have GZ := GL
          refine ⟨⟨k + 1, _, rfl, by go_num, by omega, ⟨fun h => ⟨(HP.out.1 (by omega)).1, fun j y hj hy => ?_⟩, fun h => ?_⟩, GZ.out⟩, by simp [RowKit.intOf]; omega⟩
          · rcases Nat.lt_or_ge j k with hjk | hjk
            · exact (HP.out.1 (by omega)).2 j y hjk hy
            · obtain rfl : j = k := by omega
              have e : y = x := by have := hy.symm.trans HX.out; simpa using this
              subst e
              omega
          · have h1 := HP.out.2 ⟨h.1, fun j y hj hy => h.2 j y (by omega) hy⟩
            have h2 := h.2 k x (by omega) HX.out
            omega
        · obtain rfl : k = M.feeds.length := by omega
          have m := mc1 TM.out _ (Gr.refl _)
          have HQ := Lib.hid (show n ≤ 100 ↔ (((True) ∧ ∀ x ∈ M.sites, x.length ≤ 100) ∧ ∀ x ∈ M.feeds, x.length ≤ 100) from HP.out.trans ⟨fun h => ⟨h.1, fun x hx => by
            obtain ⟨i, hi, e⟩ := List.getElem_of_mem hx
            exact h.2 i x hi (by rw [List.getElem?_eq_getElem hi, e])⟩, fun h => ⟨h.1, fun j x _ hx => h.2 x (List.mem_of_getElem? hx)⟩⟩)
          clear HP
          go_wp2_with fail
          clear m
          go_loopw [3, 6] (fun v i w1 => ∃ (k : Nat) (n : Int), v = .int .i64 n ∧ i = .int .i64 (k : Int) ∧ k ≤ M.racks.length ∧ (n ≤ 100 ↔ (((True) ∧ ∀ x ∈ M.sites, x.length ≤ 100) ∧ ∀ x ∈ M.feeds, x.length ≤ 100) ∧ ∀ j x, j < k → M.racks[j]? = some x → x.name.length ≤ 100) ∧ Gr wr w1) (fun _ i _ => M.racks.length - (RowKit.intOf i).toNat)
          case atStart => exact ⟨0, _, rfl, rfl, Nat.zero_le _, ⟨fun h => ⟨HQ.out.1 h, fun j x hj => by omega⟩, fun h => HQ.out.2 h.1⟩, Gr.refl _⟩
          case round =>
            clear HQ
            obtain ⟨k, n, rfl, rfl, hk, hq, hg⟩ := hrel
            have HP := Lib.hid hq
            have G := Lib.hid (G.out.trans hg)
            have HM := Lib.hid (HM.out.grow hg)
            have TM := Lib.hid (TM.out.grow hg)
            have GL := Lib.hid hg
            clear hq hg
            have hbig := HM.out.big
            by_cases hlt : k < M.racks.length
            · have hlt' : (k : Int) < (M.racks.length : Int) := by omega
              obtain ⟨b, o, x, hpp, hx, hc⟩ := rack_at HM.out.racks rfl hlt
              have HX := Lib.hid hx
              have m := mc2 TM.out _ (Gr.refl _)
              have mp := mc2 TM.out
              rw [hpp] at m mp
              have c0 := (hc _ (Gr.refl _)).1
              clear hx hpp hc mp
              go_wp2_with fail
              have GZ := GL
              refine ⟨⟨k + 1, _, rfl, by go_num, by omega, ⟨fun h => ⟨(HP.out.1 (by omega)).1, fun j y hj hy => ?_⟩, fun h => ?_⟩, GZ.out⟩, by simp [RowKit.intOf]; omega⟩
              · rcases Nat.lt_or_ge j k with hjk | hjk
                · exact (HP.out.1 (by omega)).2 j y hjk hy
                · obtain rfl : j = k := by omega
                  have e : y = x := by have := hy.symm.trans HX.out; simpa using this
                  subst e
                  omega
              · have h1 := HP.out.2 ⟨h.1, fun j y hj hy => h.2 j y (by omega) hy⟩
                have h2 := h.2 k x (by omega) HX.out
                omega
            · obtain rfl : k = M.racks.length := by omega
              have m := mc2 TM.out _ (Gr.refl _)
              have HQ := Lib.hid (show n ≤ 100 ↔ ((((True) ∧ ∀ x ∈ M.sites, x.length ≤ 100) ∧ ∀ x ∈ M.feeds, x.length ≤ 100) ∧ ∀ x ∈ M.racks, x.name.length ≤ 100) from HP.out.trans ⟨fun h => ⟨h.1, fun x hx => by
                obtain ⟨i, hi, e⟩ := List.getElem_of_mem hx
                exact h.2 i x hi (by rw [List.getElem?_eq_getElem hi, e])⟩, fun h => ⟨h.1, fun j x _ hx => h.2 x (List.mem_of_getElem? hx)⟩⟩)
              clear HP
              go_wp2_with fail
              clear m
              go_loopw [3, 7] (fun v i w1 => ∃ (k : Nat) (n : Int), v = .int .i64 n ∧ i = .int .i64 (k : Int) ∧ k ≤ M.machs.length ∧ (n ≤ 100 ↔ ((((True) ∧ ∀ x ∈ M.sites, x.length ≤ 100) ∧ ∀ x ∈ M.feeds, x.length ≤ 100) ∧ ∀ x ∈ M.racks, x.name.length ≤ 100) ∧ ∀ j x, j < k → M.machs[j]? = some x → x.name.length ≤ 100) ∧ Gr wr w1) (fun _ i _ => M.machs.length - (RowKit.intOf i).toNat)
              case atStart => exact ⟨0, _, rfl, rfl, Nat.zero_le _, ⟨fun h => ⟨HQ.out.1 h, fun j x hj => by omega⟩, fun h => HQ.out.2 h.1⟩, Gr.refl _⟩
              case round =>
                clear HQ
                obtain ⟨k, n, rfl, rfl, hk, hq, hg⟩ := hrel
                have HP := Lib.hid hq
                have G := Lib.hid (G.out.trans hg)
                have HM := Lib.hid (HM.out.grow hg)
                have TM := Lib.hid (TM.out.grow hg)
                have GL := Lib.hid hg
                clear hq hg
                have hbig := HM.out.big
                by_cases hlt : k < M.machs.length
                · have hlt' : (k : Int) < (M.machs.length : Int) := by omega
                  obtain ⟨b, o, x, hpp, hx, hc⟩ := mach_at HM.out.machs rfl hlt
                  have HX := Lib.hid hx
                  have m := mc3 TM.out _ (Gr.refl _)
                  have mp := mc3 TM.out
                  rw [hpp] at m mp
                  have c0 := (hc _ (Gr.refl _)).1
                  clear hx hpp hc mp
                  go_wp2_with fail
                  have GZ := GL
                  refine ⟨⟨k + 1, _, rfl, by go_num, by omega, ⟨fun h => ⟨(HP.out.1 (by omega)).1, fun j y hj hy => ?_⟩, fun h => ?_⟩, GZ.out⟩, by simp [RowKit.intOf]; omega⟩
                  · rcases Nat.lt_or_ge j k with hjk | hjk
                    · exact (HP.out.1 (by omega)).2 j y hjk hy
                    · obtain rfl : j = k := by omega
                      have e : y = x := by have := hy.symm.trans HX.out; simpa using this
                      subst e
                      omega
                  · have h1 := HP.out.2 ⟨h.1, fun j y hj hy => h.2 j y (by omega) hy⟩
                    have h2 := h.2 k x (by omega) HX.out
                    omega
                · obtain rfl : k = M.machs.length := by omega
                  have m := mc3 TM.out _ (Gr.refl _)
                  have HQ := Lib.hid (show n ≤ 100 ↔ (((((True) ∧ ∀ x ∈ M.sites, x.length ≤ 100) ∧ ∀ x ∈ M.feeds, x.length ≤ 100) ∧ ∀ x ∈ M.racks, x.name.length ≤ 100) ∧ ∀ x ∈ M.machs, x.name.length ≤ 100) from HP.out.trans ⟨fun h => ⟨h.1, fun x hx => by
                    obtain ⟨i, hi, e⟩ := List.getElem_of_mem hx
                    exact h.2 i x hi (by rw [List.getElem?_eq_getElem hi, e])⟩, fun h => ⟨h.1, fun j x _ hx => h.2 x (List.mem_of_getElem? hx)⟩⟩)
                  clear HP
                  go_wp2_with fail
                  clear m
                  go_loopw [3, 8] (fun v i w1 => ∃ (k : Nat) (n : Int), v = .int .i64 n ∧ i = .int .i64 (k : Int) ∧ k ≤ M.items.length ∧ (n ≤ 100 ↔ (((((True) ∧ ∀ x ∈ M.sites, x.length ≤ 100) ∧ ∀ x ∈ M.feeds, x.length ≤ 100) ∧ ∀ x ∈ M.racks, x.name.length ≤ 100) ∧ ∀ x ∈ M.machs, x.name.length ≤ 100) ∧ ∀ j x, j < k → M.items[j]? = some x → (x.name.length ≤ 100 ∧ x.on.length ≤ 25)) ∧ Gr wr w1) (fun _ i _ => M.items.length - (RowKit.intOf i).toNat)
                  case atStart => exact ⟨0, _, rfl, rfl, Nat.zero_le _, ⟨fun h => ⟨HQ.out.1 h, fun j x hj => by omega⟩, fun h => HQ.out.2 h.1⟩, Gr.refl _⟩
                  case round =>
                    clear HQ
                    obtain ⟨k, n, rfl, rfl, hk, hq, hg⟩ := hrel
                    have HP := Lib.hid hq
                    have G := Lib.hid (G.out.trans hg)
                    have HM := Lib.hid (HM.out.grow hg)
                    have TM := Lib.hid (TM.out.grow hg)
                    have GL := Lib.hid hg
                    clear hq hg
                    have hbig := HM.out.big
                    by_cases hlt : k < M.items.length
                    · have hlt' : (k : Int) < (M.items.length : Int) := by omega
                      obtain ⟨b, o, x, hpp, hx, hc⟩ := item_at HM.out.items rfl hlt
                      have HX := Lib.hid hx
                      have m := mc5 TM.out _ (Gr.refl _)
                      have mp := mc5 TM.out
                      rw [hpp] at m mp
                      have c0 := fun w' g => (hc w' g).1
                      have c6 := fun w' g => (hc w' g).2.2.2.2.2.2
                      have hob := HM.out.onb x (List.mem_of_getElem? hx)
                      have hw4 : IntKind.i64.wrap (4 * (x.on.length : Int)) = 4 * (x.on.length : Int) := by rw [IntKind.wrap_i64]; omega
                      clear hx hpp hc
                      go_wp2_with fail
                      clear m
                      have g0 : Gr wr wr.drew := (Gr.refl _).drew
                      refine wp_region_fast [(0, true), (1, true), (2, true), (3, true), (4, true), (5, true), (6, true), (7, true), (8, true), (9, true), (10, true), (11, true), (12, true), (13, true), (14, true), (15, true), (16, true), (17, true)] (by kernel_rfl) (by kernel_rfl) rfl (by kernel_rfl) (fun _ _ d _ _ h => by cases d <;> exact h) ?_
                      repeat (refine wpE_readB (v := ?_) g0 rfl rfl (fun w' hg => ?_) (fun K hK => ?_); rotate_left; (go_simp; rfl); go_simp; refine hK _ _ ?_; clear hK K)
                      refine wpE_nil ?_
                      go_wp2_with fail
                      have GZ := Lib.hid (GL.out.trans g0)
                      refine ⟨⟨k + 1, _, rfl, by go_num, by omega, ⟨fun h => ⟨(HP.out.1 (by omega)).1, fun j y hj hy => ?_⟩, fun h => ?_⟩, GZ.out⟩, by simp [RowKit.intOf]; omega⟩
                      · rcases Nat.lt_or_ge j k with hjk | hjk
                        · exact (HP.out.1 (by omega)).2 j y hjk hy
                        · obtain rfl : j = k := by omega
                          have e : y = x := by have := hy.symm.trans HX.out; simpa using this
                          subst e
                          omega
                      · have h1 := HP.out.2 ⟨h.1, fun j y hj hy => h.2 j y (by omega) hy⟩
                        have h2 := h.2 k x (by omega) HX.out
                        omega
                    · obtain rfl : k = M.items.length := by omega
                      have m := mc5 TM.out _ (Gr.refl _)
                      have HQ := Lib.hid (show n ≤ 100 ↔ ((((((True) ∧ ∀ x ∈ M.sites, x.length ≤ 100) ∧ ∀ x ∈ M.feeds, x.length ≤ 100) ∧ ∀ x ∈ M.racks, x.name.length ≤ 100) ∧ ∀ x ∈ M.machs, x.name.length ≤ 100) ∧ ∀ x ∈ M.items, (x.name.length ≤ 100 ∧ x.on.length ≤ 25)) from HP.out.trans ⟨fun h => ⟨h.1, fun x hx => by
                        obtain ⟨i, hi, e⟩ := List.getElem_of_mem hx
                        exact h.2 i x hi (by rw [List.getElem?_eq_getElem hi, e])⟩, fun h => ⟨h.1, fun j x _ hx => h.2 x (List.mem_of_getElem? hx)⟩⟩)
                      clear HP
                      go_wp2_with fail
                      clear m
                      go_loopw [3, 9] (fun v i w1 => ∃ (k : Nat) (n : Int), v = .int .i64 n ∧ i = .int .i64 (k : Int) ∧ k ≤ M.rules.length ∧ (n ≤ 100 ↔ ((((((True) ∧ ∀ x ∈ M.sites, x.length ≤ 100) ∧ ∀ x ∈ M.feeds, x.length ≤ 100) ∧ ∀ x ∈ M.racks, x.name.length ≤ 100) ∧ ∀ x ∈ M.machs, x.name.length ≤ 100) ∧ ∀ x ∈ M.items, (x.name.length ≤ 100 ∧ x.on.length ≤ 25)) ∧ ∀ j x, j < k → M.rules[j]? = some x → x.ms.length ≤ 25) ∧ Gr wr w1) (fun _ i _ => M.rules.length - (RowKit.intOf i).toNat)
                      case atStart => exact ⟨0, _, rfl, rfl, Nat.zero_le _, ⟨fun h => ⟨HQ.out.1 h, fun j x hj => by omega⟩, fun h => HQ.out.2 h.1⟩, Gr.refl _⟩
                      case round =>
                        clear HQ
                        obtain ⟨k, n, rfl, rfl, hk, hq, hg⟩ := hrel
                        have HP := Lib.hid hq
                        have G := Lib.hid (G.out.trans hg)
                        have HM := Lib.hid (HM.out.grow hg)
                        have TM := Lib.hid (TM.out.grow hg)
                        have GL := Lib.hid hg
                        clear hq hg
                        have hbig := HM.out.big
                        by_cases hlt : k < M.rules.length
                        · have hlt' : (k : Int) < (M.rules.length : Int) := by omega
                          obtain ⟨b, o, x, hpp, hx, hc⟩ := rule_at HM.out.rules rfl hlt
                          have HX := Lib.hid hx
                          have m := mc10 TM.out _ (Gr.refl _)
                          have mp := mc10 TM.out
                          rw [hpp] at m mp
                          have c6 := (hc _ (Gr.refl _)).2.2.2.2.2.2
                          have hob := HM.out.msb x (List.mem_of_getElem? hx)
                          have hw4 : IntKind.i64.wrap (4 * (x.ms.length : Int)) = 4 * (x.ms.length : Int) := by rw [IntKind.wrap_i64]; omega
                          clear hx hpp hc mp
                          go_wp2_with fail
                          have GZ := GL
                          refine ⟨⟨k + 1, _, rfl, by go_num, by omega, ⟨fun h => ⟨(HP.out.1 (by omega)).1, fun j y hj hy => ?_⟩, fun h => ?_⟩, GZ.out⟩, by simp [RowKit.intOf]; omega⟩
                          · rcases Nat.lt_or_ge j k with hjk | hjk
                            · exact (HP.out.1 (by omega)).2 j y hjk hy
                            · obtain rfl : j = k := by omega
                              have e : y = x := by have := hy.symm.trans HX.out; simpa using this
                              subst e
                              omega
                          · have h1 := HP.out.2 ⟨h.1, fun j y hj hy => h.2 j y (by omega) hy⟩
                            have h2 := h.2 k x (by omega) HX.out
                            omega
                        · obtain rfl : k = M.rules.length := by omega
                          have m := mc10 TM.out _ (Gr.refl _)
                          have HQ := Lib.hid (show n ≤ 100 ↔ (((((((True) ∧ ∀ x ∈ M.sites, x.length ≤ 100) ∧ ∀ x ∈ M.feeds, x.length ≤ 100) ∧ ∀ x ∈ M.racks, x.name.length ≤ 100) ∧ ∀ x ∈ M.machs, x.name.length ≤ 100) ∧ ∀ x ∈ M.items, (x.name.length ≤ 100 ∧ x.on.length ≤ 25)) ∧ ∀ x ∈ M.rules, x.ms.length ≤ 25) from HP.out.trans ⟨fun h => ⟨h.1, fun x hx => by
                            obtain ⟨i, hi, e⟩ := List.getElem_of_mem hx
                            exact h.2 i x hi (by rw [List.getElem?_eq_getElem hi, e])⟩, fun h => ⟨h.1, fun j x _ hx => h.2 x (List.mem_of_getElem? hx)⟩⟩)
                          clear HP
                          go_wp2_with fail
                          clear m
                          go_ret
                          have q := HQ.out
                          have l := HL.out
                          by_cases hn : n ≤ 100
                          · obtain ⟨⟨⟨⟨⟨⟨_, q1⟩, q2⟩, q3⟩, q4⟩, q5⟩, q6⟩ := q.1 hn
                            exact ⟨_, rfl, G.out, _, rfl, by simp only [decide_eq_true_eq]; exact ⟨fun _ => ⟨l, q1, q2, q3, q4, q5, q6⟩, fun _ => hn⟩⟩
                          · exact ⟨_, rfl, G.out, _, rfl, by simp only [decide_eq_true_eq]; exact ⟨fun h => absurd h hn, fun h => absurd (q.2 ⟨⟨⟨⟨⟨⟨trivial, h.2.1⟩, h.2.2.1⟩, h.2.2.2.1⟩, h.2.2.2.2.1⟩, h.2.2.2.2.2.1⟩, h.2.2.2.2.2.2⟩) hn⟩⟩
end Go.Proofs.YtdekicijinmakaaGreatDoor
namespace Go.Proofs.YtdekicijinmakaaGreatDoor
open Go.RowKit Go.Lib Lex
set_option linter.unusedVariables false
set_option linter.unusedSimpArgs false

theorem sound1 {α : Type} {ok : α → List α → Prop} {a : α} (h : ok a []) : Sound ok [a] := fun i x hx => by
  match i with
  | 0 => simp at hx; subst hx; exact h
  | n + 1 => simp at hx
theorem sound2 {α : Type} {ok : α → List α → Prop} {a b : α} (h : ok a []) (k : ok b [a]) : Sound ok [a, b] := fun i x hx => by
  match i with
  | 0 => simp at hx; subst hx; exact h
  | 1 => simp at hx; subst hx; exact k
  | n + 2 => simp at hx
theorem namesOK_of {l : List (List UInt8)} (h : ∀ i : Fin l.length, isName l[i] = true ∧ ¬ l[i] ∈ l.take i) : NamesOK l := fun i s hs => by
  obtain ⟨hi, rfl⟩ := List.getElem?_eq_some_iff.1 hs
  exact h ⟨i, hi⟩
theorem exFew (q : Option Addr) : Few (exM q) := by
  unfold Few exM exM0
  simp
theorem exOK (q : Option Addr) : MdlOK (exM q) := by
  refine ⟨⟨⟨by simp [exM, exM0], by simp [exM, exM0]⟩, by simp [exM, exM0], by simp [exM, exM0], ⟨by simp [exM, exM0], by simp [exM, exM0]⟩, by simp [exM, exM0], sound1 ?_, sound2 ?_ ?_, sound1 ?_⟩, ?_, ?_, ?_, fun x hx => ?_, fun x hx => ?_, ?_, ?_, ?_, ?_⟩
  · exact ⟨by unfold Ex exM exM0; simp, by unfold Ex exM exM0; simp, fun y hy => by cases hy⟩
  · exact ⟨by unfold Ex exM exM0; simp, by unfold Amount; simp⟩
  · exact ⟨by unfold Ex exM exM0; simp, by unfold Amount; simp⟩
  · exact ⟨by simp, by simp, by unfold exM exM0; simp, by unfold Amount; simp, fun y hy => by cases hy⟩
  · unfold exM; simp
  · unfold exM exM0; simp
  · show NamesOK [[97], [98], [102], [114], [109, 49], [109, 50], [100, 98]]
    exact namesOK_of (by decide)
  · obtain rfl : x = _ := List.mem_singleton.1 hx
    refine ⟨.inl ⟨rfl, .inl rfl, rfl⟩, ⟨by simp, fun i n hn => ?_⟩, by unfold Within; simp, by unfold Within; simp, by unfold Within; simp⟩
    match i with
    | 0 => simp at hn; subst hn; exact ⟨by unfold Ex exM exM0; simp, fun h => by omega⟩
    | n + 1 => simp at hn
  · cases hx
  · unfold Ex exM exM0; simp
  · unfold Within exM exM0; simp
  · unfold Within exM exM0; simp
  · unfold Within exM exM0; simp
theorem exFits (q : Option Addr) : FitsM (exM q) := fun i x hx => by
  match i with
  | 0 => simp [exM, exM0] at hx; subst hx; show loadW (exM q) 1 ≤ 10; have : loadW (exM q) 1 = 0 := (by kernel_rfl); omega
  | 1 => simp [exM, exM0] at hx; subst hx; show loadW (exM q) 2 ≤ 5; have : loadW (exM q) 2 = 4 := (by kernel_rfl); omega
  | n + 2 => simp [exM, exM0] at hx
end Go.Proofs.YtdekicijinmakaaGreatDoor

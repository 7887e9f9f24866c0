/-
  The law CatalogNamed.
-/
import Derived.Test.YtammehbflilbiaaGreatDoorExb
import Derived.Test.YtammehbflilbiaaGreatDoorOpen
import Derived.Test.YtammehbflilbiaaGreatDoorLwb
namespace Go.Proofs.YtammehbflilbiaaGreatDoor
open Go.RowKit Go.Lib Lex
set_option linter.unusedVariables false
set_option linter.unusedSimpArgs false

theorem numbered_mem {α : Type} {f : α → List UInt8 × Int} {l : List α} {e : Entry} (h : e ∈ numbered f l) : ∃ (i : Nat) (x : α), l[i]? = some x ∧ e = ((f x).1, (f x).2, (i : Int) + 1) := by
  obtain ⟨i, hi, he⟩ := List.mem_iff_getElem.1 h
  have hl : i < l.length := by rwa [numbered_len] at hi
  have h1 := numbered_get f l (List.getElem?_eq_getElem hl)
  rw [List.getElem?_eq_getElem hi, he] at h1
  exact ⟨i, _, List.getElem?_eq_getElem hl, by injection h1⟩
theorem kindOf_ne (n : Int) : kindOf n ≠ 0 ∧ kindOf n ≠ 1 ∧ kindOf n ≠ 2 ∧ kindOf n ≠ 3 := by
  unfold kindOf
  split
  · simp
  · split <;> simp
theorem named_of {M : Mdl} {k n : Int} {i O S : Nat} {x : List UInt8} (hn : n = (i : Int) + 1) (hs : sizeOf' M k = S) (ho : offOf M k = O) (hi : i < S) (hx : (names M)[O + i]? = some x) : namedM M k n = x := by
  unfold namedM
  rw [hs, ho, if_neg (by omega), hn, show O + ((i : Int) + 1).toNat - 1 = O + i by omega, List.getD, hx]; rfl
theorem named_entry {M : Mdl} {e : Entry} (h : e ∈ entries M) : namedM M e.2.1 e.2.2 = e.1 ∧ 1 ≤ e.2.2 ∧ e.2.2 ≤ (names M).length := by
  have hl := names_len' M
  unfold entries secs at h
  simp only [List.flatten_cons, List.flatten_nil, List.append_nil, List.mem_append] at h
  rcases h with h | h | h | h | h
  · obtain ⟨i, x, hx, rfl⟩ := numbered_mem h
    have := (List.getElem?_eq_some_iff.1 hx).1
    exact ⟨named_of (i := i) rfl rfl rfl this (by simpa [offOf] using names_at0 hx), by dsimp only; omega, by dsimp only; omega⟩
  · obtain ⟨i, x, hx, rfl⟩ := numbered_mem h
    have := (List.getElem?_eq_some_iff.1 hx).1
    exact ⟨named_of (i := i) rfl rfl rfl this (by simpa [offOf] using names_at1 hx), by dsimp only; omega, by dsimp only; omega⟩
  · obtain ⟨i, x, hx, rfl⟩ := numbered_mem h
    have := (List.getElem?_eq_some_iff.1 hx).1
    exact ⟨named_of (i := i) rfl rfl rfl this (by simpa [offOf] using names_at2 hx), by dsimp only; omega, by dsimp only; omega⟩
  · obtain ⟨i, x, hx, rfl⟩ := numbered_mem h
    have := (List.getElem?_eq_some_iff.1 hx).1
    exact ⟨named_of (i := i) rfl rfl rfl this (by simpa [offOf] using names_at3 hx), by dsimp only; omega, by dsimp only; omega⟩
  · obtain ⟨i, x, hx, rfl⟩ := numbered_mem h
    have := (List.getElem?_eq_some_iff.1 hx).1
    have hk := kindOf_ne x.kind
    exact ⟨named_of (i := i) (S := M.items.length) (O := M.sites.length + M.feeds.length + M.racks.length + M.machs.length) rfl (by unfold sizeOf'; simp [hk]) (by unfold offOf; simp [hk]) this (by simpa using names_at4 hx), by dsimp only; omega, by dsimp only; omega⟩
theorem find_has {M : Mdl} {s : List UInt8} (h : s ∈ names M) : ∃ e, findM M s = some e ∧ e ∈ entries M ∧ e.1 = s := by
  rw [← entries_names, List.mem_map] at h
  obtain ⟨e, he, rfl⟩ := h
  unfold findM
  cases hf : (entries M).find? fun x => x.1 == e.1 with
  | none => rw [List.find?_eq_none] at hf; exact absurd (hf e he) (by simp)
  | some x => exact ⟨x, rfl, List.mem_of_find?_eq_some hf, by have := List.find?_some hf; simpa using this⟩
theorem find_no {M : Mdl} {s : List UInt8} (h : ¬ s ∈ names M) : findM M s = none := by
  unfold findM
  rw [List.find?_eq_none]
  intro x hx
  have : x.1 ≠ s := fun e => h (by rw [← entries_names, ← e]; exact List.mem_map.2 ⟨x, hx, rfl⟩)
  simpa using this
set_option maxRecDepth 100000 in
set_option maxHeartbeats 1600000 in
theorem law_CatalogNamed (w : World) (ht : Tab w) (P : Ptrs) (M : Mdl) (hm : MdlAt w P M) (hr : MdlR M) :
    Calls Tryz.prog 4 #[.agg (mcells P M)] w (Ret w fun r _ => r = .bool true) := by
  have HT := Lib.hid ht
  clear ht hr
  have HM := Lib.hid hm
  have B := Cells.new w (mcells P M) 29
  clear hm
  have m0 := mc0 B.2 _ (Gr.refl _)
  have m1 := mc1 B.2 _ (Gr.refl _)
  have m2 := mc2 B.2 _ (Gr.refl _)
  have m3 := mc3 B.2 _ (Gr.refl _)
  have m4 := mc4 B.2 _ (Gr.refl _)
  have m5 := mc5 B.2 _ (Gr.refl _)
  have m6 := mc6 B.2 _ (Gr.refl _)
  have m7 := mc7 B.2 _ (Gr.refl _)
  have m8 := mc8 B.2 _ (Gr.refl _)
  have m9 := mc9 B.2 _ (Gr.refl _)
  have m10 := mc10 B.2 _ (Gr.refl _)
  unfold mcells at B m0 m1 m2 m3 m4 m5 m6 m7 m8 m9 m10 ⊢
  go_enter Tryz.func4, Tryz.ntmps4
  go_wp2_with fail
  clear m0 m1 m2 m3 m4 m5 m6 m7 m8 m9 m10
  generalize w.heap.size = bm at B ⊢
  generalize w.alloc _ = W at B ⊢
  obtain ⟨g0, tm⟩ := B
  have TM := Lib.hid (show Cells W bm (mcells P M) from tm)
  have G := Lib.hid g0
  have HM := Lib.hid (HM.out.grow g0)
  clear g0 tm
  have m0 := mc0 TM.out _ (Gr.refl _)
  have m1 := mc1 TM.out _ (Gr.refl _)
  have m2 := mc2 TM.out _ (Gr.refl _)
  have m3 := mc3 TM.out _ (Gr.refl _)
  have m4 := mc4 TM.out _ (Gr.refl _)
  have m5 := mc5 TM.out _ (Gr.refl _)
  have m6 := mc6 TM.out _ (Gr.refl _)
  have m7 := mc7 TM.out _ (Gr.refl _)
  have m8 := mc8 TM.out _ (Gr.refl _)
  have m9 := mc9 TM.out _ (Gr.refl _)
  have m10 := mc10 TM.out _ (Gr.refl _)
  have HT := Lib.hid (HT.out.grow G.out)
  clear m0 m1 m2 m3 m4 m5 m6 m7 m8 m9 m10
  refine (law_awake W HT.out).mono ?_
  rintro _ w1 ⟨_, rfl, g1, rfl⟩
  have G := Lib.hid (G.out.trans g1)
  have TM := Lib.hid (TM.out.grow g1)
  have HM := Lib.hid (HM.out.grow g1)
  have HT := Lib.hid (HT.out.grow g1)
  clear g1
  have m0 := mc0 TM.out _ (Gr.refl _)
  have m1 := mc1 TM.out _ (Gr.refl _)
  have m2 := mc2 TM.out _ (Gr.refl _)
  have m3 := mc3 TM.out _ (Gr.refl _)
  have m4 := mc4 TM.out _ (Gr.refl _)
  have m5 := mc5 TM.out _ (Gr.refl _)
  have m6 := mc6 TM.out _ (Gr.refl _)
  have m7 := mc7 TM.out _ (Gr.refl _)
  have m8 := mc8 TM.out _ (Gr.refl _)
  have m9 := mc9 TM.out _ (Gr.refl _)
  have m10 := mc10 TM.out _ (Gr.refl _)
  go_wp2_with fail
  clear m0 m1 m2 m3 m4 m5 m6 m7 m8 m9 m10
  refine (ref_Few _ P M HM.out).mono ?_
  rintro _ w2 ⟨r2, rfl, g2, h⟩
  have G := Lib.hid (G.out.trans g2)
  have TM := Lib.hid (TM.out.grow g2)
  have HM := Lib.hid (HM.out.grow g2)
  have HT := Lib.hid (HT.out.grow g2)
  clear g2
  rcases h.cases with ⟨rfl, k1⟩ | ⟨rfl, k1⟩
  · have HF := Lib.hid k1
    clear h k1
    have m0 := mc0 TM.out _ (Gr.refl _)
    have m1 := mc1 TM.out _ (Gr.refl _)
    have m2 := mc2 TM.out _ (Gr.refl _)
    have m3 := mc3 TM.out _ (Gr.refl _)
    have m4 := mc4 TM.out _ (Gr.refl _)
    have m5 := mc5 TM.out _ (Gr.refl _)
    have m6 := mc6 TM.out _ (Gr.refl _)
    have m7 := mc7 TM.out _ (Gr.refl _)
    have m8 := mc8 TM.out _ (Gr.refl _)
    have m9 := mc9 TM.out _ (Gr.refl _)
    have m10 := mc10 TM.out _ (Gr.refl _)
    go_wp2_with fail
    clear m0 m1 m2 m3 m4 m5 m6 m7 m8 m9 m10
    refine (ref_Valid15 _ P M HM.out HF.out).mono ?_
    rintro _ w3 ⟨r3, rfl, g3, h⟩
    have G := Lib.hid (G.out.trans g3)
    have TM := Lib.hid (TM.out.grow g3)
    have HM := Lib.hid (HM.out.grow g3)
    have HT := Lib.hid (HT.out.grow g3)
    clear g3
    rcases h.cases with ⟨rfl, k1⟩ | ⟨rfl, k1⟩
    · have HV := Lib.hid k1
      clear h k1
      have m0 := mc0 TM.out _ (Gr.refl _)
      have m1 := mc1 TM.out _ (Gr.refl _)
      have m2 := mc2 TM.out _ (Gr.refl _)
      have m3 := mc3 TM.out _ (Gr.refl _)
      have m4 := mc4 TM.out _ (Gr.refl _)
      have m5 := mc5 TM.out _ (Gr.refl _)
      have m6 := mc6 TM.out _ (Gr.refl _)
      have m7 := mc7 TM.out _ (Gr.refl _)
      have m8 := mc8 TM.out _ (Gr.refl _)
      have m9 := mc9 TM.out _ (Gr.refl _)
      have m10 := mc10 TM.out _ (Gr.refl _)
      go_wp2_with fail
      clear m0 m1 m2 m3 m4 m5 m6 m7 m8 m9 m10
      refine (cat_Names _ P M HM.out HF.out).mono ?_
      rintro _ w4 ⟨r4, rfl, g4, hs⟩
      have G := Lib.hid (G.out.trans g4)
      have TM := Lib.hid (TM.out.grow g4)
      have HM := Lib.hid (HM.out.grow g4)
      have HT := Lib.hid (HT.out.grow g4)
      clear g4
      obtain ⟨p, c, rfl, _, hc9⟩ := hs.parts
      have HL := Lib.hid hs
      have hfew := HF.out.1
      have hnl := names_len' M
      have hn0 := names_len HF.out
      have hwa : IntKind.i64.wrap ((M.sites.length : Int) + (M.feeds.length : Int)) = (M.sites.length : Int) + (M.feeds.length : Int) := by rw [IntKind.wrap_i64]; omega
      have hwb : IntKind.i64.wrap ((M.sites.length : Int) + (M.feeds.length : Int) + (M.racks.length : Int)) = (M.sites.length : Int) + (M.feeds.length : Int) + (M.racks.length : Int) := by rw [IntKind.wrap_i64]; omega
      have hwc : IntKind.i64.wrap ((M.sites.length : Int) + (M.feeds.length : Int) + (M.racks.length : Int) + (M.machs.length : Int)) = (M.sites.length : Int) + (M.feeds.length : Int) + (M.racks.length : Int) + (M.machs.length : Int) := by rw [IntKind.wrap_i64]; omega
      have hwd : IntKind.i64.wrap ((M.sites.length : Int) + (M.feeds.length : Int) + (M.racks.length : Int) + (M.machs.length : Int) + (M.items.length : Int)) = ((names M).length : Int) := by rw [IntKind.wrap_i64]; omega
      have hne : (((names M).length : Int) != ((names M).length : Int)) = false := by simp
      clear hs
      have m0 := mc0 TM.out _ (Gr.refl _)
      have m1 := mc1 TM.out _ (Gr.refl _)
      have m2 := mc2 TM.out _ (Gr.refl _)
      have m3 := mc3 TM.out _ (Gr.refl _)
      have m4 := mc4 TM.out _ (Gr.refl _)
      have m5 := mc5 TM.out _ (Gr.refl _)
      have m6 := mc6 TM.out _ (Gr.refl _)
      have m7 := mc7 TM.out _ (Gr.refl _)
      have m8 := mc8 TM.out _ (Gr.refl _)
      have m9 := mc9 TM.out _ (Gr.refl _)
      have m10 := mc10 TM.out _ (Gr.refl _)
      go_wp2_with fail
      clear m0 m1 m2 m3 m4 m5 m6 m7 m8 m9 m10
      clear hwa hwb hwc hwd hne
      go_loopw [4] (fun i w9 => ∃ k : Nat, i = .int .i64 (k : Int) ∧ k ≤ (names M).length ∧ Gr w4 w9) (fun i _ => (names M).length - (RowKit.intOf i).toNat)
      case atStart => exact ⟨0, rfl, Nat.zero_le _, Gr.refl _⟩
      case round =>
        obtain ⟨k, rfl, hk, hg⟩ := hrel
        have GL := Lib.hid hg
        clear hg
        by_cases hlt : k < (names M).length
        · have hlt' : (k : Int) < ((names M).length : Int) := by omega
          obtain ⟨b, o, x, rfl, hx, hc⟩ := str_at (HL.out.grow GL.out) rfl hlt
          have hmem := List.mem_of_getElem? hx
          obtain ⟨e, hfe, hee, hex⟩ := find_has hmem
          obtain ⟨hne, hn1, hn2⟩ := named_entry hee
          have hnx := HV.out.2.2.2.1 k x hx
          have hsh := names_short HF.out x hmem
          have q1 : (findR M x).1 = e.2.1 := by unfold findR; rw [hfe]
          have q2 : (findR M x).2.1 = e.2.2 := by unfold findR; rw [hfe]
          have q3 : (findR M x).2.2 = true := by unfold findR; rw [hfe]
          have HQ := Lib.hid (show _ ∧ _ ∧ _ from ⟨q1, q2, q3⟩)
          have HNE := Lib.hid (hne.trans hex)
          have HNX := Lib.hid hnx.1
          have HHI := Lib.hid (show -9223372036854775808 ≤ e.2.2 ∧ e.2.2 ≤ 9223372036854775807 by omega)
          clear hx hmem hfe hee hex hne hn1 hn2 hnx q1 q2 q3
          go_wp2_with fail
          have G := Lib.hid (G.out.trans GL.out)
          have TM := Lib.hid (TM.out.grow GL.out)
          have HM := Lib.hid (HM.out.grow GL.out)
          have HT := Lib.hid (HT.out.grow GL.out)
          have g0 : Gr wr wr.drew := (Gr.refl _).drew
          have m0 := mc0 TM.out
          have m1 := mc1 TM.out
          have m2 := mc2 TM.out
          have m3 := mc3 TM.out
          have m4 := mc4 TM.out
          have m5 := mc5 TM.out
          have m6 := mc6 TM.out
          have m7 := mc7 TM.out
          have m8 := mc8 TM.out
          have m9 := mc9 TM.out
          have m10 := mc10 TM.out
          try dsimp only at m0 m1 m2 m3 m4 m5 m6 m7 m8 m9 m10
          refine wp_region_fast [(0, true), (1, true), (2, true), (3, true), (4, true), (5, false), (6, true), (7, true), (8, true), (9, true), (10, true), (11, true), (12, true)] (by kernel_rfl) (by kernel_rfl) rfl (by kernel_rfl) (fun _ _ d _ _ h => by cases d <;> exact h) ?_
          repeat (refine wpE_readB (v := ?_) g0 rfl rfl (fun w' hg => ?_) (fun K hK => ?_); rotate_left; (go_simp; rfl); go_simp; refine hK _ _ ?_; clear hK K)
          refine wpE_fn (args := ?_) rfl rfl rfl rfl rfl rfl (by kernel_rfl) (by kernel_rfl) ?_ (fun K hK => ?_)
          rotate_left
          · go_simp; rfl
          refine (cat_Find _ P M x (HM.out.grow g0) HF.out).mono ?_
          rintro _ w5 ⟨_, rfl, g5, rfl⟩
          rw [HQ.out.1, HQ.out.2.1, HQ.out.2.2]
          refine ⟨_, rfl, g5, ?_⟩
          go_simp
          refine hK _ _ ?_
          clear hK K
          replace g0 := g0.trans g5
          repeat (refine wpE_readB (v := ?_) g0 rfl rfl (fun w' hg => ?_) (fun K hK => ?_); rotate_left; (go_simp; rfl); go_simp; refine hK _ _ ?_; clear hK K)
          refine wpE_nil ?_
          clear m0 m1 m2 m3 m4 m5 m6 m7 m8 m9 m10
          have GL := Lib.hid (GL.out.trans g0)
          have hc := fun w' g => hc w' (g0.trans g)
          have G := Lib.hid (G.out.trans g0)
          have TM := Lib.hid (TM.out.grow g0)
          have HM := Lib.hid (HM.out.grow g0)
          have HT := Lib.hid (HT.out.grow g0)
          clear g0
          go_wp2_with fail
          have g0 : Gr w5 w5.drew := (Gr.refl _).drew
          have m0 := mc0 TM.out
          have m1 := mc1 TM.out
          have m2 := mc2 TM.out
          have m3 := mc3 TM.out
          have m4 := mc4 TM.out
          have m5 := mc5 TM.out
          have m6 := mc6 TM.out
          have m7 := mc7 TM.out
          have m8 := mc8 TM.out
          have m9 := mc9 TM.out
          have m10 := mc10 TM.out
          try dsimp only at m0 m1 m2 m3 m4 m5 m6 m7 m8 m9 m10
          refine wp_region_fast [(0, true), (1, true), (2, true), (3, true), (4, true), (5, true), (6, true), (7, false), (8, true), (9, true), (10, true), (11, true), (12, true), (13, true), (15, true), (16, true), (17, true), (18, true), (14, false), (19, true), (20, true)] (by kernel_rfl) (by kernel_rfl) rfl (by kernel_rfl) (fun _ _ d _ _ h => by cases d <;> exact h) ?_
          repeat (refine wpE_readB (v := ?_) g0 rfl rfl (fun w' hg => ?_) (fun K hK => ?_); rotate_left; (go_simp; rfl); go_simp; refine hK _ _ ?_; clear hK K)
          refine wpE_fn (args := ?_) rfl rfl rfl rfl rfl rfl (by kernel_rfl) (by kernel_rfl) ?_ (fun K hK => ?_)
          rotate_left
          · go_simp; rfl
          refine (cat_IsName _ x (HT.out.grow g0) (by omega)).mono ?_
          rintro _ w6 ⟨_, rfl, g6, rfl⟩
          rw [HNX.out]
          refine ⟨_, rfl, g6, ?_⟩
          go_simp
          refine hK _ _ ?_
          clear hK K
          replace g0 := g0.trans g6
          repeat (refine wpE_readB (v := ?_) g0 rfl rfl (fun w' hg => ?_) (fun K hK => ?_); rotate_left; (go_simp; rfl); go_simp; refine hK _ _ ?_; clear hK K)
          refine wpE_fn (args := ?_) rfl rfl rfl rfl rfl rfl (by kernel_rfl) (by kernel_rfl) ?_ (fun K hK => ?_)
          rotate_left
          · go_simp; rfl
          refine (law_named _ P M e.2.1 e.2.2 (HM.out.grow g0) HF.out HHI.out).mono ?_
          rintro _ w7 ⟨_, rfl, g7, rfl⟩
          rw [HNE.out]
          refine ⟨_, rfl, g7, ?_⟩
          go_simp
          refine hK _ _ ?_
          clear hK K
          replace g0 := g0.trans g7
          repeat (refine wpE_readB (v := ?_) g0 rfl rfl (fun w' hg => ?_) (fun K hK => ?_); rotate_left; (go_simp; rfl); go_simp; refine hK _ _ ?_; clear hK K)
          refine wpE_nil ?_
          clear m0 m1 m2 m3 m4 m5 m6 m7 m8 m9 m10
          have GL := Lib.hid (GL.out.trans g0)
          clear g0 g6 g7 hc
          go_wp2_with fail
          exact ⟨⟨k + 1, by go_num, by omega, GL.out⟩, by simp [RowKit.intOf]; omega⟩
        · obtain rfl : k = (names M).length := by omega
          go_wp2_with fail
          try rw [Exit.noGoto_ret]
          go_ret
          exact ⟨_, rfl, G.out.trans GL.out, rfl⟩
    · clear h
      have m0 := mc0 TM.out _ (Gr.refl _)
      have m1 := mc1 TM.out _ (Gr.refl _)
      have m2 := mc2 TM.out _ (Gr.refl _)
      have m3 := mc3 TM.out _ (Gr.refl _)
      have m4 := mc4 TM.out _ (Gr.refl _)
      have m5 := mc5 TM.out _ (Gr.refl _)
      have m6 := mc6 TM.out _ (Gr.refl _)
      have m7 := mc7 TM.out _ (Gr.refl _)
      have m8 := mc8 TM.out _ (Gr.refl _)
      have m9 := mc9 TM.out _ (Gr.refl _)
      have m10 := mc10 TM.out _ (Gr.refl _)
      go_wp2_with fail
      go_ret
      exact ⟨_, rfl, G.out, rfl⟩
  · clear h
    have m0 := mc0 TM.out _ (Gr.refl _)
    have m1 := mc1 TM.out _ (Gr.refl _)
    have m2 := mc2 TM.out _ (Gr.refl _)
    have m3 := mc3 TM.out _ (Gr.refl _)
    have m4 := mc4 TM.out _ (Gr.refl _)
    have m5 := mc5 TM.out _ (Gr.refl _)
    have m6 := mc6 TM.out _ (Gr.refl _)
    have m7 := mc7 TM.out _ (Gr.refl _)
    have m8 := mc8 TM.out _ (Gr.refl _)
    have m9 := mc9 TM.out _ (Gr.refl _)
    have m10 := mc10 TM.out _ (Gr.refl _)
    go_wp2_with fail
    go_ret
    exact ⟨_, rfl, G.out, rfl⟩
end Go.Proofs.YtammehbflilbiaaGreatDoor

/-
  exodusref15.Texts, Find.
-/
import Derived.Test.YtammehbflilbiaaDoorCatQ
import Derived.Test.YtammehbflilbiaaDoorFind
namespace Go.Proofs.YtammehbflilbiaaDoor
open Go.RowKit Go.Lib Lex
set_option linter.unusedVariables false
set_option linter.unusedSimpArgs false

set_option maxRecDepth 100000 in
set_option maxHeartbeats 800000 in
theorem ref_Texts (w : World) (p q : Option Addr) (c d : Nat) (l m : List (List UInt8)) (hl : StrL w (.slice p l.length c) l) (hm : StrL w (.slice q m.length d) m) (hb : l.length ≤ 1000000000) (hb2 : m.length ≤ 1000000000) :
    Calls Tryd.prog 8 #[.slice p l.length c, .slice q m.length d] w (Ret w fun r _ => Tells (l = m) r) := by
  have HL := Lib.hid hl
  have HM := Lib.hid hm
  clear hl hm
  by_cases e : l.length = m.length
  · have e0 : ((l.length : Int) != (m.length : Int)) = false := by simp [e]
    have E := Lib.hid e
    clear e
    go_enter Tryd.func8, Tryd.ntmps8
    go_wp2_with fail
    go_loopw [5] (fun i w9 => ∃ k : Nat, i = .int .i64 (k : Int) ∧ k ≤ l.length ∧ (∀ j, j < k → l[j]? = m[j]?) ∧ Gr w w9) (fun i _ => l.length - (RowKit.intOf i).toNat)
    case atStart => exact ⟨0, rfl, Nat.zero_le _, fun j hj => by omega, Gr.refl _⟩
    case round =>
      obtain ⟨k, rfl, hk, hp, hg⟩ := hrel
      have HP := Lib.hid hp
      have G := Lib.hid hg
      clear hp hg
      by_cases hlt : k < l.length
      · have hlt' : (k : Int) < (l.length : Int) := by omega
        have hlt2 : (k : Int) < (m.length : Int) := by have := E.out; omega
        obtain ⟨b, o, x, rfl, hx, hc⟩ := str_at (HL.out.grow G.out) rfl hlt
        obtain ⟨b2, o2, y, rfl, hy, hc2⟩ := str_at (HM.out.grow G.out) rfl (show k < m.length by have := E.out; omega)
        have HX := Lib.hid hx
        have HY := Lib.hid hy
        clear hx hy
        go_wp2_with fail
        have g0 : Gr wr wr.drew := (Gr.refl _).drew
        by_cases hxy : x = y
        · have HXY := Lib.hid hxy
          rw [← hxy] at hc2
          clear hxy
          refine wp_region_fast [(0, true), (1, true), (2, true), (3, true), (4, true), (5, true), (6, true), (7, true), (8, true)] (by kernel_rfl) (by kernel_rfl) rfl (by kernel_rfl) (fun _ _ d _ _ h => by cases d <;> exact h) ?_
          repeat (refine wpE_readB (v := ?_) g0 rfl rfl (fun w' hg => ?_) (fun K hK => ?_); rotate_left; (go_simp; rfl); go_simp; refine hK _ _ ?_; clear hK K)
          refine wpE_nil ?_
          have G0 := Lib.hid g0
          clear hc hc2 g0
          go_wp2_with fail
          refine ⟨⟨k + 1, by go_num, by omega, fun j hj => ?_, G.out.trans G0.out⟩, by simp [RowKit.intOf]; omega⟩
          by_cases h : j = k
          · subst h
            rw [HX.out, HY.out, HXY.out]
          · exact HP.out j (by omega)
        · have HXY := Lib.hid hxy
          have hn1 := str_inj hxy
          have hn2 := str_beq hxy
          refine wp_region_fast [(0, true), (1, true), (2, true), (3, true), (4, true), (5, true), (6, true), (7, true), (8, true)] (by kernel_rfl) (by kernel_rfl) rfl (by kernel_rfl) (fun _ _ d _ _ h => by cases d <;> exact h) ?_
          repeat (refine wpE_readB (v := ?_) g0 rfl rfl (fun w' hg => ?_) (fun K hK => ?_); rotate_left; (go_simp; rfl); go_simp; refine hK _ _ ?_; clear hK K)
          refine wpE_nil ?_
          have G0 := Lib.hid g0
          clear hc hc2 g0
          go_wp2_with fail
          try rw [Exit.noGoto_ret]
          go_ret
          exact ⟨_, rfl, G.out.trans G0.out, Tells.no fun h => by
            have h1 := HX.out
            have h2 := HY.out
            rw [h] at h1
            rw [h1] at h2
            injection h2 with h2
            exact HXY.out h2⟩
      · obtain rfl : k = l.length := by omega
        go_wp2_with fail
        try rw [Exit.noGoto_ret]
        go_ret
        exact ⟨_, rfl, G.out, Tells.yes (List.ext_getElem? fun j => by
          rcases Nat.lt_or_ge j l.length with h | h
          · exact HP.out j h
          · rw [List.getElem?_eq_none h, List.getElem?_eq_none (by have := E.out; omega)])⟩
  · have e0 : ((l.length : Int) != (m.length : Int)) = true := by simp; omega
    have E := Lib.hid e
    go_enter Tryd.func8, Tryd.ntmps8
    go_wp2_with fail
    try rw [Exit.noGoto_ret]
    go_ret
    exact ⟨_, rfl, Gr.refl _, Tells.no fun h => E.out (by rw [h])⟩
/-- where a section of names begins, how long it is -/
def offN (M : Mdl) : Nat → Nat
  | 0 => 0
  | 1 => M.sites.length
  | 2 => M.sites.length + M.feeds.length
  | 3 => M.sites.length + M.feeds.length + M.racks.length
  | _ => M.sites.length + M.feeds.length + M.racks.length + M.machs.length
def sizeN (M : Mdl) : Nat → Nat
  | 0 => M.sites.length
  | 1 => M.feeds.length
  | 2 => M.racks.length
  | 3 => M.machs.length
  | _ => M.items.length
theorem offN_succ (M : Mdl) (k : Nat) (hk : k < 4) : offN M (k + 1) = offN M k + sizeN M k := by
  match k, hk with
  | 0, _ => simp [offN, sizeN]
  | 1, _ => rfl
  | 2, _ => rfl
  | 3, _ => rfl
theorem secOff_offN (M : Mdl) (k : Nat) (hk : k < 5) : secOff M k = offN M k := by
  match k, hk with
  | 0, _ => simp [secOff, offN]
  | 1, _ => simp [secOff, offN, secs, sec0, numbered_len]
  | 2, _ => simp [secOff, offN, secs, sec0, sec1, numbered_len]
  | 3, _ => simp [secOff, offN, secs, sec0, sec1, sec2, numbered_len]; omega
  | 4, _ => simp [secOff, offN, secs, sec0, sec1, sec2, sec3, numbered_len]; omega
theorem ent_at {M : Mdl} {k i : Nat} (hk : k < 4) (hi : i < sizeN M k) : ∃ x, (entries M)[offN M k + i]? = some (x, (k : Int), (i : Int) + 1) := by
  rw [← secOff_offN M k (by omega)]
  match k, hk, hi with
  | 0, _, hi => exact ⟨_, flatten_at (secs M) 0 i (sec0 M) _ rfl (numbered_get _ _ (List.getElem?_eq_getElem hi))⟩
  | 1, _, hi => exact ⟨_, flatten_at (secs M) 1 i (sec1 M) _ rfl (numbered_get _ _ (List.getElem?_eq_getElem hi))⟩
  | 2, _, hi => exact ⟨_, flatten_at (secs M) 2 i (sec2 M) _ rfl (numbered_get _ _ (List.getElem?_eq_getElem hi))⟩
  | 3, _, hi => exact ⟨_, flatten_at (secs M) 3 i (sec3 M) _ rfl (numbered_get _ _ (List.getElem?_eq_getElem hi))⟩
theorem ent_item {M : Mdl} {i : Nat} {it : ItemM} (hi : M.items[i]? = some it) : (entries M)[offN M 4 + i]? = some (it.name, kindOf it.kind, (i : Int) + 1) := by
  rw [← secOff_offN M 4 (by omega)]
  exact flatten_at (secs M) 4 i (sec4 M) _ rfl (numbered_get _ _ hi)
theorem findR_at {M : Mdl} {s x : List UInt8} {i : Nat} {kd no : Int} (hi : (names M)[i]? = some s) (hb : ∀ (j : Nat) (y : List UInt8), j < i → (names M)[j]? = some y → y ≠ s) (he : (entries M)[i]? = some (x, kd, no)) : findR M s = (kd, no, true) := by
  have hx : x = s := by
    have : (names M)[i]? = some x := by rw [← entries_names, List.getElem?_map, he]; rfl
    rw [hi] at this
    injection this with this
    exact this.symm
  have : findM M s = some (x, kd, no) := find_some he hx (fun j e hj hje => hb j e.1 hj (by rw [← entries_names, List.getElem?_map, hje]; rfl))
  unfold findR
  rw [this]
theorem findR_none {M : Mdl} {s : List UInt8} (hb : ∀ (j : Nat) (y : List UInt8), j < (names M).length → (names M)[j]? = some y → y ≠ s) : findR M s = (0, 0, false) := by
  have : findM M s = none := find_none (fun j e hj hje => hb j e.1 (by rwa [← entries_len]) (by rw [← entries_names, List.getElem?_map, hje]; rfl))
  unfold findR
  rw [this]
set_option maxRecDepth 100000 in
set_option maxHeartbeats 1600000 in
theorem ref_Find (w : World) (P : Ptrs) (M : Mdl) (s : List UInt8) (hm : MdlAt w P M) (hf : Few M) :
    Calls Tryd.prog 13 #[.agg (mcells P M), .string ⟨s.toArray⟩] w (Ret w fun r _ => r = .tuple #[.int .i64 (findR M s).1, .int .i64 (findR M s).2.1, .bool (findR M s).2.2]) := by
  have HF := Lib.hid hf
  clear hf
  have HM := Lib.hid hm
  have B := Cells.new w (mcells P M) 33
  clear hm
  have m0 := mc0 B.2 _ (Gr.refl _)
  have m1 := mc1 B.2 _ (Gr.refl _)
  have m2 := mc2 B.2 _ (Gr.refl _)
  have m3 := mc3 B.2 _ (Gr.refl _)
  have m4 := mc4 B.2 _ (Gr.refl _)
  have m5 := mc5 B.2 _ (Gr.refl _)
  have m6 := mc6 B.2 _ (Gr.refl _)
  have m7 := mc7 B.2 _ (Gr.refl _)
  have m8 := mc8 B.2 _ (Gr.refl _)
  have m9 := mc9 B.2 _ (Gr.refl _)
  have m10 := mc10 B.2 _ (Gr.refl _)
  unfold mcells at B m0 m1 m2 m3 m4 m5 m6 m7 m8 m9 m10 ⊢
  go_enter Tryd.func13, Tryd.ntmps13
  go_wp2_with fail
  clear m0 m1 m2 m3 m4 m5 m6 m7 m8 m9 m10
  generalize w.heap.size = bm at B ⊢
  generalize w.alloc _ = W at B ⊢
  obtain ⟨g0, tm⟩ := B
  have TM := Lib.hid (show Cells W bm (mcells P M) from tm)
  have G := Lib.hid g0
  have HM := Lib.hid (HM.out.grow g0)
  clear g0 tm
  have m0 := mc0 TM.out _ (Gr.refl _)
  have m1 := mc1 TM.out _ (Gr.refl _)
  have m2 := mc2 TM.out _ (Gr.refl _)
  have m3 := mc3 TM.out _ (Gr.refl _)
  have m4 := mc4 TM.out _ (Gr.refl _)
  have m5 := mc5 TM.out _ (Gr.refl _)
  have m6 := mc6 TM.out _ (Gr.refl _)
  have m7 := mc7 TM.out _ (Gr.refl _)
  have m8 := mc8 TM.out _ (Gr.refl _)
  have m9 := mc9 TM.out _ (Gr.refl _)
  have m10 := mc10 TM.out _ (Gr.refl _)
  clear m0 m1 m2 m3 m4 m5 m6 m7 m8 m9 m10
  refine (ref_Names _ P M HM.out HF.out).mono ?_
  rintro _ w1 ⟨v1, rfl, g1, hs⟩
  have G := Lib.hid (G.out.trans g1)
  have TM := Lib.hid (TM.out.grow g1)
  have HM := Lib.hid (HM.out.grow g1)
  clear g1
  obtain ⟨p, c, rfl, _, hc9⟩ := hs.parts
  have HL := Lib.hid hs
  have hn0 := names_len HF.out
  have hnl : (names M).length = offN M 4 + M.items.length := by
    unfold names offN
    simp only [List.length_append, List.length_map]
    omega
  clear hs
  go_wp2_with fail
  go_loopw [8] (fun i w9 => ∃ k : Nat, i = .int .i64 (k : Int) ∧ k ≤ (names M).length ∧ (∀ (j : Nat) (y : List UInt8), j < k → (names M)[j]? = some y → y ≠ s) ∧ Gr w1 w9) (fun i _ => (names M).length - (RowKit.intOf i).toNat)
  case atStart => exact ⟨0, rfl, Nat.zero_le _, fun j y hj => by omega, Gr.refl _⟩
  case round =>
    obtain ⟨i, rfl, hk, hp, hg⟩ := hrel
    have HP := Lib.hid hp
    have GL := Lib.hid hg
    clear hp hg
    by_cases hlt : i < (names M).length
    · have hlt' : (i : Int) < ((names M).length : Int) := by omega
      obtain ⟨b, o, x, rfl, hx, hc⟩ := str_at (HL.out.grow GL.out) rfl hlt
      have HX := Lib.hid hx
      have c0 := hc _ (Gr.refl _)
      clear hx hc
      by_cases hxs : x = s
      · subst hxs
        have hfew := HF.out.1
        have TMx := Lib.hid (TM.out.grow GL.out)
        have HMx := Lib.hid (HM.out.grow GL.out)
        have G := Lib.hid (G.out.trans GL.out)
        have b1 := SlL.new wr 3 encI_len [(M.sites.length : Int), M.feeds.length, M.racks.length, M.machs.length] #[.int .i64 (M.sites.length : Int), .int .i64 (M.feeds.length : Int), .int .i64 (M.racks.length : Int), .int .i64 (M.machs.length : Int)] 4 rfl rfl (by decide)
        have b2 := SlL.new (wr.alloc (.cells #[.int .i64 (M.sites.length : Int), .int .i64 (M.feeds.length : Int), .int .i64 (M.racks.length : Int), .int .i64 (M.machs.length : Int)] 3)) 3 encI_len [0, 1, 2, 3] #[.int .i64 0, .int .i64 1, .int .i64 2, .int .i64 3] 4 rfl rfl (by decide)
        rw [World.size_alloc] at b2
        have H12 := Lib.hid (show _ ∧ _ ∧ _ from ⟨b1.1.trans b2.1, SlL.grow b1.2 b2.1, b2.2⟩)
        have m0 := mc0 TMx.out _ (Gr.refl _)
        have m1 := mc1 TMx.out _ (Gr.refl _)
        have m2 := mc2 TMx.out _ (Gr.refl _)
        have m3 := mc3 TMx.out _ (Gr.refl _)
        clear b1 b2
        go_wp2_with fail
        clear m0 m1 m2 m3 c0
        generalize wr.heap.size + 1 = q2 at H12 ⊢
        generalize wr.heap.size = q1 at H12 ⊢
        generalize (wr.alloc _).alloc _ = W2 at H12 ⊢
        have GW := Lib.hid H12.out.1
        have H1 := Lib.hid (show IntL W2 (.slice (some ⟨q1, 0, none⟩) 4 4) [(M.sites.length : Int), M.feeds.length, M.racks.length, M.machs.length] from H12.out.2.1)
        have H2 := Lib.hid (show IntL W2 (.slice (some ⟨q2, 0, none⟩) 4 4) [0, 1, 2, 3] from H12.out.2.2)
        clear H12
        go_loopw [9, 12] (fun n j w9 => ∃ k : Nat, j = .int .i64 (k : Int) ∧ k ≤ 4 ∧ n = .int .i64 ((i : Int) - (offN M k : Int)) ∧ offN M k ≤ i ∧ w9 = W2) (fun _ j _ => 4 - (RowKit.intOf j).toNat)
        case atStart => exact ⟨0, rfl, by omega, by simp [offN], by simp [offN], rfl⟩
        case round =>
          obtain ⟨k, rfl, hk4, rfl, hko, rfl⟩ := hrel
          by_cases hlt4 : k < 4
          · have hlt4' : (k : Int) < 4 := by omega
            have hsz : ([(M.sites.length : Int), M.feeds.length, M.racks.length, M.machs.length] : List Int)[k]? = some (sizeN M k : Int) := by
              match k, hlt4 with
              | 0, _ => rfl
              | 1, _ => rfl
              | 2, _ => rfl
              | 3, _ => rfl
            have hkd : ([0, 1, 2, 3] : List Int)[k]? = some (k : Int) := by
              match k, hlt4 with
              | 0, _ => rfl
              | 1, _ => rfl
              | 2, _ => rfl
              | 3, _ => rfl
            obtain ⟨_, _, y1, e1, hy1, hc1⟩ := int_at H1.out rfl (show k < 4 from hlt4)
            cases e1
            obtain ⟨_, _, y2, e2, hy2, hc2⟩ := int_at H2.out rfl (show k < 4 from hlt4)
            cases e2
            obtain rfl : y1 = (sizeN M k : Int) := Option.some.inj (hy1.symm.trans hsz)
            obtain rfl : y2 = (k : Int) := Option.some.inj (hy2.symm.trans hkd)
            have c1 := hc1 _ (Gr.refl _)
            have c2 := hc2 _ (Gr.refl _)
            have hos := offN_succ M k hlt4
            have hsb : sizeN M k ≤ 24 ∧ offN M k ≤ 120 := by
              match k, hlt4 with
              | 0, _ => simp only [sizeN, offN]; omega
              | 1, _ => simp only [sizeN, offN]; omega
              | 2, _ => simp only [sizeN, offN]; omega
              | 3, _ => simp only [sizeN, offN]; omega
            clear hy1 hy2 hc1 hc2 hsz hkd
            rw [Nat.zero_add] at c1 c2
            by_cases hin : i < offN M k + sizeN M k
            · have hin' : (i : Int) - (offN M k : Int) < (sizeN M k : Int) := by omega
              have hR := Lib.hid (show findR M x = ((k : Int), (i : Int) - (offN M k : Int) + 1, true) from by
                obtain ⟨z, hz⟩ := ent_at (M := M) (k := k) (i := i - offN M k) hlt4 (by omega)
                rw [show offN M k + (i - offN M k) = i by omega] at hz
                have := findR_at HX.out HP.out hz
                rw [this, show (((i - offN M k : Nat)) : Int) = (i : Int) - (offN M k : Int) by omega])
              go_wp2_with fail
              try rw [Exit.noGoto_ret]
              go_ret3
              exact ⟨_, rfl, G.out.trans GW.out, by rw [hR.out]; rfl⟩
            · have hin' : (sizeN M k : Int) ≤ (i : Int) - (offN M k : Int) := by omega
              go_wp2_with fail
              exact ⟨⟨k + 1, by go_num, by omega, by rw [hos]; simp only [Value.int.injEq, true_and]; omega, by omega, by first | rfl | trivial⟩, by simp [RowKit.intOf]; omega⟩
          · obtain rfl : k = 4 := by omega
            have hil : i - offN M 4 < M.items.length := by omega
            have hil' : (i : Int) - (offN M 4 : Int) < (M.items.length : Int) := by omega
            have hil0 : 0 ≤ (i : Int) - (offN M 4 : Int) := by omega
            obtain ⟨b3, o3, it, hpp, hit, hc3⟩ := item_at (HMx.out.grow GW.out).items rfl hil
            have HR := Lib.hid (show findR M x = (kindOf it.kind, (i : Int) - (offN M 4 : Int) + 1, true) from by
              have hz := ent_item hit
              rw [show offN M 4 + (i - offN M 4) = i by omega] at hz
              rw [findR_at HX.out HP.out hz, show (((i - offN M 4 : Nat)) : Int) = (i : Int) - (offN M 4 : Int) by omega])
            have c1 := (hc3 _ (Gr.refl _)).2.1
            have m5 := mc5 (TMx.out.grow GW.out) _ (Gr.refl _)
            rw [hpp] at m5
            have hti : ((i : Int) - (offN M 4 : Int)).toNat = i - offN M 4 := by omega
            have ho4 : offN M 4 ≤ 120 := by simp only [offN]; omega
            clear hpp hit hc3
            by_cases k0 : it.kind = 0
            · rw [k0] at c1
              have HK := Lib.hid (show kindOf it.kind = 5 from by unfold kindOf; rw [if_pos k0])
              go_wp2_with fail
              try rw [Exit.noGoto_ret]
              go_ret3
              exact ⟨_, rfl, G.out.trans GW.out, by rw [HR.out, HK.out]; rfl⟩
            · have e0 : (it.kind == 0) = false := by simpa using k0
              by_cases k1 : it.kind = 1
              · rw [k1] at c1
                have HK := Lib.hid (show kindOf it.kind = 6 from by unfold kindOf; rw [if_neg k0, if_pos k1])
                clear e0 k0
                go_wp2_with fail
                try rw [Exit.noGoto_ret]
                go_ret3
                exact ⟨_, rfl, G.out.trans GW.out, by rw [HR.out, HK.out]; rfl⟩
              · have e1 : (it.kind == 1) = false := by simpa using k1
                have HK := Lib.hid (show kindOf it.kind = 7 from by unfold kindOf; rw [if_neg k0, if_neg k1])
                go_wp2_with fail
                try rw [Exit.noGoto_ret]
                go_ret3
                exact ⟨_, rfl, G.out.trans GW.out, by rw [HR.out, HK.out]; rfl⟩
      · have HXS := Lib.hid hxs
        have hn1 := str_inj hxs
        have hn2 := str_beq hxs
        go_wp2_with fail
        refine ⟨⟨i + 1, by go_num, by omega, fun j y hj hy => ?_, GL.out⟩, by simp [RowKit.intOf]; omega⟩
        by_cases h : j = i
        · subst h
          obtain rfl : y = x := Option.some.inj (hy.symm.trans HX.out)
          exact HXS.out
        · exact HP.out j y (by omega) hy
    · obtain rfl : i = (names M).length := by omega
      have HR := Lib.hid (findR_none HP.out)
      go_wp2_with fail
      try rw [Exit.noGoto_ret]
      go_ret3
      exact ⟨_, rfl, G.out.trans GL.out, by rw [HR.out]; rfl⟩
end Go.Proofs.YtammehbflilbiaaDoor

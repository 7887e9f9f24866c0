/-
  The law CatalogRenames.
-/
import Derived.Test.YtammehbflilbiaaGreatDoorLwc
import Derived.Test.YtammehbflilbiaaGreatDoorLwd
namespace Go.Proofs.YtammehbflilbiaaGreatDoor
open Go.RowKit Go.Lib Lex
set_option linter.unusedVariables false
set_option linter.unusedSimpArgs false

theorem item_info : (Tryz.prog.info? 42).map (fun i => (i.zero, i.size, i.bytes)) = some (some (.agg #[.string ⟨#[]⟩, .int .i64 0, .int .i64 0, .int .i64 0, .int .i64 0, .int .i64 0, .slice none 0 0]), 7, 80) := by kernel_rfl
theorem encItem_one : ∀ x, ∀ u ∈ encItem x, u.oneCell' = true := fun x u hu => by
  simp [encItem] at hu; rcases hu with rfl | rfl | rfl | rfl | rfl | rfl | rfl <;> rfl
theorem str_ofL (s : ByteArray) : ∃ bs : List UInt8, s = ⟨bs.toArray⟩ ∧ bs.length = s.size := ⟨s.data.toList, by rw [Array.toArray_toList], Array.length_toList⟩
theorem rename_few {M : Mdl} (h : Few M) {i : Nat} {it : ItemM} (hi : M.items[i]? = some it) {s : List UInt8} (hs : s.length ≤ 100) : Few (rename M i it s) := by
  obtain ⟨⟨a0, a1, a2, a3, a4, a5, a6⟩, b0, b1, b2, b3, b4, b5⟩ := h
  refine ⟨⟨a0, a1, a2, a3, a4, by unfold rename; simpa using a5, a6⟩, b0, b1, b2, b3, fun x hx => ?_, b5⟩
  unfold rename at hx
  rcases List.mem_or_eq_of_mem_set hx with hx | rfl
  · exact b4 x hx
  · exact ⟨hs, (b4 it (List.mem_of_getElem? hi)).2⟩
set_option maxRecDepth 100000 in
set_option maxHeartbeats 1600000 in
theorem law_CatalogRenames (w : World) (ht : Tab w) (P : Ptrs) (M : Mdl) (hm : MdlAt w P M) (hr : MdlR M) (q : Nat) (hq : q < 256) (bs : ByteArray) :
    Calls Tryz.prog 6 #[.agg (mcells P M), .int .u8 (q : Int), .string bs] w (Ret w fun r _ => r = .bool true) := by
  have HT := Lib.hid ht
  have HM0 := Lib.hid hm
  have ht0 := ht
  have HT0 := Lib.hid ht0
  clear ht hr ht0
  obtain ⟨s, rfl, hbs⟩ := str_ofL bs
  clear hbs
  have HM := Lib.hid hm
  have B := Cells.new w (mcells P M) 29
  clear hm
  have m0 := mc0 B.2 _ (Gr.refl _)
  have m1 := mc1 B.2 _ (Gr.refl _)
  have m2 := mc2 B.2 _ (Gr.refl _)
  have m3 := mc3 B.2 _ (Gr.refl _)
  have m4 := mc4 B.2 _ (Gr.refl _)
  have m5 := mc5 B.2 _ (Gr.refl _)
  have m6 := mc6 B.2 _ (Gr.refl _)
  have m7 := mc7 B.2 _ (Gr.refl _)
  have m8 := mc8 B.2 _ (Gr.refl _)
  have m9 := mc9 B.2 _ (Gr.refl _)
  have m10 := mc10 B.2 _ (Gr.refl _)
  unfold mcells at B m0 m1 m2 m3 m4 m5 m6 m7 m8 m9 m10 ⊢
  go_enter Tryz.func6, Tryz.ntmps6
  go_wp2_with fail
  clear m0 m1 m2 m3 m4 m5 m6 m7 m8 m9 m10
  generalize hbm : w.heap.size = bm at B ⊢
  have HBM := Lib.hid (show w.heap.size ≤ bm from Nat.le_of_eq hbm)
  clear hbm
  generalize w.alloc _ = W at B ⊢
  obtain ⟨g0, tm⟩ := B
  have TM := Lib.hid (show Cells W bm (mcells P M) from tm)
  have G := Lib.hid g0
  have HM := Lib.hid (HM.out.grow g0)
  clear g0 tm
  have m0 := mc0 TM.out _ (Gr.refl _)
  have m1 := mc1 TM.out _ (Gr.refl _)
  have m2 := mc2 TM.out _ (Gr.refl _)
  have m3 := mc3 TM.out _ (Gr.refl _)
  have m4 := mc4 TM.out _ (Gr.refl _)
  have m5 := mc5 TM.out _ (Gr.refl _)
  have m6 := mc6 TM.out _ (Gr.refl _)
  have m7 := mc7 TM.out _ (Gr.refl _)
  have m8 := mc8 TM.out _ (Gr.refl _)
  have m9 := mc9 TM.out _ (Gr.refl _)
  have m10 := mc10 TM.out _ (Gr.refl _)
  have HT := Lib.hid (HT.out.grow G.out)
  clear m0 m1 m2 m3 m4 m5 m6 m7 m8 m9 m10
  refine (law_awake W HT.out).mono ?_
  rintro _ w1 ⟨_, rfl, g1, rfl⟩
  have G := Lib.hid (G.out.trans g1)
  have TM := Lib.hid (TM.out.grow g1)
  have HM := Lib.hid (HM.out.grow g1)
  have HT := Lib.hid (HT.out.grow g1)
  clear g1
  have m0 := mc0 TM.out _ (Gr.refl _)
  have m1 := mc1 TM.out _ (Gr.refl _)
  have m2 := mc2 TM.out _ (Gr.refl _)
  have m3 := mc3 TM.out _ (Gr.refl _)
  have m4 := mc4 TM.out _ (Gr.refl _)
  have m5 := mc5 TM.out _ (Gr.refl _)
  have m6 := mc6 TM.out _ (Gr.refl _)
  have m7 := mc7 TM.out _ (Gr.refl _)
  have m8 := mc8 TM.out _ (Gr.refl _)
  have m9 := mc9 TM.out _ (Gr.refl _)
  have m10 := mc10 TM.out _ (Gr.refl _)
  go_wp2_with fail
  clear m0 m1 m2 m3 m4 m5 m6 m7 m8 m9 m10
  refine (ref_Few _ P M HM.out).mono ?_
  rintro _ w2 ⟨r2, rfl, g2, h⟩
  have G := Lib.hid (G.out.trans g2)
  have TM := Lib.hid (TM.out.grow g2)
  have HM := Lib.hid (HM.out.grow g2)
  have HT := Lib.hid (HT.out.grow g2)
  clear g2
  rcases h.cases with ⟨rfl, k1⟩ | ⟨rfl, k1⟩
  · have HF := Lib.hid k1
    clear h k1
    have m0 := mc0 TM.out _ (Gr.refl _)
    have m1 := mc1 TM.out _ (Gr.refl _)
    have m2 := mc2 TM.out _ (Gr.refl _)
    have m3 := mc3 TM.out _ (Gr.refl _)
    have m4 := mc4 TM.out _ (Gr.refl _)
    have m5 := mc5 TM.out _ (Gr.refl _)
    have m6 := mc6 TM.out _ (Gr.refl _)
    have m7 := mc7 TM.out _ (Gr.refl _)
    have m8 := mc8 TM.out _ (Gr.refl _)
    have m9 := mc9 TM.out _ (Gr.refl _)
    have m10 := mc10 TM.out _ (Gr.refl _)
    go_wp2_with fail
    clear m0 m1 m2 m3 m4 m5 m6 m7 m8 m9 m10
    refine (ref_Valid15 _ P M HM.out HF.out).mono ?_
    rintro _ w3 ⟨r3, rfl, g3, h⟩
    have G := Lib.hid (G.out.trans g3)
    have TM := Lib.hid (TM.out.grow g3)
    have HM := Lib.hid (HM.out.grow g3)
    have HT := Lib.hid (HT.out.grow g3)
    clear g3
    rcases h.cases with ⟨rfl, k1⟩ | ⟨rfl, k1⟩
    · have HV := Lib.hid k1
      clear h k1
      by_cases h0 : M.items.length = 0
      · have e0 : (M.items.length : Int) = 0 := by omega
        have m0 := mc0 TM.out _ (Gr.refl _)
        have m1 := mc1 TM.out _ (Gr.refl _)
        have m2 := mc2 TM.out _ (Gr.refl _)
        have m3 := mc3 TM.out _ (Gr.refl _)
        have m4 := mc4 TM.out _ (Gr.refl _)
        have m5 := mc5 TM.out _ (Gr.refl _)
        have m6 := mc6 TM.out _ (Gr.refl _)
        have m7 := mc7 TM.out _ (Gr.refl _)
        have m8 := mc8 TM.out _ (Gr.refl _)
        have m9 := mc9 TM.out _ (Gr.refl _)
        have m10 := mc10 TM.out _ (Gr.refl _)
        go_wp2_with fail
        go_ret
        exact ⟨_, rfl, G.out, rfl⟩
      · have e0 : ((M.items.length : Int) == 0) = false := by simpa using h0
        by_cases h1 : (100 : Int) < (s.length : Int)
        · have m0 := mc0 TM.out _ (Gr.refl _)
          have m1 := mc1 TM.out _ (Gr.refl _)
          have m2 := mc2 TM.out _ (Gr.refl _)
          have m3 := mc3 TM.out _ (Gr.refl _)
          have m4 := mc4 TM.out _ (Gr.refl _)
          have m5 := mc5 TM.out _ (Gr.refl _)
          have m6 := mc6 TM.out _ (Gr.refl _)
          have m7 := mc7 TM.out _ (Gr.refl _)
          have m8 := mc8 TM.out _ (Gr.refl _)
          have m9 := mc9 TM.out _ (Gr.refl _)
          have m10 := mc10 TM.out _ (Gr.refl _)
          go_wp2_with fail
          go_ret
          exact ⟨_, rfl, G.out, rfl⟩
        · have hs : (s.length : Int) ≤ 100 := by omega
          have HS := Lib.hid hs
          clear h1
          have hpos : (0 : Int) < (M.items.length : Int) := by omega
          have hfew := HF.out.1
          have m0 := mc0 TM.out _ (Gr.refl _)
          have m1 := mc1 TM.out _ (Gr.refl _)
          have m2 := mc2 TM.out _ (Gr.refl _)
          have m3 := mc3 TM.out _ (Gr.refl _)
          have m4 := mc4 TM.out _ (Gr.refl _)
          have m5 := mc5 TM.out _ (Gr.refl _)
          have m6 := mc6 TM.out _ (Gr.refl _)
          have m7 := mc7 TM.out _ (Gr.refl _)
          have m8 := mc8 TM.out _ (Gr.refl _)
          have m9 := mc9 TM.out _ (Gr.refl _)
          have m10 := mc10 TM.out _ (Gr.refl _)
          go_wp2_with fail
          clear m0 m1 m2 m3 m4 m5 m6 m7 m8 m9 m10
          obtain ⟨k, hk⟩ : ∃ k : Nat, k = q % M.items.length := ⟨_, rfl⟩
          have hkq : (q : Int) % (M.items.length : Int) = (k : Int) := by rw [hk]; simp
          have hkl : k < M.items.length := by rw [hk]; exact Nat.mod_lt _ (by omega)
          rw [hkq]
          clear hkq hk
          refine (cat_Find _ P M s HM.out HF.out).mono ?_
          rintro _ w4 ⟨_, rfl, g4, rfl⟩
          have G := Lib.hid (G.out.trans g4)
          have TM := Lib.hid (TM.out.grow g4)
          have HM := Lib.hid (HM.out.grow g4)
          have HT := Lib.hid (HT.out.grow g4)
          clear g4
          obtain ⟨there, hth⟩ : ∃ b, (findR M s).2.2 = b := ⟨_, rfl⟩
          rw [hth]
          have HTH := Lib.hid (show there = true ↔ s ∈ names M from by
            rw [← hth]
            by_cases hin : s ∈ names M
            · obtain ⟨e, he, _⟩ := find_has hin
              unfold findR; rw [he]; simp [hin]
            · unfold findR; rw [find_no hin]; simp [hin])
          clear hth
          obtain ⟨b, o, it, hpp, hx, hc⟩ := item_at HM.out.items rfl hkl
          have HX := Lib.hid hx
          have hkl' : (k : Int) < (M.items.length : Int) := by omega
          obtain ⟨own, hown⟩ : ∃ b, (it.name == s) = b := ⟨_, rfl⟩
          have hown2 : ((⟨it.name.toArray⟩ : ByteArray) == ⟨s.toArray⟩) = own := by
            rw [← hown]
            by_cases e : it.name = s
            · rw [e]; simp [(MapKept.bytes_beq _ _).2]
            · rw [str_beq e]; exact str_ne e
          have HOWN := Lib.hid (show own = true ↔ it.name = s from by rw [← hown]; simp)
          have c0 := (hc _ (Gr.refl _)).1
          have HPP := Lib.hid hpp
          clear hx hc hpp
          have B := OwnL.made0 (sz := 7) (enc := encItem) w4 w4.heap.size 42 (Nat.le_refl _)
          have gb := (Gr.refl w4).alloc (.cells #[] 42)
          have m5 := mc5 TM.out _ (Gr.refl _)
          have n5 := mc5 TM.out _ gb
          have HB := Lib.hid B
          have HGB := Lib.hid gb
          clear B gb
          rw [HPP.out] at m5
          go_wp2_with (at_builtin; refine Hold.hold ?_)
          clear m5 n5 c0 hown hown2
          generalize hw5 : w4.alloc (.cells #[] 42) = w5 at HB HGB ⊢
          generalize Value.slice (some ⟨w4.heap.size, 0, none⟩) 0 0 = v0 at HB ⊢
          clear hw5
          refine Hold.go ?_
          have HMg := Lib.hid (HM.out.grow HGB.out)
          refine wpList_appendL rfl _ _ 26 42 _ 80 rfl Tryz.underlying26 item_info rfl (by decide) encItem_len encItem_one w4.heap.size v0 (.slice P.p5 M.items.length P.c5) [] M.items rfl HB.out (by rw [HPP.out]; rfl) HMg.out.items (by simp; omega) (by simp; omega) HGB.out.size ?_
          intro v1 w6 ho k5
          have g6 := HB.out.gr HGB.out k5
          rw [List.nil_append] at ho
          obtain ⟨g, cap, rfl, hgb, hgs, hgc, hgm⟩ := OwnL.made ho (by omega)
          have HLB := Lib.hid (show bm < w4.heap.size from TM.out.lt)
          have HBM2 := HBM.out
          clear HMg HB k5
          have TMx := Lib.hid (TM.out.grow g6)
          obtain ⟨q1, q2, q3, q4, q5⟩ := OwnL.putS encItem_len ho { it with name := s } 0 (.string ⟨s.toArray⟩) HX.out (by decide) rfl
          have q3 : w6.cell? ⟨g, k * 7, none⟩ = some (.string ⟨it.name.toArray⟩) := q3
          have q4 : w6.frozen? ⟨g, k * 7, none⟩ = false := q4
          have q5 : OwnL (w6.setCell ⟨g, k * 7, none⟩ (.string ⟨s.toArray⟩)) w4.heap.size 42 7 encItem (.slice (some ⟨g, 0, none⟩) M.items.length cap) (M.items.set k { it with name := s }) := q5
          have hlb := HLB.out
          have hne : (Value.slice (some ⟨g, 0, none⟩) M.items.length cap).ownBlock ≠ some bm := fun e => by
            have e : some g = some bm := e
            injection e with e
            omega
          have ho2 := q5.other (i := 5) (u := .slice (some ⟨g, 0, none⟩) M.items.length cap) hne
          have g7 := g6.set (b := g) (i := k * 7) (by omega) (.string ⟨s.toArray⟩)
          have t7 := TMx.out.upd (upd_set w6 g (k * 7) (.string ⟨s.toArray⟩)) (by omega)
          have m5 := mc5 t7 _ (Gr.refl _)
          have f5 := Cells.f t7 5
          have t2 := t7.set 5 (.slice (some ⟨g, 0, none⟩) M.items.length cap)
          unfold mcells at t2
          simp only [List.setIfInBounds_toArray, List.set_cons_succ, List.set_cons_zero] at t2
          have gV := (G.out.trans g7).set (b := bm) (i := 5) (by omega) (.slice (some ⟨g, 0, none⟩) M.items.length cap)
          have hil : (rename M k it s).items.length = M.items.length := by unfold rename; simp
          have HV2 := Lib.hid (show MdlAt ((w6.setCell ⟨g, k * 7, none⟩ (.string ⟨s.toArray⟩)).setCell ⟨bm, 5, none⟩ (.slice (some ⟨g, 0, none⟩) M.items.length cap)) ⟨P.p0, P.c0, P.p1, P.c1, P.p2, P.c2, P.p3, P.c3, P.p4, P.c4, some ⟨g, 0, none⟩, cap, P.p6, P.c6⟩ (rename M k it s) from by
            have h := HM0.out.grow gV
            have hs := ho2.read
            have hin := List.mem_of_getElem? HX.out
            refine ⟨h.sites, h.feeds, h.racks, h.machs, h.links, ?_, h.rules, fun x hx => ?_, h.mss, ?_, fun x hx => ?_, h.msb⟩
            · rw [hil]; exact hs
            · rcases List.mem_or_eq_of_mem_set (show x ∈ M.items.set k _ from hx) with hx | rfl
              · exact h.ons x hx
              · exact h.ons it hin
            · have hb := h.big; rw [hil]; exact hb
            · rcases List.mem_or_eq_of_mem_set (show x ∈ M.items.set k _ from hx) with hx | rfl
              · exact h.onb x hx
              · exact h.onb it hin)
          have GV := Lib.hid gV
          have HT2 := Lib.hid (show Tab _ from Tab.grow HT0.out gV)
          have hcb : M.items.length ≤ cap ∧ cap ≤ 9223372036854775807 := ⟨hgc, hgm⟩
          have y0 := t2.at 0 rfl
          have y1 := t2.at 1 rfl
          have y2 := t2.at 2 rfl
          have y3 := t2.at 3 rfl
          have y4 := t2.at 4 rfl
          have y5 := t2.at 5 rfl
          have y6 := t2.at 6 rfl
          have y7 := t2.at 7 rfl
          have y8 := t2.at 8 rfl
          have y9 := t2.at 9 rfl
          have y10 := t2.at 10 rfl
          clear ho g6 hgb hgs hgc hgm q1 q2 q5 hne ho2 g7 t7 t2 gV HBM2
          go_wp2_with fail
          clear y0 y1 y2 y3 y4 y5 y6 y7 y8 y9 y10 m5 f5 q3 q4
          have hcall := cat_Valid _ _ _ HV2.out (rename_few HF.out HX.out (by have := HS.out; omega)) HT2.out
          unfold mcells at hcall
          rw [hil] at hcall
          refine hcall.mono ?_
          clear hcall
          rintro _ w8 ⟨r8, rfl, g8, t, rfl, h8⟩
          have H8 := Lib.hid (h8.trans (mdlOK_rename HV.out HX.out s))
          have GV := Lib.hid (GV.out.trans g8)
          have HT2 := Lib.hid (HT2.out.grow g8)
          clear h8 g8
          go_wp2_with fail
          refine (ref_IsName w8 s (by have := HS.out; omega)).mono ?_
          rintro _ w9 ⟨_, rfl, g9, rfl⟩
          have GV := Lib.hid (GV.out.trans g9)
          obtain ⟨nm, hnm⟩ : ∃ b, isName s = b := ⟨_, rfl⟩
          rw [hnm]
          have hb : t = (nm && (!there || own)) := by
            have h1 := H8.out
            have h2 := HTH.out
            have h3 := HOWN.out
            rw [hnm] at h1
            rw [Bool.eq_iff_iff, h1]
            cases nm <;> cases there <;> cases own <;> simp_all
          subst hb
          clear hnm g9
          cases nm <;> cases there <;> cases own <;> (go_wp2_with fail; go_ret; exact ⟨_, rfl, GV.out, rfl⟩)
    · clear h
      have m0 := mc0 TM.out _ (Gr.refl _)
      have m1 := mc1 TM.out _ (Gr.refl _)
      have m2 := mc2 TM.out _ (Gr.refl _)
      have m3 := mc3 TM.out _ (Gr.refl _)
      have m4 := mc4 TM.out _ (Gr.refl _)
      have m5 := mc5 TM.out _ (Gr.refl _)
      have m6 := mc6 TM.out _ (Gr.refl _)
      have m7 := mc7 TM.out _ (Gr.refl _)
      have m8 := mc8 TM.out _ (Gr.refl _)
      have m9 := mc9 TM.out _ (Gr.refl _)
      have m10 := mc10 TM.out _ (Gr.refl _)
      go_wp2_with fail
      go_ret
      exact ⟨_, rfl, G.out, rfl⟩
  · clear h
    have m0 := mc0 TM.out _ (Gr.refl _)
    have m1 := mc1 TM.out _ (Gr.refl _)
    have m2 := mc2 TM.out _ (Gr.refl _)
    have m3 := mc3 TM.out _ (Gr.refl _)
    have m4 := mc4 TM.out _ (Gr.refl _)
    have m5 := mc5 TM.out _ (Gr.refl _)
    have m6 := mc6 TM.out _ (Gr.refl _)
    have m7 := mc7 TM.out _ (Gr.refl _)
    have m8 := mc8 TM.out _ (Gr.refl _)
    have m9 := mc9 TM.out _ (Gr.refl _)
    have m10 := mc10 TM.out _ (Gr.refl _)
    go_wp2_with fail
    go_ret
    exact ⟨_, rfl, G.out, rfl⟩
end Go.Proofs.YtammehbflilbiaaGreatDoor

/-
  exodusref15.IsName.
-/
import Derived.Test.YtakcolmgbahgiaaDoorLexO
namespace Go.Proofs.YtakcolmgbahgiaaDoor
open Go.RowKit Go.Lib Lex
set_option linter.unusedVariables false
set_option linter.unusedSimpArgs false

theorem isName_all (b : UInt8) (r : List UInt8) (h1 : (b :: r).length ≤ 31) (h2 : isLo b = true) (h3 : keywords.contains (b :: r) = false) : isName (b :: r) = (b :: r).all isWd := by
  unfold isName
  rw [decide_eq_true (show 1 ≤ (b :: r).length by simp), decide_eq_true h1, h3]
  simp only [h2, Bool.not_false, Bool.and_true, Bool.true_and]

set_option maxRecDepth 100000 in
set_option maxHeartbeats 1600000 in
theorem ref_IsName (w : World) (bs : List UInt8) (hl : bs.length ≤ 1000000000) :
    Calls Tryd.prog 17 #[.string ⟨bs.toArray⟩] w (Ret w fun r _ => r = .bool (isName bs)) := by
  have G := Lib.hid (Gr.refl w)
  by_cases h0 : bs = []
  · subst h0
    go_enter Tryd.func17, Tryd.ntmps17
    go_wp2_with fail
    go_ret
    exact ⟨_, rfl, G.out, rfl⟩
  · have hpos : 0 < bs.length := List.length_pos_iff.2 h0
    have hpos' : 1 ≤ (bs.length : Int) := by omega
    by_cases h31 : 31 < bs.length
    · have h31' : (31 : Int) < (bs.length : Int) := by omega
      have HN := Lib.hid (show isName bs = false by unfold isName; rw [decide_eq_false (show ¬ bs.length ≤ 31 by omega)]; simp)
      clear h0
      go_enter Tryd.func17, Tryd.ntmps17
      go_wp2_with fail
      go_ret
      exact ⟨_, rfl, G.out, by rw [HN.out]; rfl⟩
    · have h31' : ¬ (31 : Int) < (bs.length : Int) := by omega
      obtain ⟨b, hc⟩ : ∃ b, bs[0] = b := ⟨_, rfl⟩
      have hi : ∀ h, (⟨bs.toArray⟩ : ByteArray)[0]'h = b := fun h => by show bs.toArray[0] = _; simp [hc]
      have HD := Lib.hid (show bs = b :: bs.drop 1 by rw [← hc]; exact List.drop_eq_getElem_cons (i := 0) hpos)
      clear hc h0
      go_enter Tryd.func17, Tryd.ntmps17
      go_wp2_with fail
      refine (ref_Letter _ b).mono ?_
      rintro _ _ ⟨rfl, rfl⟩
      obtain ⟨t, ht⟩ : ∃ t, isLo b = t := ⟨_, rfl⟩
      rw [ht]
      have HT := Lib.hid ht
      clear ht
      cases t
      · have HN := Lib.hid (show isName bs = false by rw [HD.out]; unfold isName; simp [HT.out])
        go_wp2_with fail
        go_ret
        exact ⟨_, rfl, G.out, by rw [HN.out]; rfl⟩
      · go_wp2_with fail
        refine (ref_Keywords _).mono ?_
        rintro _ w1 ⟨r1, rfl, g1, h1⟩
        have G := Lib.hid (G.out.trans g1)
        clear g1
        have H1 := Lib.hid h1
        clear h1
        go_wp2_with fail
        obtain ⟨kk, hk⟩ : ∃ kk, keywords.contains bs = kk := ⟨_, rfl⟩
        have hHas := ref_Has w1 r1 keywords bs H1.out (by decide)
        rw [hk] at hHas
        have HK := Lib.hid hk
        clear hk
        refine hHas.mono ?_
        rintro _ w2 ⟨_, rfl, g2, rfl⟩
        have G := Lib.hid (G.out.trans g2)
        clear hHas H1 g2
        cases kk
        · have HN := Lib.hid (show isName bs = bs.all isWd by
            have := isName_all b (bs.drop 1) (by rw [← HD.out]; omega) HT.out (by rw [← HD.out]; exact HK.out)
            rw [← HD.out] at this; exact this)
          clear HT
          go_wp2_with fail
          go_loopw [3] (fun i w1 => ∃ k : Nat, i = .int .i64 k ∧ k ≤ bs.length ∧ (bs.take k).all isWd = true ∧ Gr w w1) (fun i _ => bs.length - (RowKit.intOf i).toNat)
          case atStart => exact ⟨0, rfl, Nat.zero_le _, rfl, G.out⟩
          case round =>
            clear G hi
            obtain ⟨k, rfl, hk, hp, hg⟩ := hrel
            have HP := Lib.hid hp
            have G := Lib.hid hg
            clear hp hg
            by_cases hlt : k < bs.length
            · have hlt' : (k : Int) < (bs.length : Int) := by omega
              obtain ⟨c, hc⟩ : ∃ c, bs[k] = c := ⟨_, rfl⟩
              have hi : ∀ h, (⟨bs.toArray⟩ : ByteArray)[k]'h = c := fun h => by show bs.toArray[k] = _; simp [hc]
              have HS := Lib.hid (show (bs.take (k + 1)).all isWd = isWd c by rw [List.take_succ_eq_append_getElem hlt, hc, List.all_append, HP.out]; simp)
              have HF := Lib.hid (show isWd c = false → bs.all isWd = false from fun h => List.all_eq_false.2 ⟨c, by rw [← hc]; exact List.getElem_mem _, by simpa using h⟩)
              clear hc
              go_wp2_with fail
              refine (ref_Letter _ c).mono ?_
              rintro _ _ ⟨rfl, rfl⟩
              obtain ⟨t, ht⟩ : ∃ t, isLo c = t := ⟨_, rfl⟩
              rw [ht]
              have HT := Lib.hid ht
              clear ht
              cases t
              · go_wp2_with fail
                refine (ref_Digit _ c).mono ?_
                rintro _ _ ⟨rfl, rfl⟩
                obtain ⟨t, ht⟩ : ∃ t, isDi c = t := ⟨_, rfl⟩
                rw [ht]
                have HT2 := Lib.hid ht
                clear ht
                cases t
                · by_cases h95 : c = 95
                  · subst h95
                    go_wp2_with fail
                    refine ⟨⟨k + 1, by go_num, by omega, by rw [HS.out]; rfl, G.out⟩, by simp [RowKit.intOf]; omega⟩
                  · have e95 := u8_bne (n := 95) 95 rfl h95
                    have f95 := u8_ne (n := 95) 95 rfl h95
                    have HW := Lib.hid (HF.out (by unfold isWd; rw [HT.out, HT2.out]; simpa using h95))
                    go_wp2_with fail
                    go_ret
                    exact ⟨_, rfl, G.out, by rw [HN.out, HW.out]; rfl⟩
                · go_wp2_with fail
                  refine ⟨⟨k + 1, by go_num, by omega, by rw [HS.out]; unfold isWd; rw [HT2.out]; simp, G.out⟩, by simp [RowKit.intOf]; omega⟩
              · go_wp2_with fail
                refine ⟨⟨k + 1, by go_num, by omega, by rw [HS.out]; unfold isWd; rw [HT.out]; simp, G.out⟩, by simp [RowKit.intOf]; omega⟩
            · have HW := Lib.hid (show bs.all isWd = true by
                have := HP.out
                rwa [List.take_of_length_le (by omega)] at this)
              have hlt' : ¬ (k : Int) < (bs.length : Int) := by omega
              go_wp2_with fail
              go_ret
              exact ⟨_, rfl, G.out, by rw [HN.out, HW.out]; rfl⟩
        · have HN := Lib.hid (show isName bs = false by unfold isName; rw [HK.out]; simp)
          go_wp2_with fail
          go_ret
          exact ⟨_, rfl, G.out, by rw [HN.out]; rfl⟩
end Go.Proofs.YtakcolmgbahgiaaDoor

/-
  catalog.IsName.
-/
import Derived.Test.YtammehbflilbiaaDoorCatN
namespace Go.Proofs.YtammehbflilbiaaDoor
open Go.RowKit Go.Lib Lex
set_option linter.unusedVariables false
set_option linter.unusedSimpArgs false

theorem contains_kw (t : List UInt8) : Lib.containsS kws ⟨t.toArray⟩ = keywords.contains t := by
  rw [Bool.eq_iff_iff, Lib.containsS_iff, List.contains_iff_mem]
  unfold kws
  rw [List.mem_map]
  constructor
  · rintro ⟨a, ha, he⟩
    have : a = t := by
      have h := congrArg (fun b : ByteArray => b.data.toList) he
      simpa using h
    exact this ▸ ha
  · exact fun h => ⟨t, h, rfl⟩
theorem isName_all' (b : UInt8) (r : List UInt8) (h1 : (b :: r).length ≤ 31) (h2 : isLo b = true) : isName (b :: r) = ((b :: r).all isWd && !keywords.contains (b :: r)) := by
  unfold isName
  rw [decide_eq_true (show 1 ≤ (b :: r).length by simp), decide_eq_true h1]
  simp only [h2, Bool.and_true, Bool.true_and]
theorem isName_no {bs r : List UInt8} {b : UInt8} (h : bs = b :: r) (hb : isLo b = false) : isName bs = false := by rw [h]; unfold isName; simp [hb]
set_option maxRecDepth 100000 in
theorem cat_IsName (w : World) (bs : List UInt8) (ht : Tab w) (hl : bs.length ≤ 1000000000) :
    Calls Tryd.prog 6 #[.string ⟨bs.toArray⟩] w (Ret w fun r _ => r = .bool (isName bs)) := by
  have G := Lib.hid (Gr.refl w)
  have HT := Lib.hid ht
  clear ht
  by_cases h0 : bs = []
  · subst h0
    go_enter Tryd.func6, Tryd.ntmps6
    go_wp2_with fail
    go_ret
    exact ⟨_, rfl, G.out, rfl⟩
  · have hpos : 0 < bs.length := List.length_pos_iff.2 h0
    have hpos' : 1 ≤ (bs.length : Int) := by omega
    by_cases h31 : 31 < bs.length
    · have h31' : ¬ (bs.length : Int) ≤ 31 := by omega
      have HN := Lib.hid (show isName bs = false by unfold isName; rw [decide_eq_false (show ¬ bs.length ≤ 31 by omega)]; simp)
      clear h0
      go_enter Tryd.func6, Tryd.ntmps6
      go_wp2_with fail
      go_ret
      exact ⟨_, rfl, G.out, by rw [HN.out]; rfl⟩
    · have h31' : (bs.length : Int) ≤ 31 := by omega
      obtain ⟨b, hc⟩ : ∃ b, bs[0] = b := ⟨_, rfl⟩
      have hi : ∀ h, (⟨bs.toArray⟩ : ByteArray)[0]'h = b := fun h => by show bs.toArray[0] = _; simp [hc]
      have HD := Lib.hid (show bs = b :: bs.drop 1 by rw [← hc]; exact List.drop_eq_getElem_cons (i := 0) hpos)
      clear hc h0
      by_cases h97 : (97 : Int) ≤ (b.toNat : Int)
      · by_cases h122 : (b.toNat : Int) ≤ 122
        · have HB := Lib.hid (show isLo b = true by unfold isLo; simp; omega)
          go_enter Tryd.func6, Tryd.ntmps6
          go_wp2_with fail
          clear h97 h122 hi
          refine (Tryd.strings_ContainsFunc_grows 20 #[] (enters_of Tryd.func20 (by kernel_rfl) rfl) offName ⟨bs.toArray⟩ w (fun W x hx _ => cat_rune W x hx)).mono ?_
          rintro _ w1 ⟨rfl, g1⟩
          rw [idx_name]
          have HE := Lib.hid (show isName bs = (bs.all isWd && !keywords.contains bs) by
            have := isName_all' b (bs.drop 1) (by rw [← HD.out]; omega) HB.out
            rw [← HD.out] at this; exact this)
          have G := Lib.hid (show Gr w w1 from g1)
          have HT := Lib.hid (HT.out.grow G.out)
          clear g1
          cases ha : bs.all isWd
          · have HA := Lib.hid ha
            clear ha
            go_wp2_with fail
            go_ret
            exact ⟨_, rfl, G.out, by rw [HE.out, HA.out]; rfl⟩
          · have HA := Lib.hid ha
            clear ha
            go_wp2_with fail
            refine (cat_Keywords _ HT.out).mono ?_
            rintro _ w8 ⟨_, rfl, g8, b8, rfl, h8⟩
            have G := Lib.hid (G.out.trans g8)
            clear g8
            go_wp2_with fail
            refine (Tryd.slices_Contains_string b8 0 28 28 kws ⟨bs.toArray⟩ _ (by decide) (by decide) h8).mono ?_
            rintro _ w9 ⟨rfl, rfl⟩
            clear h8
            rw [show kws.take 28 = kws from rfl, contains_kw]
            obtain ⟨kk, hk⟩ : ∃ kk, keywords.contains bs = kk := ⟨_, rfl⟩
            rw [hk]
            have HK := Lib.hid hk
            clear hk
            cases kk
            · go_wp2_with fail
              go_ret
              exact ⟨_, rfl, G.out, by rw [HE.out, HA.out, HK.out]; rfl⟩
            · go_wp2_with fail
              go_ret
              exact ⟨_, rfl, G.out, by rw [HE.out, HA.out, HK.out]; rfl⟩
        · have HN := Lib.hid (isName_no HD.out (by unfold isLo; rw [decide_eq_false (show ¬ b.toNat ≤ 122 by omega)]; simp))
          go_enter Tryd.func6, Tryd.ntmps6
          go_wp2_with fail
          go_ret
          exact ⟨_, rfl, G.out, by rw [HN.out]; rfl⟩
      · have HN := Lib.hid (isName_no HD.out (by unfold isLo; rw [decide_eq_false (show ¬ 97 ≤ b.toNat by omega)]; simp))
        go_enter Tryd.func6, Tryd.ntmps6
        go_wp2_with fail
        go_ret
        exact ⟨_, rfl, G.out, by rw [HN.out]; rfl⟩
end Go.Proofs.YtammehbflilbiaaDoor

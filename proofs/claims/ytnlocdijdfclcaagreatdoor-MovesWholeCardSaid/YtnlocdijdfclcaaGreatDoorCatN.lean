/-
  catalog.IsName.
  catalog.IsName.
-/
import Derived.Test.YtnlocdijdfclcaaGreatDoorCatA
import Derived.Laws.RangeAny
namespace Go.Proofs.YtnlocdijdfclcaaGreatDoor
open Go.RowKit Go.Lib Lex
set_option linter.unusedVariables false
set_option linter.unusedSimpArgs false

def offName (r : Nat) : Bool := (decide (r < 97) || decide (122 < r)) && (decide (r < 48) || decide (57 < r)) && (r != 95)
theorem offName_wd (c : UInt8) : offName c.toNat = !isWd c := by
 unfold offName isWd isLo isDi
 have e : (c == 95) = decide (c.toNat = 95) := by
  by_cases h : c = 95
  ·subst h; rfl
  ·have : ¬ c.toNat = 95 := fun e => h (UInt8.toNat_inj.1 (by simpa using e))
   simp [h, this]
 rw [e]
 by_cases h1 : 97 ≤ c.toNat <;> by_cases h2 : c.toNat ≤ 122 <;> by_cases h3 : 48 ≤ c.toNat <;> by_cases h4 : c.toNat ≤ 57 <;> by_cases h5 : c.toNat = 95 <;> simp [h1, h2, h3, h4, h5] <;> omega
theorem offName_high {r : Nat} (h : 128 ≤ r) : offName r = true := by
 unfold offName
 have h1 : 122 < r := by omega
 have h2 : 57 < r := by omega
 have h3 : r ≠ 95 := by omega
 simp [h1, h2, h3]
theorem idx_from (bs : List UInt8) : ∀ (f pos : Nat), pos ≤ bs.length → bs.length - pos ≤ f → (0 ≤ idxFuncFrom offName true ⟨bs.toArray⟩ f pos ↔ (bs.drop pos).all isWd = false)
 | 0, pos, h, hf => by
  have : bs.drop pos = [] := List.drop_eq_nil_of_le (by omega)
  rw [this]
  simp [idxFuncFrom]
 | f + 1, pos, h, hf => by
  have hz : (⟨bs.toArray⟩ : ByteArray).size = bs.length := by simp [ByteArray.size]
  rcases Nat.lt_or_ge pos bs.length with hlt | hge
  ·have hp : pos < (⟨bs.toArray⟩ : ByteArray).size := by rw [hz]; exact hlt
   have hb : (⟨bs.toArray⟩ : ByteArray)[pos]'hp = bs[pos] := by show bs.toArray[pos] = _; simp
   have hd : bs.drop pos = bs[pos] :: bs.drop (pos + 1) := List.drop_eq_getElem_cons hlt
   unfold idxFuncFrom
   rw [if_pos hp, hd, List.all_cons]
   rcases Nat.lt_or_ge (bs[pos]).toNat 128 with ha | ha
   ·rw [decode_ascii _ pos hp (by rw [hb]; exact ha), hb]
    show (0 ≤ if offName (bs[pos]).toNat = true then (pos : Int) else idxFuncFrom offName true ⟨bs.toArray⟩ f (pos + 1)) ↔ _
    rw [offName_wd]
    cases hw : isWd bs[pos]
    ·simp
    ·simp only [Bool.not_true, Bool.false_eq_true, if_false, Bool.true_and]
     exact idx_from bs f (pos + 1) (by omega) (by omega)
   ·have hh := decode_high _ pos hp (by rw [hb]; exact ha)
    rw [if_pos (offName_high hh.1)]
    have : isWd bs[pos] = false := by
     have := offName_wd bs[pos]
     rw [offName_high ha] at this
     simpa using this.symm
    rw [this]
    simp
  ·have : bs.drop pos = [] := List.drop_eq_nil_of_le (by omega)
   rw [this]
   unfold idxFuncFrom
   rw [if_neg (by rw [hz]; omega)]
   simp
theorem idx_name (bs : List UInt8) : decide (0 ≤ idxFunc offName true ⟨bs.toArray⟩) = !bs.all isWd := by
 have h := idx_from bs bs.length 0 (Nat.zero_le _) (by omega)
 have hz : (⟨bs.toArray⟩ : ByteArray).size = bs.length := by simp [ByteArray.size]
 unfold idxFunc
 rw [hz]
 rw [List.drop_zero] at h
 cases hw : bs.all isWd
 ·rw [hw] at h; simp [h.2 rfl]
 ·rw [hw] at h
  simp
  have : ¬ 0 ≤ idxFuncFrom offName true ⟨bs.toArray⟩ bs.length 0 := fun e => by have := h.1 e; cases this
  omega
set_option maxRecDepth 100000 in
theorem cat_rune (w : World) (x : Nat) (hx : x ≤ 1114111) : Calls Tryz.prog 113 (#[encR x] ++ #[]) w fun e w' => e = .returned (.bool (offName x)) ∧ Below w.heap.size w w' := by
 by_cases h1 : (x : Int) < 97
 ·by_cases h2 : (x : Int) < 48
  ·by_cases h5 : (x : Int) = 95
   ·omega
   ·have e5 : ((x : Int) != 95) = true := by simpa using h5
    have H1 := Lib.hid (And.intro h1 (And.intro h2 h5))
    clear h5
    go_enter Tryz.func113, Tryz.ntmps113
    go_wp2_with fail
    go_ret
    refine ⟨?_, Below.refl _ _⟩
    unfold offName
    have := H1.out
    congr 2
    simp
    try omega
  ·by_cases h3 : 57 < (x : Int)
   ·by_cases h5 : (x : Int) = 95
    ·have e5 : ((x : Int) != 95) = false := by simpa using h5
     have H1 := Lib.hid (And.intro h1 (And.intro h2 h5))
     clear h5
     go_enter Tryz.func113, Tryz.ntmps113
     go_wp2_with fail
     go_ret
     refine ⟨?_, Below.refl _ _⟩
     unfold offName
     have := H1.out
     congr 2
     simp
     try omega
    ·have e5 : ((x : Int) != 95) = true := by simpa using h5
     have H1 := Lib.hid (And.intro h1 (And.intro h2 h5))
     clear h5
     go_enter Tryz.func113, Tryz.ntmps113
     go_wp2_with fail
     go_ret
     refine ⟨?_, Below.refl _ _⟩
     unfold offName
     have := H1.out
     congr 2
     simp
     try omega
   ·have h5 : ¬ (x : Int) = 95 := by omega
    have H1 := Lib.hid (And.intro h1 (And.intro h2 h5))
    clear h5
    go_enter Tryz.func113, Tryz.ntmps113
    go_wp2_with fail
    go_ret
    refine ⟨?_, Below.refl _ _⟩
    unfold offName
    have := H1.out
    congr 2
    simp
    try omega
 ·by_cases h2 : 122 < (x : Int)
  ·have h4 : ¬ (x : Int) < 48 := by omega
   have h3 : 57 < (x : Int) := by omega
   have h5 : ¬ (x : Int) = 95 := by omega
   have e5 : ((x : Int) != 95) = true := by simpa using h5
   have H1 := Lib.hid (And.intro h1 (And.intro h2 h5))
   clear h5
   go_enter Tryz.func113, Tryz.ntmps113
   go_wp2_with fail
   go_ret
   refine ⟨?_, Below.refl _ _⟩
   unfold offName
   have := H1.out
   congr 2
   simp
   try omega
  ·have h5 : ¬ (x : Int) = 95 := by omega
   have H1 := Lib.hid (And.intro h1 (And.intro h2 h5))
   clear h5
   go_enter Tryz.func113, Tryz.ntmps113
   go_wp2_with fail
   go_ret
   refine ⟨?_, Below.refl _ _⟩
   unfold offName
   have := H1.out
   congr 2
   simp
   try omega
end Go.Proofs.YtnlocdijdfclcaaGreatDoor
namespace Go.Proofs.YtnlocdijdfclcaaGreatDoor
open Go.RowKit Go.Lib Lex
set_option linter.unusedVariables false
set_option linter.unusedSimpArgs false

theorem contains_kw (t : List UInt8) : Lib.containsS kws ⟨t.toArray⟩ = keywords.contains t := by
 rw [Bool.eq_iff_iff, Lib.containsS_iff, List.contains_iff_mem]
 unfold kws
 rw [List.mem_map]
 constructor
 ·rintro ⟨a, ha, he⟩
  have : a = t := by
   have h := congrArg (fun b : ByteArray => b.data.toList) he
   simpa using h
  exact this ▸ ha
 ·exact fun h => ⟨t, h, rfl⟩
theorem isName_all' (b : UInt8) (r : List UInt8) (h1 : (b :: r).length ≤ 31) (h2 : isLo b = true) : isName (b :: r) = ((b :: r).all isWd && !keywords.contains (b :: r)) := by
 unfold isName
 rw [decide_eq_true (show 1 ≤ (b :: r).length by simp), decide_eq_true h1]
 simp only [h2, Bool.and_true, Bool.true_and]
theorem isName_no {bs r : List UInt8} {b : UInt8} (h : bs = b :: r) (hb : isLo b = false) : isName bs = false := by rw [h]; unfold isName; simp [hb]
set_option maxRecDepth 100000 in
theorem cat_IsName (w : World) (bs : List UInt8) (ht : Tab w) (hl : bs.length ≤ 1000000000) :
  Calls Tryz.prog 69 #[.string ⟨bs.toArray⟩] w (Ret w fun r _ => r = .bool (isName bs)) := by
 have G := Lib.hid (Gr.refl w)
 have HT := Lib.hid ht
 clear ht
 by_cases h0 : bs = []
 ·subst h0
  go_enter Tryz.func69, Tryz.ntmps69
  go_wp2_with fail
  go_ret
  exact ⟨_, rfl, G.out, rfl⟩
 ·have hpos : 0 < bs.length := List.length_pos_iff.2 h0
  have hpos' : 1 ≤ (bs.length : Int) := by omega
  by_cases h31 : 31 < bs.length
  ·have h31' : ¬ (bs.length : Int) ≤ 31 := by omega
   have HN := Lib.hid (show isName bs = false by unfold isName; rw [decide_eq_false (show ¬ bs.length ≤ 31 by omega)]; simp)
   clear h0
   go_enter Tryz.func69, Tryz.ntmps69
   go_wp2_with fail
   go_ret
   exact ⟨_, rfl, G.out, by rw [HN.out]; rfl⟩
  ·have h31' : (bs.length : Int) ≤ 31 := by omega
   obtain ⟨b, hc⟩ : ∃ b, bs[0] = b := ⟨_, rfl⟩
   have hi : ∀ h, (⟨bs.toArray⟩ : ByteArray)[0]'h = b := fun h => by show bs.toArray[0] = _; simp [hc]
   have HD := Lib.hid (show bs = b :: bs.drop 1 by rw [← hc]; exact List.drop_eq_getElem_cons (i := 0) hpos)
   clear hc h0
   by_cases h97 : (97 : Int) ≤ (b.toNat : Int)
   ·by_cases h122 : (b.toNat : Int) ≤ 122
    ·have HB := Lib.hid (show isLo b = true by unfold isLo; simp; omega)
     go_enter Tryz.func69, Tryz.ntmps69
     go_wp2_with fail
     clear h97 h122 hi
     refine (Tryz.strings_ContainsFunc_grows 113 #[] (enters_of Tryz.func113 (by kernel_rfl) rfl) offName ⟨bs.toArray⟩ w (fun W x hx _ => cat_rune W x hx)).mono ?_
     rintro _ w1 ⟨rfl, g1⟩
     rw [idx_name]
     have HE := Lib.hid (show isName bs = (bs.all isWd && !keywords.contains bs) by
      have := isName_all' b (bs.drop 1) (by rw [← HD.out]; omega) HB.out
      rw [← HD.out] at this; exact this)
     have G := Lib.hid (show Gr w w1 from g1)
     have HT := Lib.hid (HT.out.grow G.out)
     clear g1
     cases ha : bs.all isWd
     ·have HA := Lib.hid ha
      clear ha
      go_wp2_with fail
      go_ret
      exact ⟨_, rfl, G.out, by rw [HE.out, HA.out]; rfl⟩
     ·have HA := Lib.hid ha
      clear ha
      go_wp2_with fail
      refine (cat_Keywords _ HT.out).mono ?_
      rintro _ w8 ⟨_, rfl, g8, b8, rfl, h8⟩
      have G := Lib.hid (G.out.trans g8)
      clear g8
      go_wp2_with fail
      refine (Tryz.slices_Contains_string b8 0 28 28 kws ⟨bs.toArray⟩ _ (by decide) (by decide) h8).mono ?_
      rintro _ w9 ⟨rfl, rfl⟩
      clear h8
      rw [show kws.take 28 = kws from rfl, contains_kw]
      obtain ⟨kk, hk⟩ : ∃ kk, keywords.contains bs = kk := ⟨_, rfl⟩
      rw [hk]
      have HK := Lib.hid hk
      clear hk
      cases kk
      ·go_wp2_with fail
       go_ret
       exact ⟨_, rfl, G.out, by rw [HE.out, HA.out, HK.out]; rfl⟩
      ·go_wp2_with fail
       go_ret
       exact ⟨_, rfl, G.out, by rw [HE.out, HA.out, HK.out]; rfl⟩
    ·have HN := Lib.hid (isName_no HD.out (by unfold isLo; rw [decide_eq_false (show ¬ b.toNat ≤ 122 by omega)]; simp))
     go_enter Tryz.func69, Tryz.ntmps69
     go_wp2_with fail
     go_ret
     exact ⟨_, rfl, G.out, by rw [HN.out]; rfl⟩
   ·have HN := Lib.hid (isName_no HD.out (by unfold isLo; rw [decide_eq_false (show ¬ 97 ≤ b.toNat by omega)]; simp))
    go_enter Tryz.func69, Tryz.ntmps69
    go_wp2_with fail
    go_ret
    exact ⟨_, rfl, G.out, by rw [HN.out]; rfl⟩
end Go.Proofs.YtnlocdijdfclcaaGreatDoor

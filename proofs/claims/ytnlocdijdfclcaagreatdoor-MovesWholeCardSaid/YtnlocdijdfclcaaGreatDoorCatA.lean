/-
 exodusref15.Letter, Digit, Has, Keywords, IsName; catalog.Keywords (as in the Lexer's seat).
-/
import Derived.Test.YtnlocdijdfclcaaGreatDoorLex
import Derived.Test.YtnlocdijdfclcaaGreatDoorFast
import Derived.Test.YtnlocdijdfclcaaGreatDoorSlc
import Derived.Test.YtnlocdijdfclcaaGreatDoorShelf
namespace Go.Proofs.YtnlocdijdfclcaaGreatDoor
open Go.RowKit Go.Lib Lex
set_option linter.unusedVariables false
set_option linter.unusedSimpArgs false

theorem ref_Letter (w : World) (c : UInt8) : Calls Tryz.prog 134 #[.int .u8 (c.toNat : Int)] w fun e w' => e = .returned (.bool (isLo c)) ∧ w = w' := by
 by_cases h1 : (97 : Int) ≤ (c.toNat : Int)
 ·by_cases h2 : (c.toNat : Int) ≤ 122
  ·go_enter Tryz.func134, Tryz.ntmps134
   go_wp2_with fail
   go_ret
   exact ⟨by unfold isLo; rw [decide_eq_true (show 97 ≤ c.toNat by omega), decide_eq_true (show c.toNat ≤ 122 by omega)]; rfl, rfl⟩
  ·go_enter Tryz.func134, Tryz.ntmps134
   go_wp2_with fail
   go_ret
   exact ⟨by unfold isLo; rw [decide_eq_true (show 97 ≤ c.toNat by omega), decide_eq_false (show ¬ c.toNat ≤ 122 by omega)]; simp; try omega, rfl⟩
 ·go_enter Tryz.func134, Tryz.ntmps134
  go_wp2_with fail
  go_ret
  exact ⟨by unfold isLo; rw [decide_eq_false (show ¬ 97 ≤ c.toNat by omega)]; simp; try omega, rfl⟩
theorem ref_Digit (w : World) (c : UInt8) : Calls Tryz.prog 136 #[.int .u8 (c.toNat : Int)] w fun e w' => e = .returned (.bool (isDi c)) ∧ w = w' := by
 by_cases h1 : (48 : Int) ≤ (c.toNat : Int)
 ·by_cases h2 : (c.toNat : Int) ≤ 57
  ·go_enter Tryz.func136, Tryz.ntmps136
   go_wp2_with fail
   go_ret
   exact ⟨by unfold isDi; rw [decide_eq_true (show 48 ≤ c.toNat by omega), decide_eq_true (show c.toNat ≤ 57 by omega)]; rfl, rfl⟩
  ·go_enter Tryz.func136, Tryz.ntmps136
   go_wp2_with fail
   go_ret
   exact ⟨by unfold isDi; rw [decide_eq_true (show 48 ≤ c.toNat by omega), decide_eq_false (show ¬ c.toNat ≤ 57 by omega)]; simp; try omega, rfl⟩
 ·go_enter Tryz.func136, Tryz.ntmps136
  go_wp2_with fail
  go_ret
  exact ⟨by unfold isDi; rw [decide_eq_false (show ¬ 48 ≤ c.toNat by omega)]; simp; try omega, rfl⟩
theorem u8_ne {c : UInt8} {n : Int} (d : UInt8) (hd : (d.toNat : Int) = n) (h : c ≠ d) : ¬ (c.toNat : Int) = n := fun e => h (UInt8.toNat_inj.1 (by omega))
theorem u8_bne {c : UInt8} {n : Int} (d : UInt8) (hd : (d.toNat : Int) = n) (h : c ≠ d) : ((c.toNat : Int) != n) = true := by simpa using u8_ne d hd h

def Tab (w : World) : Prop := Lib.TabIs Tryz.prog w "strings.asciiSpace" .u8 Lib.asciiSpaceTab
theorem Tab.grow {w w' : World} (h : Tab w) (g : Gr w w') : Tab w' := by
 unfold Tab Lib.TabIs World.var? at h ⊢
 rw [show Tryz.prog.globalNamed "strings.asciiSpace" = some 0 by kernel_rfl] at h ⊢
 simp only [Option.bind_some] at h ⊢
 have hlt : 0 < w.heap.size := by
  rcases Nat.lt_or_ge 0 w.heap.size with h' | h'
  ·exact h'
  ·rw [Array.getElem?_eq_none h'] at h; cases h
 rw [Below.block g 0 hlt]
 exact h

def kws : List ByteArray := keywords.map (fun l => ⟨l.toArray⟩)
def kwText : List UInt8 := [97, 108, 119, 97, 121, 115, 32, 98, 101, 102, 111, 114, 101, 32, 98, 121, 32, 99, 97, 112, 97, 99, 105, 116, 121, 32, 100, 97, 114, 107, 32, 100, 105, 115, 116, 117, 114, 98, 32, 102, 97, 105, 108, 117, 114, 101, 115, 32, 102, 101, 101, 100, 32, 103, 114, 111, 117, 112, 32, 105, 110, 32, 106, 111, 98, 32, 107, 101, 101, 112, 32, 108, 105, 110, 107, 32, 108, 111, 97, 100, 32, 109, 97, 99, 104, 105, 110, 101, 32, 111, 110, 32, 111, 110, 108, 121, 32, 111, 114, 100, 101, 114, 32, 112, 111, 111, 108, 32, 113, 117, 111, 114, 117, 109, 32, 114, 97, 99, 107, 32, 114, 101, 115, 101, 114, 118, 101, 32, 115, 104, 97, 114, 101, 32, 115, 105, 108, 101, 110, 99, 101, 32, 115, 105, 116, 101, 32, 115, 105, 122, 101, 32, 115, 108, 111, 116, 115, 32, 115, 112, 114, 101, 97, 100]
theorem fields_kw : Lib.fields kwText = keywords := by kernel_rfl
set_option maxRecDepth 100000 in
theorem kw_ascii : ∀ (j : Nat) b, kwText[j]? = some b → b.toNat < 128 := fun j b h => by
 have : ∀ b ∈ kwText, b.toNat < 128 := by decide
 exact this b (List.mem_of_getElem? h)
def KwRow (w : World) (b : Nat) : Prop := ∀ j, j < kws.length → w.cell? ⟨b, 0 + j, none⟩ = some (.string (kws.getD j ByteArray.empty))
set_option maxRecDepth 100000 in
theorem cat_Keywords (w : World) (ht : Tab w) : Calls Tryz.prog 116 #[] w (Ret w fun r w' => ∃ b, r = .slice (some ⟨b, 0, none⟩) 28 28 ∧ KwRow w' b) := by
 have HT := Lib.hid ht
 clear ht
 go_enter Tryz.func116, Tryz.ntmps116
 go_wp2_with fail
 refine (Tryz.strings_Fields ⟨kwText.toArray⟩ w (by show kwText.length < _; decide) (by rw [show (⟨kwText.toArray⟩ : ByteArray).data.toList = kwText by simp]; exact kw_ascii) HT.out).mono ?_
 rintro _ w2 ⟨rfl, rfl⟩
 rw [show (⟨kwText.toArray⟩ : ByteArray).data.toList = kwText by simp, fields_kw]
 obtain ⟨t, ht⟩ : ∃ t, w.alloc (.cells (keywords.map fun l => Value.string ⟨l.toArray⟩).toArray 9) = t := ⟨_, rfl⟩
 have G := Lib.hid (show Gr w t by rw [← ht]; exact (Gr.refl w).alloc _)
 have HR := Lib.hid (show KwRow t w.heap.size from fun j hj => by
  have hj' : j < keywords.length := by simpa [kws] using hj
  rw [← ht]
  unfold World.cell?
  rw [show (⟨w.heap.size, 0 + j, none⟩ : Addr).block = w.heap.size from rfl, heap_alloc_new]
  simp [kws, hj'])
 rw [ht]
 clear ht
 go_wp2_with fail
 go_ret
 exact ⟨_, rfl, G.out, _, rfl, HR.out⟩
def strV (s : List UInt8) : Value := .string ⟨s.toArray⟩
def StrS (w : World) (v : Value) (l : List (List UInt8)) : Prop := SlV w 1 v l.length (l.map strV)
theorem StrS.grow {w w' : World} {v : Value} {l : List (List UInt8)} (h : StrS w v l) (g : Gr w w') : StrS w' v l := SlV.grow h g
theorem str_inj {x s : List UInt8} (h : x ≠ s) : ¬ (⟨x.toArray⟩ : ByteArray) = ⟨s.toArray⟩ := fun e => h (by
 have := congrArg (fun b : ByteArray => b.data.toList) e
 simpa using this)
theorem str_beq {x s : List UInt8} (h : x ≠ s) : (x == s) = false := by simpa using h

set_option maxRecDepth 100000 in
theorem ref_Has (w : World) (v : Value) (l : List (List UInt8)) (s : List UInt8) (hv : StrS w v l) (hl : l.length ≤ 1000000000) :
  Calls Tryz.prog 97 #[v, .string ⟨s.toArray⟩] w (Ret w fun r _ => r = .bool (l.contains s)) := by
 obtain ⟨p, c, rfl, hc1, hc2⟩ := SlV.parts hv
 have HV := Lib.hid hv
 obtain ⟨n, hn⟩ : ∃ n, l.length = n := ⟨_, rfl⟩
 rw [hn] at hc1 hl
 have HN := Lib.hid hn
 rw [hn]
 clear hv hn
 go_enter Tryz.func97, Tryz.ntmps97
 go_wp2_with fail
 go_loopw [5] (fun i w1 => ∃ k : Nat, i = .int .i64 k ∧ k ≤ n ∧ (l.take k).contains s = false ∧ Gr w w1) (fun i _ => n - (RowKit.intOf i).toNat)
 case atStart => exact ⟨0, rfl, Nat.zero_le _, rfl, Gr.refl _⟩
 case round =>
  obtain ⟨k, rfl, hk, hp, hg⟩ := hrel
  have HP := Lib.hid hp
  have G := Lib.hid hg
  clear hp hg
  by_cases hlt : k < n
  ·have hlt' : (k : Int) < (n : Int) := by omega
   have hv := HV.out
   unfold StrS at hv
   rw [HN.out] at hv
   obtain ⟨b, o, rfl, hcell⟩ := SlV.cells hv (by omega)
   obtain ⟨x, hx⟩ : ∃ x, l[k]? = some x := ⟨_, List.getElem?_eq_getElem (by rw [HN.out]; exact hlt)⟩
   have cell := G.out.cell (hcell k (strV x) (by rw [List.getElem?_map, hx]; rfl))
   unfold strV at cell
   have HX := Lib.hid hx
   have HS := Lib.hid (show (l.take (k + 1)).contains s = (s == x) by
    rw [List.take_add_one, hx]
    simp only [Option.toList]
    rw [Bool.eq_iff_iff, List.contains_iff_mem, List.mem_append]
    have := HP.out
    rw [← Bool.not_eq_true, List.contains_iff_mem] at this
    simp [this])
   clear hcell hv hx
   by_cases hxs : x = s
   ·subst hxs
    go_wp2_with fail
    go_ret
    exact ⟨_, rfl, G.out, by
     have : l.contains x = true := List.contains_iff_mem.2 (List.mem_of_getElem? HX.out)
     rw [this]; rfl⟩
   ·have e1 := str_beq hxs
    have e2 := str_inj hxs
    go_wp2_with fail
    refine ⟨⟨k + 1, by go_num, by omega, ?_, G.out⟩, by simp [RowKit.intOf]; omega⟩
    rw [HS.out]
    simpa using Ne.symm hxs
  ·obtain rfl : k = n := by omega
   have HE := Lib.hid (show l.contains s = false by
    have := HP.out
    rwa [List.take_of_length_le (by rw [HN.out]; exact Nat.le_refl _)] at this)
   go_wp2_with fail
   go_ret
   exact ⟨_, rfl, G.out, by rw [HE.out]; rfl⟩

set_option maxRecDepth 100000 in
theorem ref_Keywords (w : World) : Calls Tryz.prog 135 #[] w (Ret w fun r w' => StrS w' r keywords) := by
 have G := Lib.hid (Gr.refl w)
 go_enter Tryz.func135, Tryz.ntmps135
 go_wp2_with fail
 go_ret
 refine ⟨_, rfl, G.out.alloc _, ?_⟩
 exact SlV.new w 1 28 _ _ rfl (by decide)

theorem isName_all (b : UInt8) (r : List UInt8) (h1 : (b :: r).length ≤ 31) (h2 : isLo b = true) (h3 : keywords.contains (b :: r) = false) : isName (b :: r) = (b :: r).all isWd := by
 unfold isName
 rw [decide_eq_true (show 1 ≤ (b :: r).length by simp), decide_eq_true h1, h3]
 simp only [h2, Bool.not_false, Bool.and_true, Bool.true_and]

set_option maxRecDepth 100000 in
set_option maxHeartbeats 1600000 in
theorem ref_IsName (w : World) (bs : List UInt8) (hl : bs.length ≤ 1000000000) :
  Calls Tryz.prog 96 #[.string ⟨bs.toArray⟩] w (Ret w fun r _ => r = .bool (isName bs)) := by
 have G := Lib.hid (Gr.refl w)
 by_cases h0 : bs = []
 ·subst h0
  go_enter Tryz.func96, Tryz.ntmps96
  go_wp2_with fail
  go_ret
  exact ⟨_, rfl, G.out, rfl⟩
 ·have hpos : 0 < bs.length := List.length_pos_iff.2 h0
  have hpos' : 1 ≤ (bs.length : Int) := by omega
  by_cases h31 : 31 < bs.length
  ·have h31' : (31 : Int) < (bs.length : Int) := by omega
   have HN := Lib.hid (show isName bs = false by unfold isName; rw [decide_eq_false (show ¬ bs.length ≤ 31 by omega)]; simp)
   clear h0
   go_enter Tryz.func96, Tryz.ntmps96
   go_wp2_with fail
   go_ret
   exact ⟨_, rfl, G.out, by rw [HN.out]; rfl⟩
  ·have h31' : ¬ (31 : Int) < (bs.length : Int) := by omega
   obtain ⟨b, hc⟩ : ∃ b, bs[0] = b := ⟨_, rfl⟩
   have hi : ∀ h, (⟨bs.toArray⟩ : ByteArray)[0]'h = b := fun h => by show bs.toArray[0] = _; simp [hc]
   have HD := Lib.hid (show bs = b :: bs.drop 1 by rw [← hc]; exact List.drop_eq_getElem_cons (i := 0) hpos)
   clear hc h0
   go_enter Tryz.func96, Tryz.ntmps96
   go_wp2_with fail
   refine (ref_Letter _ b).mono ?_
   rintro _ _ ⟨rfl, rfl⟩
   obtain ⟨t, ht⟩ : ∃ t, isLo b = t := ⟨_, rfl⟩
   rw [ht]
   have HT := Lib.hid ht
   clear ht
   cases t
   ·have HN := Lib.hid (show isName bs = false by rw [HD.out]; unfold isName; simp [HT.out])
    go_wp2_with fail
    go_ret
    exact ⟨_, rfl, G.out, by rw [HN.out]; rfl⟩
   ·go_wp2_with fail
    refine (ref_Keywords _).mono ?_
    rintro _ w1 ⟨r1, rfl, g1, h1⟩
    have G := Lib.hid (G.out.trans g1)
    clear g1
    have H1 := Lib.hid h1
    clear h1
    go_wp2_with fail
    obtain ⟨kk, hk⟩ : ∃ kk, keywords.contains bs = kk := ⟨_, rfl⟩
    have hHas := ref_Has w1 r1 keywords bs H1.out (by decide)
    rw [hk] at hHas
    have HK := Lib.hid hk
    clear hk
    refine hHas.mono ?_
    rintro _ w2 ⟨_, rfl, g2, rfl⟩
    have G := Lib.hid (G.out.trans g2)
    clear hHas H1 g2
    cases kk
    ·have HN := Lib.hid (show isName bs = bs.all isWd by
      have := isName_all b (bs.drop 1) (by rw [← HD.out]; omega) HT.out (by rw [← HD.out]; exact HK.out)
      rw [← HD.out] at this; exact this)
     clear HT
     go_wp2_with fail
     go_loopw [3] (fun i w1 => ∃ k : Nat, i = .int .i64 k ∧ k ≤ bs.length ∧ (bs.take k).all isWd = true ∧ Gr w w1) (fun i _ => bs.length - (RowKit.intOf i).toNat)
     case atStart => exact ⟨0, rfl, Nat.zero_le _, rfl, G.out⟩
     case round =>
      clear G hi
      obtain ⟨k, rfl, hk, hp, hg⟩ := hrel
      have HP := Lib.hid hp
      have G := Lib.hid hg
      clear hp hg
      by_cases hlt : k < bs.length
      ·have hlt' : (k : Int) < (bs.length : Int) := by omega
       obtain ⟨c, hc⟩ : ∃ c, bs[k] = c := ⟨_, rfl⟩
       have hi : ∀ h, (⟨bs.toArray⟩ : ByteArray)[k]'h = c := fun h => by show bs.toArray[k] = _; simp [hc]
       have HS := Lib.hid (show (bs.take (k + 1)).all isWd = isWd c by rw [List.take_succ_eq_append_getElem hlt, hc, List.all_append, HP.out]; simp)
       have HF := Lib.hid (show isWd c = false → bs.all isWd = false from fun h => List.all_eq_false.2 ⟨c, by rw [← hc]; exact List.getElem_mem _, by simpa using h⟩)
       clear hc
       go_wp2_with fail
       refine (ref_Letter _ c).mono ?_
       rintro _ _ ⟨rfl, rfl⟩
       obtain ⟨t, ht⟩ : ∃ t, isLo c = t := ⟨_, rfl⟩
       rw [ht]
       have HT := Lib.hid ht
       clear ht
       cases t
       ·go_wp2_with fail
        refine (ref_Digit _ c).mono ?_
        rintro _ _ ⟨rfl, rfl⟩
        obtain ⟨t, ht⟩ : ∃ t, isDi c = t := ⟨_, rfl⟩
        rw [ht]
        have HT2 := Lib.hid ht
        clear ht
        cases t
        ·by_cases h95 : c = 95
         ·subst h95
          go_wp2_with fail
          refine ⟨⟨k + 1, by go_num, by omega, by rw [HS.out]; rfl, G.out⟩, by simp [RowKit.intOf]; omega⟩
         ·have e95 := u8_bne (n := 95) 95 rfl h95
          have f95 := u8_ne (n := 95) 95 rfl h95
          have HW := Lib.hid (HF.out (by unfold isWd; rw [HT.out, HT2.out]; simpa using h95))
          go_wp2_with fail
          go_ret
          exact ⟨_, rfl, G.out, by rw [HN.out, HW.out]; rfl⟩
        ·go_wp2_with fail
         refine ⟨⟨k + 1, by go_num, by omega, by rw [HS.out]; unfold isWd; rw [HT2.out]; simp, G.out⟩, by simp [RowKit.intOf]; omega⟩
       ·go_wp2_with fail
        refine ⟨⟨k + 1, by go_num, by omega, by rw [HS.out]; unfold isWd; rw [HT.out]; simp, G.out⟩, by simp [RowKit.intOf]; omega⟩
      ·have HW := Lib.hid (show bs.all isWd = true by
        have := HP.out
        rwa [List.take_of_length_le (by omega)] at this)
       have hlt' : ¬ (k : Int) < (bs.length : Int) := by omega
       go_wp2_with fail
       go_ret
       exact ⟨_, rfl, G.out, by rw [HN.out, HW.out]; rfl⟩
    ·have HN := Lib.hid (show isName bs = false by unfold isName; rw [HK.out]; simp)
     go_wp2_with fail
     go_ret
     exact ⟨_, rfl, G.out, by rw [HN.out]; rfl⟩
end Go.Proofs.YtnlocdijdfclcaaGreatDoor

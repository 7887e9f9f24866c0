/-
  exodusref16.Space, Skip, word.
-/
import Derived.Test.YtakcolmgbahgiaaDoorLexJ
namespace Go.Proofs.YtakcolmgbahgiaaDoor
open Go.RowKit Go.Lib Lex
set_option linter.unusedVariables false
set_option linter.unusedSimpArgs false

theorem u8_ne {c : UInt8} {n : Int} (d : UInt8) (hd : (d.toNat : Int) = n) (h : c ≠ d) : ¬ (c.toNat : Int) = n := fun e => h (UInt8.toNat_inj.1 (by omega))
theorem u8_beq {c : UInt8} {n : Int} (d : UInt8) (hd : (d.toNat : Int) = n) (h : c ≠ d) : ((c.toNat : Int) == n) = false := by simpa using u8_ne d hd h
theorem u8_bne {c : UInt8} {n : Int} (d : UInt8) (hd : (d.toNat : Int) = n) (h : c ≠ d) : ((c.toNat : Int) != n) = true := by simpa using u8_ne d hd h

theorem ref_Space (w : World) (c : UInt8) : Calls Tryd.prog 25 #[.int .u8 (c.toNat : Int)] w fun e w' => e = .returned (.bool (isBl c)) ∧ w = w' := by
  by_cases h1 : c = 32
  · subst h1
    go_enter Tryd.func25, Tryd.ntmps25
    go_wp2_with fail
    go_ret
    exact ⟨rfl, rfl⟩
  · have e1 := u8_beq (n := 32) 32 rfl h1
    by_cases h2 : c = 9
    · subst h2
      go_enter Tryd.func25, Tryd.ntmps25
      go_wp2_with fail
      go_ret
      exact ⟨rfl, rfl⟩
    · have e2 := u8_beq (n := 9) 9 rfl h2
      by_cases h3 : c = 10
      · subst h3
        go_enter Tryd.func25, Tryd.ntmps25
        go_wp2_with fail
        go_ret
        exact ⟨rfl, rfl⟩
      · have e3 := u8_beq (n := 10) 10 rfl h3
        by_cases h4 : c = 13
        · subst h4
          go_enter Tryd.func25, Tryd.ntmps25
          go_wp2_with fail
          go_ret
          exact ⟨rfl, rfl⟩
        · have e4 := u8_beq (n := 13) 13 rfl h4
          have f1 := u8_ne (n := 32) 32 rfl h1
          have f2 := u8_ne (n := 9) 9 rfl h2
          have f3 := u8_ne (n := 10) 10 rfl h3
          have f4 := u8_ne (n := 13) 13 rfl h4
          have hb : isBl c = false := by simp [isBl, h1, h2, h3, h4]
          rw [hb]
          clear hb
          go_enter Tryd.func25, Tryd.ntmps25
          go_wp2_with fail
          go_ret
          exact ⟨by simp_all, rfl⟩

set_option maxRecDepth 100000 in
set_option maxHeartbeats 1600000 in
theorem ref_Skip (w : World) (bs : List UInt8) (a r : Nat) (ha : a ≤ bs.length) (hr : a + skipL false (bs.drop a) = r) (hl : bs.length ≤ 1000000000) :
    Calls Tryd.prog 15 #[.string ⟨bs.toArray⟩, .int .i64 (a : Int)] w (Ret w fun v _ => v = .int .i64 (r : Int)) := by
  have HR := Lib.hid hr
  clear hr
  go_enter Tryd.func15, Tryd.ntmps15
  go_wp2_with fail
  go_loopw [1] (fun i w1 => ∃ k : Nat, i = .int .i64 k ∧ k ≤ bs.length ∧ r = k + skipL false (bs.drop k) ∧ Gr w w1) (fun i _ => bs.length - (RowKit.intOf i).toNat)
  case atStart => exact ⟨a, rfl, ha, HR.out.symm, Gr.refl _⟩
  case round =>
    obtain ⟨k, rfl, hk, hp, hg⟩ := hrel
    have HP := Lib.hid hp
    have G := Lib.hid hg
    clear hp hg
    by_cases hlt : k < bs.length
    · have hlt' : (k : Int) < (bs.length : Int) := by omega
      obtain ⟨c, hc⟩ : ∃ c, bs[k] = c := ⟨_, rfl⟩
      have hi : ∀ h, (⟨bs.toArray⟩ : ByteArray)[k]'h = c := fun h => by show bs.toArray[k] = _; simp [hc]
      have HD := Lib.hid (show bs.drop k = c :: bs.drop (k + 1) by rw [← hc]; exact List.drop_eq_getElem_cons hlt)
      clear hc
      by_cases h35 : c = 35
      · subst h35
        go_wp2_with fail
        have HP2 := Lib.hid (show r = k + skipL true (bs.drop k) by
          rw [HP.out, HD.out]; rfl)
        go_loopw [1] (fun i w2 => ∃ j : Nat, i = .int .i64 j ∧ k ≤ j ∧ j ≤ bs.length ∧ r = j + skipL true (bs.drop j) ∧ Gr w w2) (fun i _ => bs.length - (RowKit.intOf i).toNat)
        case atStart => exact ⟨k, rfl, Nat.le_refl _, hk, HP2.out, G.out⟩
        case round =>
          clear G HP2 hi
          obtain ⟨j, rfl, hkj, hj, hp, hg⟩ := hrel
          have HP3 := Lib.hid hp
          have G := Lib.hid hg
          clear hp hg
          by_cases hjl : j < bs.length
          · have hjl' : (j : Int) < (bs.length : Int) := by omega
            obtain ⟨d, hdd⟩ : ∃ d, bs[j] = d := ⟨_, rfl⟩
            have hi : ∀ h, (⟨bs.toArray⟩ : ByteArray)[j]'h = d := fun h => by show bs.toArray[j] = _; simp [hdd]
            have HD2 := Lib.hid (show bs.drop j = d :: bs.drop (j + 1) by rw [← hdd]; exact List.drop_eq_getElem_cons hjl)
            clear hdd
            by_cases h10 : d = 10
            · subst h10
              have Hne := Lib.hid (show k ≠ j from fun e => by
                subst e
                have := HD.out.symm.trans HD2.out
                injection this with h _
                exact absurd h (by decide))
              have Hkj := Lib.hid (show k < j by have := Hne.out; omega)
              go_wp2_with fail
              refine ⟨⟨j, rfl, hj, ?_, G.out⟩, by have := Hkj.out; simp [RowKit.intOf]; omega⟩
              rw [HP3.out, HD2.out]; rfl
            · have e10 := u8_bne (n := 10) 10 rfl h10
              have f10 := u8_ne (n := 10) 10 rfl h10
              go_wp2_with fail
              refine ⟨⟨j + 1, by go_num, by omega, by omega, ?_, G.out⟩, by simp [RowKit.intOf]; omega⟩
              rw [HP3.out, HD2.out]
              show j + (skipL (d != 10) _ + 1) = _
              have : (d != 10) = true := by simpa using h10
              rw [this]; omega
          · obtain rfl : j = bs.length := by omega
            go_wp2_with fail
            refine ⟨⟨bs.length, rfl, Nat.le_refl _, ?_, G.out⟩, by simp [RowKit.intOf]; omega⟩
            rw [HP3.out, List.drop_length]; rfl
      · have e35 := u8_beq (n := 35) 35 rfl h35
        have f35 := u8_ne (n := 35) 35 rfl h35
        go_wp2_with fail
        refine (ref_Space _ c).mono ?_
        rintro _ _ ⟨rfl, rfl⟩
        obtain ⟨t, ht⟩ : ∃ t, isBl c = t := ⟨_, rfl⟩
        rw [ht]
        have HP4 := Lib.hid (show r = k + (if t then skipL false (bs.drop (k + 1)) + 1 else 0) by
          rw [HP.out, HD.out]
          show k + (if c == 35 then _ else if isBl c then _ else 0) = _
          have : (c == 35) = false := by simpa using h35
          rw [this, ht]; rfl)
        clear ht hi
        cases t
        · go_wp2_with fail
          go_ret
          exact ⟨_, rfl, G.out, by rw [HP4.out]; rfl⟩
        · go_wp2_with fail
          refine ⟨⟨k + 1, by go_num, by omega, ?_, G.out⟩, by simp [RowKit.intOf]; omega⟩
          rw [HP4.out]
          show k + (skipL false (bs.drop (k + 1)) + 1) = _
          omega
    · obtain rfl : k = bs.length := by omega
      go_wp2_with fail
      go_ret
      exact ⟨_, rfl, G.out, by rw [HP.out, List.drop_length]; rfl⟩

set_option maxRecDepth 100000 in
set_option maxHeartbeats 1600000 in
theorem ref_word (w : World) (bs : List UInt8) (a r : Nat) (ha : a ≤ bs.length) (hr : a + ((bs.drop a).takeWhile isWd).length = r) (hl : bs.length ≤ 1000000000) :
    Calls Tryd.prog 38 #[.string ⟨bs.toArray⟩, .int .i64 (a : Int)] w (Ret w fun v _ => v = .int .i64 (r : Int)) := by
  have HR := Lib.hid hr
  clear hr
  go_enter Tryd.func38, Tryd.ntmps38
  go_wp2_with fail
  go_loopw [1] (fun i w1 => ∃ k : Nat, i = .int .i64 k ∧ k ≤ bs.length ∧ r = k + ((bs.drop k).takeWhile isWd).length ∧ Gr w w1) (fun i _ => bs.length - (RowKit.intOf i).toNat)
  case atStart => exact ⟨a, rfl, ha, HR.out.symm, Gr.refl _⟩
  case round =>
    obtain ⟨k, rfl, hk, hp, hg⟩ := hrel
    have HP := Lib.hid hp
    have G := Lib.hid hg
    clear hp hg
    by_cases hlt : k < bs.length
    · have hlt' : (k : Int) < (bs.length : Int) := by omega
      obtain ⟨c, hc⟩ : ∃ c, bs[k] = c := ⟨_, rfl⟩
      have hi : ∀ h, (⟨bs.toArray⟩ : ByteArray)[k]'h = c := fun h => by show bs.toArray[k] = _; simp [hc]
      have HD := Lib.hid (show bs.drop k = c :: bs.drop (k + 1) by rw [← hc]; exact List.drop_eq_getElem_cons hlt)
      clear hc
      obtain ⟨u, hu⟩ : ∃ u, isWd c = u := ⟨_, rfl⟩
      have HP2 := Lib.hid (show r = if u then (k + 1) + ((bs.drop (k + 1)).takeWhile isWd).length else k by
        rw [HP.out, HD.out, List.takeWhile_cons, hu]
        cases u <;> simp; omega)
      have HU := Lib.hid hu
      clear hu
      go_wp2_with fail
      refine (ref_Letter _ c).mono ?_
      rintro _ _ ⟨rfl, rfl⟩
      obtain ⟨t, ht⟩ : ∃ t, isLo c = t := ⟨_, rfl⟩
      rw [ht]
      have HT := Lib.hid ht
      clear ht
      cases t
      · go_wp2_with fail
        refine (ref_Digit _ c).mono ?_
        rintro _ _ ⟨rfl, rfl⟩
        obtain ⟨t, ht⟩ : ∃ t, isDi c = t := ⟨_, rfl⟩
        rw [ht]
        have HT2 := Lib.hid ht
        clear ht
        cases t
        · by_cases h95 : c = 95
          · subst h95
            obtain rfl : u = true := by rw [← HU.out]; rfl
            go_wp2_with fail
            refine ⟨⟨k + 1, by go_num, by omega, HP2.out, G.out⟩, by simp [RowKit.intOf]; omega⟩
          · have e95 := u8_beq (n := 95) 95 rfl h95
            have f95 := u8_ne (n := 95) 95 rfl h95
            obtain rfl : u = false := by
              rw [← HU.out]; unfold isWd; rw [HT.out, HT2.out]; simpa using h95
            go_wp2_with fail
            go_ret
            exact ⟨_, rfl, G.out, by rw [HP2.out]; rfl⟩
        · obtain rfl : u = true := by rw [← HU.out]; unfold isWd; rw [HT2.out]; simp
          go_wp2_with fail
          refine ⟨⟨k + 1, by go_num, by omega, HP2.out, G.out⟩, by simp [RowKit.intOf]; omega⟩
      · obtain rfl : u = true := by rw [← HU.out]; unfold isWd; rw [HT.out]; simp
        go_wp2_with fail
        refine ⟨⟨k + 1, by go_num, by omega, HP2.out, G.out⟩, by simp [RowKit.intOf]; omega⟩
    · obtain rfl : k = bs.length := by omega
      go_wp2_with fail
      go_ret
      exact ⟨_, rfl, G.out, by rw [HP.out, List.drop_length]; rfl⟩
end Go.Proofs.YtakcolmgbahgiaaDoor

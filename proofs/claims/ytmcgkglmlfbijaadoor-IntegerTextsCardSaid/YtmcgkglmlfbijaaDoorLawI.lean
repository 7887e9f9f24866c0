/-
  IntegerTexts: the walk.
-/
import Derived.Test.YtmcgkglmlfbijaaDoorIntK
namespace Go.Proofs.YtmcgkglmlfbijaaDoor
open Go.RowKit Go.Lib
set_option linter.unusedVariables false
set_option linter.unusedSimpArgs false

theorem zeroL (w : World) : IntL w (.agg #[.bool false, .slice none 0 0]) false [] := ⟨none, 0, 0, rfl, NatL.nil w⟩
theorem textI {bs : List UInt8} {neg : Bool} {cs : List UInt8} (hs : Cuts bs neg cs) (h : okI neg cs = true) : (if valI neg cs < 0 then 45 :: decDigits (valI neg cs).natAbs else decDigits (valI neg cs).natAbs) = bs := by
  unfold okI at h
  simp only [Bool.and_eq_true] at h
  obtain ⟨h1, h2⟩ := h
  have ht := text_ok h1
  rcases hs with ⟨rfl, rfl⟩ | ⟨rfl, rfl, _⟩
  · have h3 : cs ≠ [48] := fun e => by subst e; simp at h2
    have hp := ok_zero h1 h3
    have e : (valI true cs).natAbs = decVal cs := by unfold valI; simp
    rw [if_pos (by unfold valI; simp; omega), e, ht]
  · have e : (valI false bs).natAbs = decVal bs := by unfold valI; simp
    rw [if_neg (by unfold valI; simp), e, ht]
theorem valI_len {neg : Bool} {cs : List UInt8} (h : okI neg cs = true) (hl : cs.length ≤ 200) : (digs (valI neg cs).natAbs).length ≤ 200 := by
  unfold okI at h
  simp only [Bool.and_eq_true] at h
  have e : (valI neg cs).natAbs = decVal cs := by unfold valI; cases neg <;> simp
  rw [e]
  exact dec_digs (okT h.1).1 hl

set_option maxRecDepth 100000 in
set_option maxHeartbeats 3200000 in
theorem law_IntegerTexts (w : World) (htab : Tab w) (s : ByteArray) (hs : s.size ≤ maxLen) :
    Calls Tryd.prog 4 #[.string s] w (Ret w fun r w' => r = .bool true) := by
  have HT := Lib.hid htab
  obtain ⟨bs, rfl⟩ : ∃ bs : List UInt8, s = ⟨bs.toArray⟩ := ⟨s.data.toList, by simp⟩
  obtain ⟨neg, cs, hcut⟩ := cuts bs
  have HC := Lib.hid hcut
  have hcl : cs.length ≤ bs.length := by rcases hcut with ⟨_, rfl⟩ | ⟨_, rfl, _⟩ <;> simp
  clear htab hs hcut
  go_enter Tryd.func4, Tryd.ntmps4
  go_wp2_with fail
  refine (law_awake w).mono ?_
  rintro _ w1 ⟨_, rfl, g1, rfl⟩
  have G := Lib.hid g1
  clear g1
  by_cases hl : bs.length ≤ 200
  · have hb : bs.length ≤ 140737488355328 := by omega
    have hc200 : cs.length ≤ 200 := by omega
    go_wp2_with fail
    refine (int_Parse w1 bs neg cs HC.out hb).mono ?_
    rintro _ w2 ⟨r2, rfl, g2, h2⟩
    have G := Lib.hid (G.out.trans g2)
    clear g2
    by_cases hok : okI neg cs = true
    · unfold ParseIRes at h2
      rw [if_pos hok] at h2
      obtain ⟨x, rfl, hx⟩ := h2
      have HX := Lib.hid hx
      have Hok := Lib.hid hok
      have HV := Lib.hid (valI_len hok hc200)
      have HTx := Lib.hid (textI HC.out hok)
      obtain ⟨z, hz⟩ : ∃ z, valI neg cs = z := ⟨_, rfl⟩
      rw [hz] at HX HV HTx hx
      have Hz := Lib.hid hz
      obtain ⟨p, k, c, rfl, _⟩ := hx
      obtain ⟨sg, hsg⟩ : ∃ sg, decide (z < 0) = sg := ⟨_, rfl⟩
      rw [hsg] at HX ⊢
      clear hok hz hsg
      have B := boxed1 w2 (.bool sg) (.slice p k c) 25
      have GB := Lib.hid B.1
      have T := Lib.hid B.2
      clear B
      go_wp2_with fail
      generalize w2.heap.size = b2 at T ⊢
      generalize w2.alloc _ = W2 at GB T ⊢
      have G := Lib.hid (G.out.trans GB.out)
      have HX := Lib.hid (HX.out.grow GB.out)
      clear GB
      refine (ref2_Parse W2 bs neg cs HC.out hb).mono ?_
      rintro _ w3 ⟨r3, rfl, g3, h3⟩
      have G := Lib.hid (G.out.trans g3)
      have HX := Lib.hid (HX.out.grow g3)
      have T := Lib.hid (T.out.grow g3)
      clear g3
      unfold ParseIRes at h3
      rw [if_pos Hok.out, Hz.out] at h3
      obtain ⟨y, rfl, hy⟩ := h3
      have HY := Lib.hid hy
      obtain ⟨p', k', c', rfl, _⟩ := hy
      obtain ⟨sg', hsg'⟩ : ∃ sg, decide (z < 0) = sg := ⟨_, rfl⟩
      rw [hsg'] at HY ⊢
      clear hsg'
      have B := boxed1 w3 (.bool sg') (.slice p' k' c') 25
      have GB := Lib.hid B.1
      have T2 := Lib.hid B.2
      have a0 := (T.out.grow B.1).c0 _ (Gr.refl _)
      have a1 := (T.out.grow B.1).c1 _ (Gr.refl _)
      have d0 := B.2.c0 _ (Gr.refl _)
      have d1 := B.2.c1 _ (Gr.refl _)
      clear B
      go_wp2_with fail
      clear a0 a1 d0 d1
      generalize w3.heap.size = b3 at T2 ⊢
      have T := Lib.hid (T.out.grow GB.out)
      generalize w3.alloc _ = W3 at GB T T2 ⊢
      have G := Lib.hid (G.out.trans GB.out)
      have HX := Lib.hid (HX.out.grow GB.out)
      have HY := Lib.hid (HY.out.grow GB.out)
      clear GB
      refine (ref2_Same W3 _ _ _ _ _ _ true (by rw [IntC.same]; simp) HX.out HY.out).mono ?_
      rintro _ w4 ⟨_, rfl, g4, rfl⟩
      have G := Lib.hid (G.out.trans g4)
      have HX := Lib.hid (HX.out.grow g4)
      have a0 := T.out.c0 w4 g4
      have a1 := T.out.c1 w4 g4
      clear g4
      go_wp2_with fail
      refine (int_Text _ _ z 200 bs HX.out HV.out (by decide) (HT.out.grow G.out) HTx.out).mono ?_
      rintro _ w5 ⟨_, rfl, g5, rfl⟩
      clear a0 a1
      go_wp2_with fail
      go_ret
      exact ⟨_, rfl, G.out.trans g5, rfl⟩
    · unfold ParseIRes at h2
      rw [if_neg hok] at h2
      subst h2
      have Hok := Lib.hid hok
      clear hok
      have B := boxed1 w2 (.bool false) (.slice none 0 0) 25
      have GB := Lib.hid B.1
      have T := Lib.hid B.2
      clear B
      go_wp2_with fail
      generalize w2.heap.size = b2 at T ⊢
      generalize w2.alloc _ = W2 at GB T ⊢
      have G := Lib.hid (G.out.trans GB.out)
      clear GB
      refine (ref2_Parse W2 bs neg cs HC.out hb).mono ?_
      rintro _ w3 ⟨r3, rfl, g3, h3⟩
      have G := Lib.hid (G.out.trans g3)
      have T := Lib.hid (T.out.grow g3)
      clear g3
      unfold ParseIRes at h3
      rw [if_neg Hok.out] at h3
      subst h3
      have B := boxed1 w3 (.bool false) (.slice none 0 0) 25
      have GB := Lib.hid B.1
      have a0 := (T.out.grow B.1).c0 _ (Gr.refl _)
      have a1 := (T.out.grow B.1).c1 _ (Gr.refl _)
      have d0 := B.2.c0 _ (Gr.refl _)
      have d1 := B.2.c1 _ (Gr.refl _)
      clear B
      go_wp2_with fail
      clear a0 a1 d0 d1
      generalize w3.alloc _ = W3 at GB ⊢
      have G := Lib.hid (G.out.trans GB.out)
      refine (ref2_Same W3 _ _ false false [] [] true (by simp) (zeroL W3) (zeroL W3)).mono ?_
      rintro _ w4 ⟨_, rfl, g4, rfl⟩
      go_wp2_with fail
      go_ret
      exact ⟨_, rfl, G.out.trans g4, rfl⟩
  · go_wp2_with fail
    refine (law_awake w1).mono ?_
    rintro _ w2 ⟨_, rfl, g2, rfl⟩
    go_wp2_with fail
    go_ret
    exact ⟨_, rfl, G.out.trans g2, rfl⟩
end Go.Proofs.YtmcgkglmlfbijaaDoor

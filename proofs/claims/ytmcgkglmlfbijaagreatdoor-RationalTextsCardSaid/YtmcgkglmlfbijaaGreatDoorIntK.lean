/-
  exodusref02.Parse.
-/
import Derived.Test.YtmcgkglmlfbijaaGreatDoorIntJ
import Derived.Test.YtmcgkglmlfbijaaGreatDoorNumJ
namespace Go.Proofs.YtmcgkglmlfbijaaGreatDoor
open Go.RowKit Go.Lib
set_option linter.unusedVariables false
set_option linter.unusedSimpArgs false

set_option maxRecDepth 100000 in
set_option maxHeartbeats 3200000 in
theorem ref2_Parse (w : World) (bs : List UInt8) (neg : Bool) (cs : List UInt8) (hs : Cuts bs neg cs) (hl : bs.length ≤ 140737488355328) :
    Calls Tryz.prog 92 #[.string ⟨bs.toArray⟩] w (Ret w fun r w' => ParseIRes neg cs r w') := by
  have hcl : cs.length ≤ 140737488355328 := by
    rcases hs with ⟨_, rfl⟩ | ⟨_, rfl, _⟩
    · simp at hl; omega
    · exact hl
  have B := boxed1 w (.bool false) (.slice none 0 0) 25
  rcases hs with ⟨rfl, rfl⟩ | ⟨rfl, rfl, h45⟩
  · have e0 : (⟨(45 :: cs).toArray⟩ : ByteArray)[0]'(by simp [ByteArray.size]) = 45 := rfl
    have ecut : (⟨(45 :: cs).toArray⟩ : ByteArray).extract 1 (cs.length + 1) = ⟨cs.toArray⟩ := by rw [ByteArray.extract_mk]; simp
    go_enter Tryz.func92, Tryz.ntmps92
    go_wp2_with fail
    generalize w.alloc _ = W at B ⊢
    obtain ⟨G0, T0⟩ := B
    have hb : ¬ w.heap.size < w.heap.size := Nat.lt_irrefl _
    generalize hbe : w.heap.size = b0 at T0 ⊢
    have Hbe := Lib.hid hbe
    have G := Lib.hid G0
    have T := Lib.hid T0
    clear G0 T0 hb hbe
    go_wp2_with fail
    refine (ref_Parse W cs hcl).mono ?_
    rintro _ w2 ⟨r2, rfl, g2, h2⟩
    have G := Lib.hid (G.out.trans g2)
    have T := Lib.hid (T.out.grow g2)
    clear g2
    by_cases hok : okText cs = true
    · unfold ParseRes at h2
      rw [if_pos hok] at h2
      obtain ⟨x, rfl, hx⟩ := h2
      have HX := Lib.hid hx
      have Hok := Lib.hid hok
      obtain ⟨px, kx, cx, rfl, hkx⟩ := hx.slice
      have Hkx := Lib.hid hkx
      clear hx hok hkx
      by_cases h48 : cs = [48]
      · subst h48
        obtain rfl : kx = 0 := by rw [Hkx.out]; rw [show decVal [48] = 0 from rfl, digs_eq_nil.2 rfl]; rfl
        have c0 := T.out.load.1
        have c1 := T.out.load.2
        have f0 := T.out.f0 0
        have f1 := T.out.f0 1
        have E := boxEnd G.out (by rw [Hbe.out]; exact Nat.lt_irrefl _) T.out false none 0 0
        go_wp2_with fail
        generalize (w2.setCell _ _).setCell _ _ = W9 at E ⊢
        obtain ⟨gE, tE, _⟩ := E
        have x0 := tE.load.1
        have x1 := tE.load.2
        refine bodyPost_ret (v := .tuple #[.agg #[.bool false, .slice none 0 0], .int .i64 3]) (by simp [results, Tryz.results92, go_sem, x0, x1]) rfl ?_
        exact ⟨_, rfl, gE, ParseIRes.bad (by decide)⟩
      · have hp := ok_zero Hok.out h48
        have hk0 : kx ≠ 0 := fun e => by
          have h1 := Hkx.out
          rw [e] at h1
          have := digs_eq_nil.1 (List.eq_nil_of_length_eq_zero h1.symm)
          omega
        have Hgood := Lib.hid (show okI true cs = true by unfold okI; rw [Hok.out]; simp [h48])
        clear h48 hp
        have HB := Lib.hid (ref2_build w2 true _ (digs (decVal cs)) (valI true cs) (by unfold valI zval; rw [nval_digs]) HX.out (Nat.le_trans (dec_digs (okT Hok.out).1 (okT Hok.out).2) (by decide)))
        go_wp2_with fail
        refine HB.out.mono ?_
        rintro _ w3 ⟨r3, rfl, g3, h3⟩
        have h3' := Lib.hid h3
        obtain ⟨p3, k3, c3, rfl, _⟩ := h3
        have G := Lib.hid (G.out.trans g3)
        have T := Lib.hid (T.out.grow g3)
        have c0 := T.out.load.1
        have c1 := T.out.load.2
        have f0 := T.out.f0 0
        have f1 := T.out.f0 1
        obtain ⟨sg, hsg⟩ : ∃ sg, decide (valI true cs < 0) = sg := ⟨_, rfl⟩
        rw [hsg] at h3' ⊢
        have E := boxEnd G.out (by rw [Hbe.out]; exact Nat.lt_irrefl _) T.out sg p3 k3 c3
        clear hsg
        go_wp2_with fail
        generalize (w3.setCell _ _).setCell _ _ = W9 at E ⊢
        obtain ⟨gE, tE, kE⟩ := E
        have x0 := tE.load.1
        have x1 := tE.load.2
        refine bodyPost_ret (v := .tuple #[.agg #[.bool sg, .slice p3 k3 c3], .int .i64 0]) (by simp [results, Tryz.results92, go_sem, x0, x1]) rfl ?_
        exact ⟨_, rfl, gE, ParseIRes.good Hgood.out (kE _ _ h3'.out)⟩
    · unfold ParseRes at h2
      rw [if_neg hok] at h2
      subst h2
      have c0 := T.out.load.1
      have c1 := T.out.load.2
      have f0 := T.out.f0 0
      have f1 := T.out.f0 1
      have E := boxEnd G.out (by rw [Hbe.out]; exact Nat.lt_irrefl _) T.out false none 0 0
      go_wp2_with fail
      generalize (w2.setCell _ _).setCell _ _ = W9 at E ⊢
      obtain ⟨gE, tE, _⟩ := E
      have x0 := tE.load.1
      have x1 := tE.load.2
      refine bodyPost_ret (v := .tuple #[.agg #[.bool false, .slice none 0 0], .int .i64 3]) (by simp [results, Tryz.results92, go_sem, x0, x1]) rfl ?_
      exact ⟨_, rfl, gE, ParseIRes.bad (by unfold okI; simp [hok])⟩
  · cases bs with
    | nil =>
      go_enter Tryz.func92, Tryz.ntmps92
      go_wp2_with fail
      generalize w.alloc _ = W at B ⊢
      obtain ⟨G0, T0⟩ := B
      have hb : ¬ w.heap.size < w.heap.size := Nat.lt_irrefl _
      generalize hbe : w.heap.size = b0 at T0 ⊢
      have Hbe := Lib.hid hbe
      have G := Lib.hid G0
      have T := Lib.hid T0
      clear G0 T0 hb hbe
      refine (ref_Parse W [] hcl).mono ?_
      rintro _ w2 ⟨r2, rfl, g2, h2⟩
      have G := Lib.hid (G.out.trans g2)
      have T := Lib.hid (T.out.grow g2)
      clear g2
      unfold ParseRes at h2
      rw [if_neg (by decide)] at h2
      subst h2
      have c0 := T.out.load.1
      have c1 := T.out.load.2
      have f0 := T.out.f0 0
      have f1 := T.out.f0 1
      have E := boxEnd G.out (by rw [Hbe.out]; exact Nat.lt_irrefl _) T.out false none 0 0
      go_wp2_with fail
      generalize (w2.setCell _ _).setCell _ _ = W9 at E ⊢
      obtain ⟨gE, tE, _⟩ := E
      have x0 := tE.load.1
      have x1 := tE.load.2
      refine bodyPost_ret (v := .tuple #[.agg #[.bool false, .slice none 0 0], .int .i64 3]) (by simp [results, Tryz.results92, go_sem, x0, x1]) rfl ?_
      exact ⟨_, rfl, gE, ParseIRes.bad (by decide)⟩
    | cons c l =>
      have e0 : (⟨(c :: l).toArray⟩ : ByteArray)[0]'(by simp [ByteArray.size]) = c := rfl
      have hc : ¬ c.toNat = 45 := fun e => h45 (by simp; exact UInt8.toNat_inj.1 (by rw [e]; rfl))
      have hc3 : ((c.toNat : Int) == 45) = false := by simp; omega
      clear h45
      go_enter Tryz.func92, Tryz.ntmps92
      go_wp2_with fail
      generalize w.alloc _ = W at B ⊢
      obtain ⟨G0, T0⟩ := B
      have hb : ¬ w.heap.size < w.heap.size := Nat.lt_irrefl _
      generalize hbe : w.heap.size = b0 at T0 ⊢
      have Hbe := Lib.hid hbe
      have G := Lib.hid G0
      have T := Lib.hid T0
      clear G0 T0 hb hbe
      refine (ref_Parse W (c :: l) hcl).mono ?_
      clear e0 hc hc3
      rintro _ w2 ⟨r2, rfl, g2, h2⟩
      have G := Lib.hid (G.out.trans g2)
      have T := Lib.hid (T.out.grow g2)
      clear g2
      by_cases hok : okText (c :: l) = true
      · unfold ParseRes at h2
        rw [if_pos hok] at h2
        obtain ⟨x, rfl, hx⟩ := h2
        have HX := Lib.hid hx
        have Hok := Lib.hid hok
        obtain ⟨px, kx, cx, rfl, hkx⟩ := hx.slice
        have Hkx := Lib.hid hkx
        clear hx hok hkx
        have Hgood := Lib.hid (show okI false (c :: l) = true by unfold okI; rw [Hok.out]; rfl)
        have HB := Lib.hid (ref2_build w2 false _ (digs (decVal (c :: l))) (valI false (c :: l)) (by unfold valI zval; rw [nval_digs]) HX.out (Nat.le_trans (dec_digs (okT Hok.out).1 (okT Hok.out).2) (by decide)))
        go_wp2_with fail
        refine HB.out.mono ?_
        rintro _ w3 ⟨r3, rfl, g3, h3⟩
        have h3' := Lib.hid h3
        obtain ⟨p3, k3, c3, rfl, _⟩ := h3
        have G := Lib.hid (G.out.trans g3)
        have T := Lib.hid (T.out.grow g3)
        have c0 := T.out.load.1
        have c1 := T.out.load.2
        have f0 := T.out.f0 0
        have f1 := T.out.f0 1
        obtain ⟨sg, hsg⟩ : ∃ sg, decide (valI false (c :: l) < 0) = sg := ⟨_, rfl⟩
        rw [hsg] at h3' ⊢
        have E := boxEnd G.out (by rw [Hbe.out]; exact Nat.lt_irrefl _) T.out sg p3 k3 c3
        clear hsg
        go_wp2_with fail
        generalize (w3.setCell _ _).setCell _ _ = W9 at E ⊢
        obtain ⟨gE, tE, kE⟩ := E
        have x0 := tE.load.1
        have x1 := tE.load.2
        refine bodyPost_ret (v := .tuple #[.agg #[.bool sg, .slice p3 k3 c3], .int .i64 0]) (by simp [results, Tryz.results92, go_sem, x0, x1]) rfl ?_
        exact ⟨_, rfl, gE, ParseIRes.good Hgood.out (kE _ _ h3'.out)⟩
      · unfold ParseRes at h2
        rw [if_neg hok] at h2
        subst h2
        have c0 := T.out.load.1
        have c1 := T.out.load.2
        have f0 := T.out.f0 0
        have f1 := T.out.f0 1
        have E := boxEnd G.out (by rw [Hbe.out]; exact Nat.lt_irrefl _) T.out false none 0 0
        go_wp2_with fail
        generalize (w2.setCell _ _).setCell _ _ = W9 at E ⊢
        obtain ⟨gE, tE, _⟩ := E
        have x0 := tE.load.1
        have x1 := tE.load.2
        refine bodyPost_ret (v := .tuple #[.agg #[.bool false, .slice none 0 0], .int .i64 3]) (by simp [results, Tryz.results92, go_sem, x0, x1]) rfl ?_
        exact ⟨_, rfl, gE, ParseIRes.bad (by unfold okI; simp [hok])⟩
end Go.Proofs.YtmcgkglmlfbijaaGreatDoor

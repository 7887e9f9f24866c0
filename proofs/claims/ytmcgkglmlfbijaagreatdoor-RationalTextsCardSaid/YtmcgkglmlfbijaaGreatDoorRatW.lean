/-
  Fractions: Parse.
-/
import Derived.Test.YtmcgkglmlfbijaaGreatDoorRatM
import Derived.Test.YtmcgkglmlfbijaaGreatDoorNumJ
import Derived.Test.YtmcgkglmlfbijaaGreatDoorIntK
import Derived.Lib.IndexBytes
import Derived.Lib.IndexMore
namespace Go.Proofs.YtmcgkglmlfbijaaGreatDoor
open Go.RowKit Go.Lib
set_option linter.unusedVariables false
set_option linter.unusedSimpArgs false

theorem IntC.validC (z : Int) : (decide (trimL (digs z.natAbs) = digs z.natAbs) && !(decide (z < 0) && (digs z.natAbs).isEmpty)) = true := by
  have h1 : trimL (digs z.natAbs) = digs z.natAbs := by rw [digs_trimL, nval_digs]
  rw [h1]
  by_cases hz : z < 0
  · have h2 : (digs z.natAbs).isEmpty = false := by
      cases h : digs z.natAbs with
      | nil =>
        have := nval_digs z.natAbs
        rw [h] at this
        simp [nval] at this
        omega
      | cons a l => rfl
    simp [h2]
  · simp [hz]

theorem textI {bs : List UInt8} {neg : Bool} {cs : List UInt8} (hs : Cuts bs neg cs) (h : okI neg cs = true) : intText (valI neg cs) = bs := by
  unfold okI at h
  simp only [Bool.and_eq_true] at h
  obtain ⟨h1, h2⟩ := h
  have ht := text_ok h1
  unfold intText
  rcases hs with ⟨rfl, rfl⟩ | ⟨rfl, rfl, _⟩
  · have h3 : cs ≠ [48] := fun e => by subst e; simp at h2
    have hp := ok_zero h1 h3
    have e : (valI true cs).natAbs = decVal cs := by unfold valI; simp
    rw [if_pos (by unfold valI; simp; omega), e, ht]
  · have e : (valI false bs).natAbs = decVal bs := by unfold valI; simp
    rw [if_neg (by unfold valI; simp), e, ht]
theorem valI_len {neg : Bool} {cs : List UInt8} (h : okI neg cs = true) (hl : cs.length ≤ 200) : (digs (valI neg cs).natAbs).length ≤ 200 := by
  unfold okI at h
  simp only [Bool.and_eq_true] at h
  have e : (valI neg cs).natAbs = decVal cs := by unfold valI; cases neg <;> simp
  rw [e]
  exact dec_digs (okT h.1).1 hl

/-- bs is xs, a slash and cs; or there is no slash -/
def Sl (bs xs cs : List UInt8) (ok : Bool) : Prop := (ok = true ∧ bs = xs ++ 47 :: cs ∧ ∀ c ∈ xs, c ≠ 47) ∨ (ok = false ∧ bs = xs ∧ cs = [] ∧ ∀ c ∈ xs, c ≠ 47)
theorem slash : ∀ bs : List UInt8, ∃ xs cs ok, Sl bs xs cs ok
  | [] => ⟨[], [], false, .inr ⟨rfl, rfl, rfl, fun c h => (by cases h)⟩⟩
  | b :: bs => by
    by_cases hb : b = 47
    · subst hb; exact ⟨[], bs, true, .inl ⟨rfl, rfl, fun c h => (by cases h)⟩⟩
    · obtain ⟨xs, cs, ok, h⟩ := slash bs
      have hc : ∀ {l : List UInt8}, (∀ c ∈ l, c ≠ 47) → ∀ c ∈ b :: l, c ≠ 47 := fun h c hc => by
        rcases List.mem_cons.1 hc with rfl | hc
        · exact hb
        · exact h c hc
      rcases h with ⟨rfl, rfl, h⟩ | ⟨rfl, rfl, rfl, h⟩
      · exact ⟨b :: xs, cs, true, .inl ⟨rfl, rfl, hc h⟩⟩
      · exact ⟨b :: bs, [], false, .inr ⟨rfl, rfl, rfl, hc h⟩⟩
theorem index_hit47 : ∀ (xs cs : List UInt8), (∀ c ∈ xs, c ≠ 47) → indexByte (xs ++ 47 :: cs) 47 = xs.length
  | [], cs, _ => rfl
  | a :: xs, cs, h => by
    have ih := index_hit47 xs cs (fun c hc => h c (List.mem_cons_of_mem _ hc))
    have ha : (a == 47) = false := by simpa using h a List.mem_cons_self
    show (if a == 47 then (0 : Int) else if indexByte (xs ++ 47 :: cs) 47 == -1 then -1 else indexByte (xs ++ 47 :: cs) 47 + 1) = _
    rw [ha, ih]
    have hn : ((xs.length : Int) == -1) = false := by simp
    rw [hn]; simp
theorem index_no47 : ∀ (xs : List UInt8), (∀ c ∈ xs, c ≠ 47) → indexByte xs 47 = -1
  | [], _ => rfl
  | a :: xs, h => by
    have ih := index_no47 xs (fun c hc => h c (List.mem_cons_of_mem _ hc))
    have ha : (a == 47) = false := by simpa using h a List.mem_cons_self
    show (if a == 47 then (0 : Int) else if indexByte xs 47 == -1 then -1 else indexByte xs 47 + 1) = _
    rw [ha, ih]; rfl
theorem cut_slash {bs xs cs : List UInt8} {ok : Bool} (h : Sl bs xs cs ok) : Lib.cut bs [47] = (xs, cs, ok) := by
  unfold Lib.cut
  rw [index_one]
  rcases h with ⟨rfl, rfl, h⟩ | ⟨rfl, rfl, rfl, h⟩
  · rw [index_hit47 xs cs h, if_pos (by omega)]
    simp
  · rw [index_no47 _ h, if_neg (by decide)]
theorem str_Slash (w : World) (bs xs cs : List UInt8) (ok : Bool) (hs : Sl bs xs cs ok) (hl : bs.length ≤ 200) (m : Int) (hm : w.cell? ⟨0, 0, none⟩ = some (.int .i64 m)) :
    Calls Tryz.prog 89 #[.string ⟨bs.toArray⟩, .string ⟨#[47]⟩] w (Ret w fun r w' => r = .tuple #[.string ⟨xs.toArray⟩, .string ⟨cs.toArray⟩, .bool ok]) := by
  refine (Tryz.strings_Cut ⟨bs.toArray⟩ ⟨#[47]⟩ m w (by show bs.toArray.size < _; simp; omega) hm).mono ?_
  rintro e w' ⟨rfl, n, rfl⟩
  refine ⟨_, rfl, (Gr.refl w).drewN n, ?_⟩
  have e := cut_slash hs
  show Value.tuple #[.string ⟨(Lib.cut bs.toArray.toList [47]).1.toArray⟩, .string ⟨(Lib.cut bs.toArray.toList [47]).2.1.toArray⟩, .bool (Lib.cut bs.toArray.toList [47]).2.2] = _
  rw [show bs.toArray.toList = bs by simp, e]

/-- the text is one of a fraction -/
def okQ (z : Int) (okz : Bool) (cs : List UInt8) (ok : Bool) : Bool := okz && (!ok || (okText cs && (decide (2 ≤ decVal cs) && decide (Nat.gcd z.natAbs (decVal cs) = 1))))
def valQ (z : Int) (cs : List UInt8) (ok : Bool) : Rat := if ok then mkRat z (decVal cs) else (z : Rat)
def ParseQ (t : Bool) (x : Rat) (r : Value) (w' : World) : Prop :=
  if t then ∃ v, r = .tuple #[v, .int .i64 0] ∧ RatC w' v x else r = .tuple #[.agg #[.bool false, .slice none 0 0, .slice none 0 0], .int .i64 3]
theorem ParseQ.bad {t : Bool} {x : Rat} {w : World} (h : t = false) : ParseQ t x (.tuple #[.agg #[.bool false, .slice none 0 0, .slice none 0 0], .int .i64 3]) w := by
  subst h; rfl
theorem ParseQ.good {t : Bool} {x : Rat} {v : Value} {w : World} (h : t = true) (hv : RatC w v x) : ParseQ t x (.tuple #[v, .int .i64 0]) w := by
  subst h; exact ⟨v, rfl, hv⟩
theorem low_one {z : Int} {q : Nat} (hq : q ≠ 0) (h : Nat.gcd z.natAbs q = 1) : (mkRat z q).num = z ∧ (mkRat z q).den = q := by
  rw [low_num z q hq, low_den z q hq, h]; simp
theorem ratText_Q {bs xs cs : List UInt8} {ok neg : Bool} {ds : List UInt8} (h : Sl bs xs cs ok) (hc : Cuts xs neg ds) (ht : okQ (valI neg ds) (okI neg ds) cs ok = true) : ratText (valQ (valI neg ds) cs ok) = bs := by
  unfold okQ at ht
  simp only [Bool.and_eq_true, Bool.or_eq_true, Bool.not_eq_true', decide_eq_true_eq] at ht
  obtain ⟨h1, h2⟩ := ht
  have h3 := textI hc h1
  rcases h with ⟨rfl, rfl, h⟩ | ⟨rfl, rfl, rfl, h⟩
  · rcases h2 with h2 | ⟨h2, h4, h5⟩
    · cases h2
    · obtain ⟨e1, e2⟩ := low_one (z := valI neg ds) (q := decVal cs) (by omega) h5
      unfold valQ ratText
      simp only [if_true]
      rw [e1, e2, if_neg (by omega), h3, text_ok h2]
  · show ratText ((valI neg ds : Int) : Rat) = _
    unfold ratText
    rw [Rat.den_intCast, if_pos rfl, Rat.num_intCast]
    exact h3
theorem valQ_sz {cs : List UInt8} {ok neg : Bool} {ds : List UInt8} (hl : ds.length ≤ 200) (hc : cs.length ≤ 200) (ht : okQ (valI neg ds) (okI neg ds) cs ok = true) : Sz 200 (valQ (valI neg ds) cs ok) := by
  unfold okQ at ht
  simp only [Bool.and_eq_true, Bool.or_eq_true, Bool.not_eq_true', decide_eq_true_eq] at ht
  obtain ⟨h1, h2⟩ := ht
  have h3 := valI_len h1 hl
  cases ok
  · exact sz_int h3 (by decide)
  · rcases h2 with h2 | ⟨h2, h4, h5⟩
    · cases h2
    · exact sz_mk (by omega) h3 (dec_digs (okT h2).1 hc)

set_option maxRecDepth 100000 in
set_option maxHeartbeats 6400000 in
theorem rat_Parse (w : World) (bs xs cs : List UInt8) (ok neg : Bool) (ds : List UInt8) (hs : Sl bs xs cs ok) (hc : Cuts xs neg ds) (hl : bs.length ≤ 200) (m : Int) (hm : w.cell? ⟨0, 0, none⟩ = some (.int .i64 m)) :
    Calls Tryz.prog 46 #[.string ⟨bs.toArray⟩] w (Ret w fun r w' => ParseQ (okQ (valI neg ds) (okI neg ds) cs ok) (valQ (valI neg ds) cs ok) r w') := by
  have HS := Lib.hid hs
  have HC := Lib.hid hc
  have HM := Lib.hid hm
  have hal : xs.length ≤ 200 := by
    rcases hs with ⟨_, rfl, _⟩ | ⟨_, rfl, _, _⟩
    · simp at hl; omega
    · exact hl
  have hcl : cs.length ≤ 200 := by
    rcases hs with ⟨_, rfl, _⟩ | ⟨_, rfl, rfl, _⟩
    · simp at hl; omega
    · simp
  have hdl : ds.length ≤ 200 := by
    rcases hc with ⟨_, rfl⟩ | ⟨_, rfl, _⟩
    · simp at hal; omega
    · exact hal
  clear hs hc hm
  have B := box3 w (.bool false) (.slice none 0 0) (.slice none 0 0) 27
  go_enter Tryz.func46, Tryz.ntmps46
  go_wp2_with fail
  generalize w.alloc _ = W at B ⊢
  obtain ⟨G0, t0⟩ := B
  generalize hb0 : w.heap.size = b0 at t0  ⊢
  have Hb0 := Lib.hid (show ¬ b0 < w.heap.size by omega)
  have G := Lib.hid G0
  have T0 := Lib.hid t0
  clear hb0 G0 t0
  refine (str_Slash W bs xs cs ok HS.out hl m (G.out.cell HM.out)).mono ?_
  rintro _ w1 ⟨_, rfl, g1, rfl⟩
  have G := Lib.hid (G.out.trans g1)
  have T0 := Lib.hid (T0.out.grow g1)
  clear g1
  go_wp2_with fail
  refine (int_Parse w1 xs neg ds HC.out (by omega)).mono ?_
  rintro _ w2 ⟨r2, rfl, g2, h2⟩
  have G := Lib.hid (G.out.trans g2)
  have T0 := Lib.hid (T0.out.grow g2)
  clear g2
  obtain ⟨z, hz⟩ : ∃ z, valI neg ds = z := ⟨_, rfl⟩
  have Hz := Lib.hid hz
  by_cases hok : okI neg ds = true
  · unfold ParseIRes at h2
    rw [if_pos hok, hz] at h2
    obtain ⟨x, rfl, hx⟩ := h2
    have HX := Lib.hid hx
    have HXl := Lib.hid (show (digs z.natAbs).length ≤ 200 by rw [← hz]; exact valI_len hok hdl)
    have Hok := Lib.hid hok
    obtain ⟨p, k, c, rfl⟩ := hx.agg
    obtain ⟨s, hsg⟩ : ∃ s, decide (z < 0) = s := ⟨_, rfl⟩
    rw [hsg] at HX ⊢
    have Hsg := Lib.hid hsg
    clear hx hok hz hsg
    have B := box2 w2 (.bool s) (.slice p k c) 25
    cases ok
    · have HV := Lib.hid (RatC.ofInt HX.out)
      have f0 := (T0.out.grow B.1).f0 0
      have f1 := (T0.out.grow B.1).f0 1
      have f2 := (T0.out.grow B.1).f0 2
      have hne : b0 ≠ w2.heap.size := by have := T0.out.lt; omega
      have GB := Lib.hid B.1
      have T0_0 := (T0.out.grow B.1).load.1
      have T0_1 := (T0.out.grow B.1).load.2.1
      have T0_2 := (T0.out.grow B.1).load.2.2
      have T7 := Lib.hid B.2
      have T7_0 := B.2.load.1
      have T7_1 := B.2.load.2
      clear B
      go_wp2_with fail
      clear f0 f1 f2 hne
      clear T0_0 T0_1 T0_2 T7_0 T7_1
      generalize w2.heap.size = b_T7 at T7 ⊢
      generalize w2.alloc _ = W3 at GB T7 ⊢
      have G := Lib.hid (G.out.trans GB.out)
      have T0 := Lib.hid (T0.out.grow GB.out)
      have HX := Lib.hid (HX.out.grow GB.out)
      have HV := Lib.hid (HV.out.grow GB.out)
      have hu := upd3 W3 b0 (.bool s) (.slice p k c) (.slice none 0 0)
      have HX := Lib.hid (HX.out.upd T0.out.noInt hu)
      have HV := Lib.hid (HV.out.upd T0.out.noInt hu)
      have T0 := Lib.hid (T0.out.set (.bool s) (.slice p k c) (.slice none 0 0))
      have G := Lib.hid (G.out.three Hb0.out (.bool s) (.slice p k c) (.slice none 0 0))
      clear hu
      generalize ((W3.setCell _ _).setCell _ _).setCell _ _ = W9 at G T0 HX HV ⊢
      have T0_0 := T0.out.load.1
      have T0_1 := T0.out.load.2.1
      have T0_2 := T0.out.load.2.2
      refine bodyPost_ret (by simp [results, Tryz.results46, go_sem, T0_0, T0_1, T0_2]; rfl) rfl ?_
      exact ⟨_, rfl, G.out, ParseQ.good (by unfold okQ; rw [Hok.out]; rfl) (by show RatC _ _ (valQ _ _ false); rw [Hz.out]; exact HV.out)⟩
    · have GB := Lib.hid B.1
      have T0_0 := (T0.out.grow B.1).load.1
      have T0_1 := (T0.out.grow B.1).load.2.1
      have T0_2 := (T0.out.grow B.1).load.2.2
      have T7 := Lib.hid B.2
      have T7_0 := B.2.load.1
      have T7_1 := B.2.load.2
      clear B
      go_wp2_with fail
      clear T0_0 T0_1 T0_2 T7_0 T7_1
      generalize w2.heap.size = b_T7 at T7 ⊢
      generalize w2.alloc _ = W3 at GB T7 ⊢
      have G := Lib.hid (G.out.trans GB.out)
      have T0 := Lib.hid (T0.out.grow GB.out)
      have HX := Lib.hid (HX.out.grow GB.out)
      refine (nat_Parse W3 cs (by omega)).mono ?_
      rintro _ w4 ⟨r4, rfl, g4, h4⟩
      have G := Lib.hid (G.out.trans g4)
      have T0 := Lib.hid (T0.out.grow g4)
      have T7 := Lib.hid (T7.out.grow g4)
      have HX := Lib.hid (HX.out.grow g4)
      clear g4
      by_cases hokc : okText cs = true
      · unfold ParseRes at h4
        rw [if_pos hokc] at h4
        obtain ⟨y, rfl, hy⟩ := h4
        obtain ⟨q, hq⟩ : ∃ q, decVal cs = q := ⟨_, rfl⟩
        rw [hq] at hy
        have HY := Lib.hid hy
        have HYl := Lib.hid (show (digs q).length ≤ 200 by rw [← hq]; exact dec_digs (okT hokc).1 hcl)
        have Hq := Lib.hid hq
        have Hokc := Lib.hid hokc
        obtain ⟨p', k', c', rfl, -⟩ := hy.slice
        clear hy hokc hq
        have HR := Lib.hid (show RatL w4 (.agg #[.bool s, .slice p k c, .slice p' k' c']) s (digs z.natAbs) (digs q) from ⟨_, _, _, _, _, _, rfl, HX.out.mag, HY.out⟩)
        have B := box3 w4 (.bool s) (.slice p k c) (.slice p' k' c') 27
        have t0 := T7.out.load.1
        have t1 := T7.out.load.2
        have GB := Lib.hid B.1
        have T0_0 := (T0.out.grow B.1).load.1
        have T0_1 := (T0.out.grow B.1).load.2.1
        have T0_2 := (T0.out.grow B.1).load.2.2
        have T7_0 := (T7.out.grow B.1).load.1
        have T7_1 := (T7.out.grow B.1).load.2
        have T10 := Lib.hid B.2
        have T10_0 := B.2.load.1
        have T10_1 := B.2.load.2.1
        have T10_2 := B.2.load.2.2
        clear B
        go_wp2_with fail
        clear t0 t1
        clear T0_0 T0_1 T0_2 T7_0 T7_1 T10_0 T10_1 T10_2
        generalize w4.heap.size = b_T10 at T10 ⊢
        generalize w4.alloc _ = W5 at GB T10 ⊢
        have G := Lib.hid (G.out.trans GB.out)
        have T0 := Lib.hid (T0.out.grow GB.out)
        have T7 := Lib.hid (T7.out.grow GB.out)
        have HX := Lib.hid (HX.out.grow GB.out)
        have HY := Lib.hid (HY.out.grow GB.out)
        have HR := Lib.hid (HR.out.grow GB.out)
        refine (nat_From W5 2 (by decide)).mono ?_
        rintro _ w6 ⟨r6, rfl, g6, h6⟩
        have G := Lib.hid (G.out.trans g6)
        have T0 := Lib.hid (T0.out.grow g6)
        have T7 := Lib.hid (T7.out.grow g6)
        have T10 := Lib.hid (T10.out.grow g6)
        have HX := Lib.hid (HX.out.grow g6)
        have HY := Lib.hid (HY.out.grow g6)
        have HR := Lib.hid (HR.out.grow g6)
        clear g6
        have H6 := Lib.hid h6
        clear h6
        obtain ⟨cz, hcz⟩ : ∃ c, cmpZ (q : Int) ((2 : Nat) : Int) = c := ⟨_, rfl⟩
        go_wp2_with fail
        refine (n_Cmp w6 _ _ q 2 200 1 cz (HY.out.v HYl.out) (H6.out.v (by decide +kernel)) hcz (by decide) (by decide)).mono ?_
        rintro _ w7 ⟨_, rfl, g7, rfl⟩
        have G := Lib.hid (G.out.trans g7)
        have T0 := Lib.hid (T0.out.grow g7)
        have T7 := Lib.hid (T7.out.grow g7)
        have T10 := Lib.hid (T10.out.grow g7)
        have HX := Lib.hid (HX.out.grow g7)
        have HY := Lib.hid (HY.out.grow g7)
        have HR := Lib.hid (HR.out.grow g7)
        have H6 := Lib.hid (H6.out.grow g7)
        clear g7
        by_cases h2 : 2 ≤ q
        · have hc0 : ¬ cz < 0 := by rw [← hcz]; unfold cmpZ; split <;> (try split) <;> omega
          obtain ⟨t, ht⟩ : ∃ t, decide (Nat.gcd z.natAbs q = 1) = t := ⟨_, rfl⟩
          have HT := Lib.hid ht
          have h2' := Lib.hid h2
          have HVl := Lib.hid (show validQ s (digs z.natAbs) (digs q) = t from by
            rw [← ht, ← Hsg.out]
            unfold validQ
            have e1 := IntC.validC z
            rw [e1, trimL_digs, nval_digs, nval_digs]
            have e2 : (digs q).isEmpty = false := by
              cases h : digs q with
              | nil => rw [digs_eq_nil] at h; omega
              | cons _ _ => rfl
            rw [e2, decide_eq_true (show 1 < q by omega)]
            simp)
          clear hcz h2
          have T0_0 := T0.out.load.1
          have T0_1 := T0.out.load.2.1
          have T0_2 := T0.out.load.2.2
          have T7_0 := T7.out.load.1
          have T7_1 := T7.out.load.2
          have T10_0 := T10.out.load.1
          have T10_1 := T10.out.load.2.1
          have T10_2 := T10.out.load.2.2
          go_wp2_with fail
          refine (rat_Valid w7 _ s _ _ t 200 HR.out HXl.out HYl.out (by decide) HVl.out).mono ?_
          rintro _ w8 ⟨_, rfl, g8, rfl⟩
          clear T0_0 T0_1 T0_2 T7_0 T7_1 T10_0 T10_1 T10_2
          have G := Lib.hid (G.out.trans g8)
          have T0 := Lib.hid (T0.out.grow g8)
          have T7 := Lib.hid (T7.out.grow g8)
          have T10 := Lib.hid (T10.out.grow g8)
          have HX := Lib.hid (HX.out.grow g8)
          have HY := Lib.hid (HY.out.grow g8)
          have HR := Lib.hid (HR.out.grow g8)
          have H6 := Lib.hid (H6.out.grow g8)
          clear g8
          cases t
          · clear ht
            have T0_0 := T0.out.load.1
            have T0_f0 := T0.out.f0 0
            have T0_1 := T0.out.load.2.1
            have T0_f1 := T0.out.f0 1
            have T0_2 := T0.out.load.2.2
            have T0_f2 := T0.out.f0 2
            go_wp2_with fail
            clear T0_0 T0_f0 T0_1 T0_f1 T0_2 T0_f2
            have hu := upd3 w8 b0 (.bool false) (.slice none 0 0) (.slice none 0 0)
            have HX := Lib.hid (HX.out.upd T0.out.noInt hu)
            have HY := Lib.hid (HY.out.upd T0.out.noInt hu)
            have HR := Lib.hid (HR.out.upd T0.out.noInt hu)
            have H6 := Lib.hid (H6.out.upd T0.out.noInt hu)
            have T0 := Lib.hid (T0.out.set (.bool false) (.slice none 0 0) (.slice none 0 0))
            have G := Lib.hid (G.out.three Hb0.out (.bool false) (.slice none 0 0) (.slice none 0 0))
            clear hu
            generalize ((w8.setCell _ _).setCell _ _).setCell _ _ = W9 at G T0 HX HY HR H6 ⊢
            have T0_0 := T0.out.load.1
            have T0_1 := T0.out.load.2.1
            have T0_2 := T0.out.load.2.2
            refine bodyPost_ret (by simp [results, Tryz.results46, go_sem, T0_0, T0_1, T0_2]; rfl) rfl ?_
            exact ⟨_, rfl, G.out, ParseQ.bad (by unfold okQ; rw [Hok.out, Hokc.out, Hq.out, Hz.out, HT.out]; simp)⟩
          · have hg := of_decide_eq_true ht
            have HV := Lib.hid (show RatC w8 (.agg #[.bool s, .slice p k c, .slice p' k' c']) (mkRat z q) by
              obtain ⟨e1, e2⟩ := low_one (z := z) (q := q) (by have := h2'.out; omega) hg
              unfold RatC
              rw [e1, e2, Hsg.out]
              unfold dd
              rw [if_neg (by have := h2'.out; omega)]
              exact HR.out)
            clear ht hg
            have T0_0 := T0.out.load.1
            have T0_f0 := T0.out.f0 0
            have T0_1 := T0.out.load.2.1
            have T0_f1 := T0.out.f0 1
            have T0_2 := T0.out.load.2.2
            have T0_f2 := T0.out.f0 2
            have T10_0 := T10.out.load.1
            have T10_f0 := T10.out.f0 0
            have T10_1 := T10.out.load.2.1
            have T10_f1 := T10.out.f0 1
            have T10_2 := T10.out.load.2.2
            have T10_f2 := T10.out.f0 2
            go_wp2_with fail
            clear T0_0 T0_f0 T0_1 T0_f1 T0_2 T0_f2 T10_0 T10_f0 T10_1 T10_f1 T10_2 T10_f2
            have hu := upd3 w8 b0 (.bool s) (.slice p k c) (.slice p' k' c')
            have HV := Lib.hid (HV.out.upd T0.out.noInt hu)
            have T0 := Lib.hid (T0.out.set (.bool s) (.slice p k c) (.slice p' k' c'))
            have G := Lib.hid (G.out.three Hb0.out (.bool s) (.slice p k c) (.slice p' k' c'))
            clear hu
            generalize ((w8.setCell _ _).setCell _ _).setCell _ _ = W9 at G T0 HV ⊢
            have T0_0 := T0.out.load.1
            have T0_1 := T0.out.load.2.1
            have T0_2 := T0.out.load.2.2
            refine bodyPost_ret (by simp [results, Tryz.results46, go_sem, T0_0, T0_1, T0_2]; rfl) rfl ?_
            exact ⟨_, rfl, G.out, ParseQ.good (by unfold okQ; rw [Hok.out, Hokc.out, Hq.out, Hz.out, HT.out, decide_eq_true h2'.out]; rfl) (by show RatC _ _ (valQ _ _ true); unfold valQ; rw [Hz.out, Hq.out]; exact HV.out)⟩
        · have hc0 : cz < 0 := by rw [← hcz]; unfold cmpZ; split <;> (try split) <;> omega
          have h2' := Lib.hid h2
          clear hcz h2
          have T0_0 := T0.out.load.1
          have T0_f0 := T0.out.f0 0
          have T0_1 := T0.out.load.2.1
          have T0_f1 := T0.out.f0 1
          have T0_2 := T0.out.load.2.2
          have T0_f2 := T0.out.f0 2
          go_wp2_with fail
          clear T0_0 T0_f0 T0_1 T0_f1 T0_2 T0_f2
          have hu := upd3 w7 b0 (.bool false) (.slice none 0 0) (.slice none 0 0)
          have HX := Lib.hid (HX.out.upd T0.out.noInt hu)
          have HY := Lib.hid (HY.out.upd T0.out.noInt hu)
          have HR := Lib.hid (HR.out.upd T0.out.noInt hu)
          have H6 := Lib.hid (H6.out.upd T0.out.noInt hu)
          have T0 := Lib.hid (T0.out.set (.bool false) (.slice none 0 0) (.slice none 0 0))
          have G := Lib.hid (G.out.three Hb0.out (.bool false) (.slice none 0 0) (.slice none 0 0))
          clear hu
          generalize ((w7.setCell _ _).setCell _ _).setCell _ _ = W9 at G T0 HX HY HR H6 ⊢
          have T0_0 := T0.out.load.1
          have T0_1 := T0.out.load.2.1
          have T0_2 := T0.out.load.2.2
          refine bodyPost_ret (by simp [results, Tryz.results46, go_sem, T0_0, T0_1, T0_2]; rfl) rfl ?_
          exact ⟨_, rfl, G.out, ParseQ.bad (by unfold okQ; rw [Hok.out, Hokc.out, Hq.out, decide_eq_false h2'.out]; simp)⟩
      · unfold ParseRes at h4
        rw [if_neg hokc] at h4
        subst h4
        have Hokc := Lib.hid hokc
        clear hokc
        have B := box3 w4 (.bool s) (.slice p k c) (.slice none 0 0) 27
        have f0 := (T0.out.grow B.1).f0 0
        have f1 := (T0.out.grow B.1).f0 1
        have f2 := (T0.out.grow B.1).f0 2
        have hne : b0 ≠ w4.heap.size := by have := T0.out.lt; omega
        have t0 := T7.out.load.1
        have t1 := T7.out.load.2
        have GB := Lib.hid B.1
        have T0_0 := (T0.out.grow B.1).load.1
        have T0_1 := (T0.out.grow B.1).load.2.1
        have T0_2 := (T0.out.grow B.1).load.2.2
        have T7_0 := (T7.out.grow B.1).load.1
        have T7_1 := (T7.out.grow B.1).load.2
        have T10 := Lib.hid B.2
        have T10_0 := B.2.load.1
        have T10_1 := B.2.load.2.1
        have T10_2 := B.2.load.2.2
        clear B
        go_wp2_with fail
        clear f0 f1 f2 hne t0 t1
        clear T0_0 T0_1 T0_2 T7_0 T7_1 T10_0 T10_1 T10_2
        generalize w4.heap.size = b_T10 at T10 ⊢
        generalize w4.alloc _ = W5 at GB T10 ⊢
        have G := Lib.hid (G.out.trans GB.out)
        have T0 := Lib.hid (T0.out.grow GB.out)
        have T7 := Lib.hid (T7.out.grow GB.out)
        have HX := Lib.hid (HX.out.grow GB.out)
        have hu := upd3 W5 b0 (.bool false) (.slice none 0 0) (.slice none 0 0)
        have HX := Lib.hid (HX.out.upd T0.out.noInt hu)
        have T0 := Lib.hid (T0.out.set (.bool false) (.slice none 0 0) (.slice none 0 0))
        have G := Lib.hid (G.out.three Hb0.out (.bool false) (.slice none 0 0) (.slice none 0 0))
        clear hu
        generalize ((W5.setCell _ _).setCell _ _).setCell _ _ = W9 at G T0 HX ⊢
        have T0_0 := T0.out.load.1
        have T0_1 := T0.out.load.2.1
        have T0_2 := T0.out.load.2.2
        refine bodyPost_ret (by simp [results, Tryz.results46, go_sem, T0_0, T0_1, T0_2]; rfl) rfl ?_
        exact ⟨_, rfl, G.out, ParseQ.bad (by unfold okQ; rw [Hok.out, Bool.eq_false_iff.2 Hokc.out]; rfl)⟩
  · unfold ParseIRes at h2
    rw [if_neg hok] at h2
    subst h2
    have Hok := Lib.hid hok
    clear hok
    have B := box2 w2 (.bool false) (.slice none 0 0) 25
    have f0 := (T0.out.grow B.1).f0 0
    have f1 := (T0.out.grow B.1).f0 1
    have f2 := (T0.out.grow B.1).f0 2
    have hne : b0 ≠ w2.heap.size := by have := T0.out.lt; omega
    have GB := Lib.hid B.1
    have T0_0 := (T0.out.grow B.1).load.1
    have T0_1 := (T0.out.grow B.1).load.2.1
    have T0_2 := (T0.out.grow B.1).load.2.2
    have T7 := Lib.hid B.2
    have T7_0 := B.2.load.1
    have T7_1 := B.2.load.2
    clear B
    go_wp2_with fail
    clear f0 f1 f2 hne
    clear T0_0 T0_1 T0_2 T7_0 T7_1
    generalize w2.heap.size = b_T7 at T7 ⊢
    generalize w2.alloc _ = W3 at GB T7 ⊢
    have G := Lib.hid (G.out.trans GB.out)
    have T0 := Lib.hid (T0.out.grow GB.out)
    have hu := upd3 W3 b0 (.bool false) (.slice none 0 0) (.slice none 0 0)
    have T0 := Lib.hid (T0.out.set (.bool false) (.slice none 0 0) (.slice none 0 0))
    have G := Lib.hid (G.out.three Hb0.out (.bool false) (.slice none 0 0) (.slice none 0 0))
    clear hu
    generalize ((W3.setCell _ _).setCell _ _).setCell _ _ = W9 at G T0 ⊢
    have T0_0 := T0.out.load.1
    have T0_1 := T0.out.load.2.1
    have T0_2 := T0.out.load.2.2
    refine bodyPost_ret (by simp [results, Tryz.results46, go_sem, T0_0, T0_1, T0_2]; rfl) rfl ?_
    exact ⟨_, rfl, G.out, ParseQ.bad (by unfold okQ; rw [Bool.eq_false_iff.2 Hok.out]; rfl)⟩
end Go.Proofs.YtmcgkglmlfbijaaGreatDoor

/-
  exodusref15.Has, Keywords; exodusref16.token.
-/
import Derived.Test.YtakcolmgbahgiaaDoorLexL
namespace Go.Proofs.YtakcolmgbahgiaaDoor
open Go.RowKit Go.Lib Lex
set_option linter.unusedVariables false
set_option linter.unusedSimpArgs false

def strV (s : List UInt8) : Value := .string ⟨s.toArray⟩
def StrS (w : World) (v : Value) (l : List (List UInt8)) : Prop := SlV w 1 v l.length (l.map strV)
theorem StrS.grow {w w' : World} {v : Value} {l : List (List UInt8)} (h : StrS w v l) (g : Gr w w') : StrS w' v l := SlV.grow h g
theorem str_inj {x s : List UInt8} (h : x ≠ s) : ¬ (⟨x.toArray⟩ : ByteArray) = ⟨s.toArray⟩ := fun e => h (by
  have := congrArg (fun b : ByteArray => b.data.toList) e
  simpa using this)
theorem str_beq {x s : List UInt8} (h : x ≠ s) : (x == s) = false := by simpa using h

set_option maxRecDepth 100000 in
theorem ref_Has (w : World) (v : Value) (l : List (List UInt8)) (s : List UInt8) (hv : StrS w v l) (hl : l.length ≤ 1000000000) :
    Calls Tryd.prog 18 #[v, .string ⟨s.toArray⟩] w (Ret w fun r _ => r = .bool (l.contains s)) := by
  obtain ⟨p, c, rfl, hc1, hc2⟩ := SlV.parts hv
  have HV := Lib.hid hv
  obtain ⟨n, hn⟩ : ∃ n, l.length = n := ⟨_, rfl⟩
  rw [hn] at hc1 hl
  have HN := Lib.hid hn
  rw [hn]
  clear hv hn
  go_enter Tryd.func18, Tryd.ntmps18
  go_wp2_with fail
  go_loopw [5] (fun i w1 => ∃ k : Nat, i = .int .i64 k ∧ k ≤ n ∧ (l.take k).contains s = false ∧ Gr w w1) (fun i _ => n - (RowKit.intOf i).toNat)
  case atStart => exact ⟨0, rfl, Nat.zero_le _, rfl, Gr.refl _⟩
  case round =>
    obtain ⟨k, rfl, hk, hp, hg⟩ := hrel
    have HP := Lib.hid hp
    have G := Lib.hid hg
    clear hp hg
    by_cases hlt : k < n
    · have hlt' : (k : Int) < (n : Int) := by omega
      have hv := HV.out
      unfold StrS at hv
      rw [HN.out] at hv
      obtain ⟨b, o, rfl, hcell⟩ := SlV.cells hv (by omega)
      obtain ⟨x, hx⟩ : ∃ x, l[k]? = some x := ⟨_, List.getElem?_eq_getElem (by rw [HN.out]; exact hlt)⟩
      have cell := G.out.cell (hcell k (strV x) (by rw [List.getElem?_map, hx]; rfl))
      unfold strV at cell
      have HX := Lib.hid hx
      have HS := Lib.hid (show (l.take (k + 1)).contains s = (s == x) by
        rw [List.take_add_one, hx]
        simp only [Option.toList]
        rw [Bool.eq_iff_iff, List.contains_iff_mem, List.mem_append]
        have := HP.out
        rw [← Bool.not_eq_true, List.contains_iff_mem] at this
        simp [this])
      clear hcell hv hx
      by_cases hxs : x = s
      · subst hxs
        go_wp2_with fail
        go_ret
        exact ⟨_, rfl, G.out, by
          have : l.contains x = true := List.contains_iff_mem.2 (List.mem_of_getElem? HX.out)
          rw [this]; rfl⟩
      · have e1 := str_beq hxs
        have e2 := str_inj hxs
        go_wp2_with fail
        refine ⟨⟨k + 1, by go_num, by omega, ?_, G.out⟩, by simp [RowKit.intOf]; omega⟩
        rw [HS.out]
        simpa using Ne.symm hxs
    · obtain rfl : k = n := by omega
      have HE := Lib.hid (show l.contains s = false by
        have := HP.out
        rwa [List.take_of_length_le (by rw [HN.out]; exact Nat.le_refl _)] at this)
      go_wp2_with fail
      go_ret
      exact ⟨_, rfl, G.out, by rw [HE.out]; rfl⟩

set_option maxRecDepth 100000 in
theorem ref_Keywords (w : World) : Calls Tryd.prog 19 #[] w (Ret w fun r w' => StrS w' r keywords) := by
  have G := Lib.hid (Gr.refl w)
  go_enter Tryd.func19, Tryd.ntmps19
  go_wp2_with fail
  go_ret
  refine ⟨_, rfl, G.out.alloc _, ?_⟩
  exact SlV.new w 1 28 _ _ rfl (by decide)


set_option maxRecDepth 100000 in
set_option maxHeartbeats 1600000 in
theorem ref_token (w : World) (bs : List UInt8) (a : Nat) (ha : a < bs.length) (hl : bs.length ≤ 1000000000) :
    Calls Tryd.prog 22 #[.string ⟨bs.toArray⟩, .int .i64 (a : Int)] w (Ret w fun v _ => v = tokRp a (tokL (bs.drop a))) := by
  obtain ⟨b, hc⟩ : ∃ b, bs[a] = b := ⟨_, rfl⟩
  have hi : ∀ h, (⟨bs.toArray⟩ : ByteArray)[a]'h = b := fun h => by show bs.toArray[a] = _; simp [hc]
  have HD := Lib.hid (show bs.drop a = b :: bs.drop (a + 1) by rw [← hc]; exact List.drop_eq_getElem_cons ha)
  have HR := Lib.hid (show tokL (bs.drop a) = if isLo b then wordR (bs.drop a) else if isDi b then numR (bs.drop a) else if b == 59 || b == 44 then .ok ⟨4, [b], 0, 0⟩ else .error 3 by rw [HD.out]; exact tokL_eq b _)
  have ha' : (a : Int) < (bs.length : Int) := by omega
  clear hc
  have B := box4 w (.int .i64 0) (.string ⟨#[]⟩) (.int .i64 0) (.int .i64 0) 33
  go_enter Tryd.func22, Tryd.ntmps22
  go_wp2_with fail
  generalize w.alloc _ = W at B ⊢
  obtain ⟨G0, t0⟩ := B
  generalize hb0 : w.heap.size = b0 at t0  ⊢
  have Hb0 := Lib.hid (show ¬ b0 < w.heap.size by omega)
  have G := Lib.hid G0
  have T0 := Lib.hid t0
  clear hb0 G0 t0
  refine (ref_Digit _ b).mono ?_
  rintro _ w1 ⟨rfl, rfl⟩
  obtain ⟨c2, hc2⟩ : ∃ c2, isDi b = c2 := ⟨_, rfl⟩
  rw [hc2]
  have Hc2 := Lib.hid hc2
  clear hc2
  cases c2
  · go_wp2_with fail
    refine (ref_Letter _ b).mono ?_
    rintro _ w1 ⟨rfl, rfl⟩
    obtain ⟨c1, hc1⟩ : ∃ c1, isLo b = c1 := ⟨_, rfl⟩
    rw [hc1]
    have Hc1 := Lib.hid hc1
    clear hc1
    cases c1
    · by_cases h59 : b = 59
      · subst h59
        have HE := Lib.hid (show tokL (bs.drop a) = .ok ⟨4, [59], 0, 0⟩ by rw [HR.out, Hc1.out, Hc2.out]; rfl)
        have hex : (⟨bs.toArray⟩ : ByteArray).extract a (a + 1) = ⟨[59].toArray⟩ := slice_str bs a (a + 1) _ (by rw [HD.out]; simp) (by omega) (by omega)
        have T0_0 := T0.out.load.1
        have T0_f0 := T0.out.f0 0
        have T0_1 := T0.out.load.2.1
        have T0_f1 := T0.out.f0 1
        have T0_2 := T0.out.load.2.2.1
        have T0_f2 := T0.out.f0 2
        have T0_3 := T0.out.load.2.2.2
        have T0_f3 := T0.out.f0 3
        go_wp2_with fail
        clear T0_0 T0_f0 T0_1 T0_f1 T0_2 T0_f2 T0_3 T0_f3
        have hu := upd4 W b0 (.int .i64 4) (.string ⟨[59].toArray⟩) (.int .i64 0) (.int .i64 a)
        have T0 := Lib.hid (T0.out.set (.int .i64 4) (.string ⟨[59].toArray⟩) (.int .i64 0) (.int .i64 a))
        have G := Lib.hid (G.out.four Hb0.out (.int .i64 4) (.string ⟨[59].toArray⟩) (.int .i64 0) (.int .i64 a))
        clear hu
        generalize (((W.setCell _ _).setCell _ _).setCell _ _).setCell _ _ = W7 at G T0 ⊢
        have T0_0 := T0.out.load.1
        have T0_1 := T0.out.load.2.1
        have T0_2 := T0.out.load.2.2.1
        have T0_3 := T0.out.load.2.2.2
        refine bodyPost_ret (by simp [results, Tryd.results22, go_sem, T0_0, T0_1, T0_2, T0_3]; rfl) rfl ?_
        exact ⟨_, rfl, G.out, by rw [HE.out]; rfl⟩
      · have e59 := u8_beq (n := 59) 59 rfl h59
        have f59 := u8_ne (n := 59) 59 rfl h59
        by_cases h44 : b = 44
        · subst h44
          have HE := Lib.hid (show tokL (bs.drop a) = .ok ⟨4, [44], 0, 0⟩ by rw [HR.out, Hc1.out, Hc2.out]; rfl)
          have hex : (⟨bs.toArray⟩ : ByteArray).extract a (a + 1) = ⟨[44].toArray⟩ := slice_str bs a (a + 1) _ (by rw [HD.out]; simp) (by omega) (by omega)
          have T0_0 := T0.out.load.1
          have T0_f0 := T0.out.f0 0
          have T0_1 := T0.out.load.2.1
          have T0_f1 := T0.out.f0 1
          have T0_2 := T0.out.load.2.2.1
          have T0_f2 := T0.out.f0 2
          have T0_3 := T0.out.load.2.2.2
          have T0_f3 := T0.out.f0 3
          go_wp2_with fail
          clear T0_0 T0_f0 T0_1 T0_f1 T0_2 T0_f2 T0_3 T0_f3
          have hu := upd4 W b0 (.int .i64 4) (.string ⟨[44].toArray⟩) (.int .i64 0) (.int .i64 a)
          have T0 := Lib.hid (T0.out.set (.int .i64 4) (.string ⟨[44].toArray⟩) (.int .i64 0) (.int .i64 a))
          have G := Lib.hid (G.out.four Hb0.out (.int .i64 4) (.string ⟨[44].toArray⟩) (.int .i64 0) (.int .i64 a))
          clear hu
          generalize (((W.setCell _ _).setCell _ _).setCell _ _).setCell _ _ = W7 at G T0 ⊢
          have T0_0 := T0.out.load.1
          have T0_1 := T0.out.load.2.1
          have T0_2 := T0.out.load.2.2.1
          have T0_3 := T0.out.load.2.2.2
          refine bodyPost_ret (by simp [results, Tryd.results22, go_sem, T0_0, T0_1, T0_2, T0_3]; rfl) rfl ?_
          exact ⟨_, rfl, G.out, by rw [HE.out]; rfl⟩
        · have e44 := u8_beq (n := 44) 44 rfl h44
          have f44 := u8_ne (n := 44) 44 rfl h44
          have HE := Lib.hid (show tokL (bs.drop a) = .error 3 by rw [HR.out, Hc1.out, Hc2.out]; simp [h59, h44])
          have T0_0 := T0.out.load.1
          have T0_f0 := T0.out.f0 0
          have T0_1 := T0.out.load.2.1
          have T0_f1 := T0.out.f0 1
          have T0_2 := T0.out.load.2.2.1
          have T0_f2 := T0.out.f0 2
          have T0_3 := T0.out.load.2.2.2
          have T0_f3 := T0.out.f0 3
          go_wp2_with fail
          clear T0_0 T0_f0 T0_1 T0_f1 T0_2 T0_f2 T0_3 T0_f3
          have hu := upd4 W b0 (.int .i64 0) (.string ⟨#[]⟩) (.int .i64 0) (.int .i64 0)
          have T0 := Lib.hid (T0.out.set (.int .i64 0) (.string ⟨#[]⟩) (.int .i64 0) (.int .i64 0))
          have G := Lib.hid (G.out.four Hb0.out (.int .i64 0) (.string ⟨#[]⟩) (.int .i64 0) (.int .i64 0))
          clear hu
          generalize (((W.setCell _ _).setCell _ _).setCell _ _).setCell _ _ = W7 at G T0 ⊢
          have T0_0 := T0.out.load.1
          have T0_1 := T0.out.load.2.1
          have T0_2 := T0.out.load.2.2.1
          have T0_3 := T0.out.load.2.2.2
          refine bodyPost_ret (by simp [results, Tryd.results22, go_sem, T0_0, T0_1, T0_2, T0_3]; rfl) rfl ?_
          exact ⟨_, rfl, G.out, by rw [HE.out]; rfl⟩
    · obtain ⟨t, ht⟩ : ∃ t, (bs.drop a).takeWhile isWd = t := ⟨_, rfl⟩
      obtain ⟨e, he⟩ : ∃ e, a + t.length = e := ⟨_, rfl⟩
      have Ht := Lib.hid ht
      have heL : e ≤ bs.length := by
        have h1 := (List.takeWhile_prefix (p := isWd) (l := bs.drop a)).length_le
        rw [ht, List.length_drop] at h1; omega
      have hex : (⟨bs.toArray⟩ : ByteArray).extract a e = ⟨t.toArray⟩ := slice_str bs a e t (by
        have h1 := (List.prefix_iff_eq_take.1 (List.takeWhile_prefix (p := isWd) (l := bs.drop a)))
        rw [ht] at h1
        rw [show e - a = t.length by omega]; exact h1.symm) (by omega) heL
      have HE := Lib.hid (show tokL (bs.drop a) = if 31 < t.length then .error 8 else .ok ⟨if keywords.contains t then 2 else 1, t, 0, 0⟩ by
        rw [HR.out, Hc1.out, Hc2.out]
        show wordR _ = _
        unfold wordR
        rw [ht])
      have hae : a ≤ e := by omega
      have hae' : (a : Int) ≤ (e : Int) := by omega
      have Hx := Lib.hid hex
      clear hex
      go_wp2_with fail
      refine (ref_word _ bs a e (by omega) (by rw [Ht.out, he]) hl).mono ?_
      rintro _ w2 ⟨_, rfl, g2, rfl⟩
      have G := Lib.hid (G.out.trans g2)
      have T0 := Lib.hid (T0.out.grow g2)
      clear g2
      have hex := Hx.out
      clear Ht
      by_cases h31 : 31 < t.length
      · have h31' : (31 : Int) < (t.length : Int) := by omega
        have HErr := Lib.hid (HE.out.trans (if_pos h31))
        have B := box4 w2 (.int .i64 1) (.string ⟨t.toArray⟩) (.int .i64 0) (.int .i64 (a : Nat)) 33
        have GB := Lib.hid B.1
        have T0_0 := (T0.out.grow B.1).load.1
        have T0_1 := (T0.out.grow B.1).load.2.1
        have T0_2 := (T0.out.grow B.1).load.2.2.1
        have T0_3 := (T0.out.grow B.1).load.2.2.2
        have T9 := Lib.hid B.2
        have T9_0 := B.2.load.1
        have T9_1 := B.2.load.2.1
        have T9_2 := B.2.load.2.2.1
        have T9_3 := B.2.load.2.2.2
        clear B
        have y0 := (T0.out.grow GB.out).f0 0
        have y1 := (T0.out.grow GB.out).f0 1
        have y2 := (T0.out.grow GB.out).f0 2
        have y3 := (T0.out.grow GB.out).f0 3
        go_wp2_with fail
        clear y0 y1 y2 y3
        clear T0_0 T0_1 T0_2 T0_3 T9_0 T9_1 T9_2 T9_3
        generalize w2.heap.size = b_T9 at T9 ⊢
        generalize w2.alloc _ = w3 at GB T9 ⊢
        have G := Lib.hid (G.out.trans GB.out)
        have T0 := Lib.hid (T0.out.grow GB.out)
        have hu := upd4 w3 b0 (.int .i64 0) (.string ⟨#[]⟩) (.int .i64 0) (.int .i64 0)
        have T0 := Lib.hid (T0.out.set (.int .i64 0) (.string ⟨#[]⟩) (.int .i64 0) (.int .i64 0))
        have G := Lib.hid (G.out.four Hb0.out (.int .i64 0) (.string ⟨#[]⟩) (.int .i64 0) (.int .i64 0))
        clear hu
        generalize (((w3.setCell _ _).setCell _ _).setCell _ _).setCell _ _ = W7 at G T0 ⊢
        have T0_0 := T0.out.load.1
        have T0_1 := T0.out.load.2.1
        have T0_2 := T0.out.load.2.2.1
        have T0_3 := T0.out.load.2.2.2
        refine bodyPost_ret (by simp [results, Tryd.results22, go_sem, T0_0, T0_1, T0_2, T0_3]; rfl) rfl ?_
        exact ⟨_, rfl, G.out, by rw [HErr.out]; rfl⟩
      · have h31' : ¬ (31 : Int) < (t.length : Int) := by omega
        have HOk := Lib.hid (HE.out.trans (if_neg h31))
        go_wp2_with fail
        have B := box4 w2 (.int .i64 1) (.string ⟨t.toArray⟩) (.int .i64 0) (.int .i64 (a : Nat)) 33
        have Hb9 := Lib.hid (show ¬ w2.heap.size < w.heap.size from fun h => by have := G.out.size; omega)
        have Hd9 := Lib.hid (show b0 ≠ w2.heap.size from fun h => by have := T0.out.lt; omega)
        generalize w2.heap.size = b9 at B Hb9 Hd9 ⊢
        generalize w2.alloc _ = w3 at B ⊢
        obtain ⟨g3, h9⟩ := B
        have G := Lib.hid (G.out.trans g3)
        have T0 := Lib.hid (T0.out.grow g3)
        clear g3
        have T9 := Lib.hid h9
        clear h9 hex
        refine wp_region_fast [(1, true), (2, true), (0, false), (3, false)] (by kernel_rfl) (by kernel_rfl) rfl (by kernel_rfl) (fun _ _ d _ _ h => by cases d <;> exact h) ?_
        have T0_0 := T0.out.c0
        have T0_1 := T0.out.c1
        have T0_2 := T0.out.c2
        have T0_3 := T0.out.c3
        have T9_0 := T9.out.c0
        have T9_1 := T9.out.c1
        have T9_2 := T9.out.c2
        have T9_3 := T9.out.c3
        have g0 : Gr w3 w3.drew := (Gr.refl _).drew
        have G := Lib.hid (G.out.trans g0)
        have T0 := Lib.hid (T0.out.grow g0)
        have T9 := Lib.hid (T9.out.grow g0)
        repeat (refine wpE_readB (v := ?_) g0 rfl rfl (fun w' hg => ?_) (fun K hK => ?_); rotate_left; (go_simp; rfl); go_simp; refine hK _ _ ?_; clear hK K)
        refine wpE_fn (args := ?_) rfl rfl rfl rfl rfl rfl (by kernel_rfl) (by kernel_rfl) ?_ (fun K hK => ?_)
        rotate_left
        · go_simp; rfl
        refine (ref_Keywords _).mono ?_
        rintro _ w8 ⟨r8, rfl, g8, h8⟩
        refine ⟨_, rfl, g8, ?_⟩
        go_simp
        refine hK _ _ ?_
        clear hK K
        have G := Lib.hid (G.out.trans g8)
        have T0 := Lib.hid (T0.out.grow g8)
        have T9 := Lib.hid (T9.out.grow g8)
        replace g0 := g0.trans g8
        clear g8
        have H8 := Lib.hid h8
        clear h8
        obtain ⟨kk, hk⟩ : ∃ kk, keywords.contains t = kk := ⟨_, rfl⟩
        have hHas := ref_Has w8 r8 keywords t H8.out (by decide)
        rw [hk] at hHas
        refine wpE_fn (args := ?_) rfl rfl rfl rfl rfl rfl (by kernel_rfl) (by kernel_rfl) ?_ (fun K hK => ?_)
        rotate_left
        · go_simp; rfl
        refine (hHas).mono ?_
        rintro _ w9 ⟨_, rfl, g9, rfl⟩
        refine ⟨_, rfl, g9, ?_⟩
        go_simp
        refine hK _ _ ?_
        clear hK K
        have G := Lib.hid (G.out.trans g9)
        have T0 := Lib.hid (T0.out.grow g9)
        have T9 := Lib.hid (T9.out.grow g9)
        have H8 := Lib.hid (H8.out.grow g9)
        replace g0 := g0.trans g9
        clear g9
        clear hHas
        refine wpE_nil ?_
        clear g0
        clear T0_0 T0_1 T0_2 T0_3 T9_0 T9_1 T9_2 T9_3
        cases kk
        · have HOk2 := Lib.hid (HOk.out.trans (by rw [hk]; rfl) : tokL (bs.drop a) = .ok ⟨1, t, 0, 0⟩)
          clear hk
          have T0_0 := T0.out.load.1
          have T0_f0 := T0.out.f0 0
          have T0_1 := T0.out.load.2.1
          have T0_f1 := T0.out.f0 1
          have T0_2 := T0.out.load.2.2.1
          have T0_f2 := T0.out.f0 2
          have T0_3 := T0.out.load.2.2.2
          have T0_f3 := T0.out.f0 3
          have T9_0 := T9.out.load.1
          have T9_f0 := T9.out.f0 0
          have T9_1 := T9.out.load.2.1
          have T9_f1 := T9.out.f0 1
          have T9_2 := T9.out.load.2.2.1
          have T9_f2 := T9.out.f0 2
          have T9_3 := T9.out.load.2.2.2
          have T9_f3 := T9.out.f0 3
          go_wp2_with fail
          clear T0_0 T0_f0 T0_1 T0_f1 T0_2 T0_f2 T0_3 T0_f3 T9_0 T9_f0 T9_1 T9_f1 T9_2 T9_f2 T9_3 T9_f3
          have hu := upd4 w9 b0 (.int .i64 1) (.string ⟨t.toArray⟩) (.int .i64 0) (.int .i64 (a : Nat))
          have T0 := Lib.hid (T0.out.set (.int .i64 1) (.string ⟨t.toArray⟩) (.int .i64 0) (.int .i64 (a : Nat)))
          have G := Lib.hid (G.out.four Hb0.out (.int .i64 1) (.string ⟨t.toArray⟩) (.int .i64 0) (.int .i64 (a : Nat)))
          clear hu
          generalize (((w9.setCell _ _).setCell _ _).setCell _ _).setCell _ _ = W10 at G T0 ⊢
          have T0_0 := T0.out.load.1
          have T0_1 := T0.out.load.2.1
          have T0_2 := T0.out.load.2.2.1
          have T0_3 := T0.out.load.2.2.2
          refine bodyPost_ret (by simp [results, Tryd.results22, go_sem, T0_0, T0_1, T0_2, T0_3]; rfl) rfl ?_
          exact ⟨_, rfl, G.out, by rw [HOk2.out]; rfl⟩
        · have HOk2 := Lib.hid (HOk.out.trans (by rw [hk]; rfl) : tokL (bs.drop a) = .ok ⟨2, t, 0, 0⟩)
          clear hk
          have T0u := T0.out.upd (upd1 w9 b9 0 (.int .i64 2)) Hd9.out
          have T9u := T9.out.set0 (.int .i64 2)
          have G' := G.out.one (i := 0) Hb9.out (.int .i64 2)
          have x0 := T0u.load.1
          have x1 := T0u.load.2.1
          have x2 := T0u.load.2.2.1
          have x3 := T0u.load.2.2.2
          have y0 := T0u.f0 0
          have y1 := T0u.f0 1
          have y2 := T0u.f0 2
          have y3 := T0u.f0 3
          have z0 := T9u.load.1
          have z1 := T9u.load.2.1
          have z2 := T9u.load.2.2.1
          have z3 := T9u.load.2.2.2
          have T9_0 := T9.out.load.1
          have T9_f0 := T9.out.f0 0
          have T9_1 := T9.out.load.2.1
          have T9_f1 := T9.out.f0 1
          have T9_2 := T9.out.load.2.2.1
          have T9_f2 := T9.out.f0 2
          have T9_3 := T9.out.load.2.2.2
          have T9_f3 := T9.out.f0 3
          have hne := Hd9.out
          have hne2 := Hd9.out.symm
          go_wp2_with fail
          clear hne hne2 x0 x1 x2 x3 y0 y1 y2 y3 z0 z1 z2 z3
          have T0 := Lib.hid T0u
          have G := Lib.hid G'
          clear T0u G' T9u T9
          generalize w9.setCell ⟨b9, 0, none⟩ _ = w10 at T0 G ⊢
          clear T9_0 T9_f0 T9_1 T9_f1 T9_2 T9_f2 T9_3 T9_f3
          have hu := upd4 w10 b0 (.int .i64 2) (.string ⟨t.toArray⟩) (.int .i64 0) (.int .i64 (a : Nat))
          have T0 := Lib.hid (T0.out.set (.int .i64 2) (.string ⟨t.toArray⟩) (.int .i64 0) (.int .i64 (a : Nat)))
          have G := Lib.hid (G.out.four Hb0.out (.int .i64 2) (.string ⟨t.toArray⟩) (.int .i64 0) (.int .i64 (a : Nat)))
          clear hu
          generalize (((w10.setCell _ _).setCell _ _).setCell _ _).setCell _ _ = W10 at G T0 ⊢
          have T0_0 := T0.out.load.1
          have T0_1 := T0.out.load.2.1
          have T0_2 := T0.out.load.2.2.1
          have T0_3 := T0.out.load.2.2.2
          refine bodyPost_ret (by simp [results, Tryd.results22, go_sem, T0_0, T0_1, T0_2, T0_3]; rfl) rfl ?_
          exact ⟨_, rfl, G.out, by rw [HOk2.out]; rfl⟩
  · go_wp2_with fail
    refine (ref_number _ bs a (by omega) hl).mono ?_
    rintro _ w1 ⟨_, rfl, g1, rfl⟩
    have G := Lib.hid (G.out.trans g1)
    have T0 := Lib.hid (T0.out.grow g1)
    clear g1
    have HE := Lib.hid (show tokL (bs.drop a) = numR (bs.drop a) by
      have h1 : isLo b = false := by
        have := Hc2.out
        unfold isDi at this
        simp only [Bool.and_eq_true, decide_eq_true_eq] at this
        unfold isLo
        rw [decide_eq_false (by omega)]; rfl
      rw [HR.out, h1, Hc2.out]; rfl)
    cases hn : numR (bs.drop a) with
    | error e =>
      have He := Lib.hid (HE.out.trans hn)
      clear hn
      simp only [tokRp, tokR, tokV, noTok]
      have T0_0 := T0.out.load.1
      have T0_f0 := T0.out.f0 0
      have T0_1 := T0.out.load.2.1
      have T0_f1 := T0.out.f0 1
      have T0_2 := T0.out.load.2.2.1
      have T0_f2 := T0.out.f0 2
      have T0_3 := T0.out.load.2.2.2
      have T0_f3 := T0.out.f0 3
      go_wp2_with fail
      clear T0_0 T0_f0 T0_1 T0_f1 T0_2 T0_f2 T0_3 T0_f3
      have hu := upd4 w1 b0 (.int .i64 (0 : Nat)) (.string ⟨[].toArray⟩) (.int .i64 (0 : Nat)) (.int .i64 (0 : Nat))
      have T0 := Lib.hid (T0.out.set (.int .i64 (0 : Nat)) (.string ⟨[].toArray⟩) (.int .i64 (0 : Nat)) (.int .i64 (0 : Nat)))
      have G := Lib.hid (G.out.four Hb0.out (.int .i64 (0 : Nat)) (.string ⟨[].toArray⟩) (.int .i64 (0 : Nat)) (.int .i64 (0 : Nat)))
      clear hu
      generalize (((w1.setCell _ _).setCell _ _).setCell _ _).setCell _ _ = W7 at G T0 ⊢
      have T0_0 := T0.out.load.1
      have T0_1 := T0.out.load.2.1
      have T0_2 := T0.out.load.2.2.1
      have T0_3 := T0.out.load.2.2.2
      refine bodyPost_ret (by simp [results, Tryd.results22, go_sem, T0_0, T0_1, T0_2, T0_3]; rfl) rfl ?_
      exact ⟨_, rfl, G.out, by rw [He.out]; rfl⟩
    | ok t =>
      have He := Lib.hid (HE.out.trans hn)
      clear hn
      simp only [tokRp, tokR, tokV, noTok]
      have T0_0 := T0.out.load.1
      have T0_f0 := T0.out.f0 0
      have T0_1 := T0.out.load.2.1
      have T0_f1 := T0.out.f0 1
      have T0_2 := T0.out.load.2.2.1
      have T0_f2 := T0.out.f0 2
      have T0_3 := T0.out.load.2.2.2
      have T0_f3 := T0.out.f0 3
      go_wp2_with fail
      clear T0_0 T0_f0 T0_1 T0_f1 T0_2 T0_f2 T0_3 T0_f3
      have hu := upd4 w1 b0 (.int .i64 t.kind) (.string ⟨t.text.toArray⟩) (.int .i64 t.num) (.int .i64 a)
      have T0 := Lib.hid (T0.out.set (.int .i64 t.kind) (.string ⟨t.text.toArray⟩) (.int .i64 t.num) (.int .i64 a))
      have G := Lib.hid (G.out.four Hb0.out (.int .i64 t.kind) (.string ⟨t.text.toArray⟩) (.int .i64 t.num) (.int .i64 a))
      clear hu
      generalize (((w1.setCell _ _).setCell _ _).setCell _ _).setCell _ _ = W7 at G T0 ⊢
      have T0_0 := T0.out.load.1
      have T0_1 := T0.out.load.2.1
      have T0_2 := T0.out.load.2.2.1
      have T0_3 := T0.out.load.2.2.2
      refine bodyPost_ret (by simp [results, Tryd.results22, go_sem, T0_0, T0_1, T0_2, T0_3]; rfl) rfl ?_
      exact ⟨_, rfl, G.out, by rw [He.out]; rfl⟩
end Go.Proofs.YtakcolmgbahgiaaDoor

/-
  exodusref16.number, token.
-/
import Derived.Test.YtakcolmgbahgiaaDoorLexK
namespace Go.Proofs.YtakcolmgbahgiaaDoor
open Go.RowKit Go.Lib Lex
set_option linter.unusedVariables false
set_option linter.unusedSimpArgs false

def tokRp (p : Nat) : Except Nat Tok → Value
  | .ok t => tokR (.ok ⟨t.kind, t.text, t.num, p⟩)
  | .error e => tokR (.error e)
theorem stop_takeWhile (p : UInt8 → Bool) : ∀ bs : List UInt8, StopP p (bs.drop (bs.takeWhile p).length)
  | [] => trivial
  | b :: bs => by
    by_cases hb : p b = true
    · simp only [List.takeWhile, hb, List.length_cons, List.drop_succ_cons]
      exact stop_takeWhile p bs
    · have hb' : p b = false := by simpa using hb
      simp only [List.takeWhile, hb', List.length_nil, List.drop_zero]
      exact hb'
theorem nextBad_word {bs : List UInt8} (h : StopP isDi bs) : nextBad bs = decide (0 < (bs.takeWhile isWd).length) := by
  cases bs with
  | nil => rfl
  | cons b r =>
    have h : isDi b = false := h
    unfold nextBad
    have e : isWd b = (isLo b || b == 95) := by unfold isWd; rw [h]; simp
    show (isLo b || b == 95) = _
    rw [← e]
    cases hw : isWd b
    · simp [List.takeWhile, hw]
    · simp [List.takeWhile, hw]
theorem slice_str (bs : List UInt8) (a e : Nat) (t : List UInt8) (h : (bs.drop a).take (e - a) = t) (hae : a ≤ e) (he : e ≤ bs.length) : (⟨bs.toArray⟩ : ByteArray).extract a e = ⟨t.toArray⟩ := by
  rw [ByteArray.extract_mk, ← h]
  first | done | simp [List.drop_take]

set_option maxRecDepth 100000 in
set_option maxHeartbeats 1600000 in
theorem ref_number (w : World) (bs : List UInt8) (a : Nat) (ha : a ≤ bs.length) (hl : bs.length ≤ 1000000000) :
    Calls Tryd.prog 37 #[.string ⟨bs.toArray⟩, .int .i64 (a : Int)] w (Ret w fun v _ => v = tokRp a (numR (bs.drop a))) := by
  obtain ⟨t, ht⟩ : ∃ t, (bs.drop a).takeWhile isDi = t := ⟨_, rfl⟩
  obtain ⟨n, hn⟩ : ∃ n, t.length = n := ⟨_, rfl⟩
  obtain ⟨e, he⟩ : ∃ e, a + n = e := ⟨_, rfl⟩
  have Ht := Lib.hid ht
  have Hn := Lib.hid hn
  have heL : e ≤ bs.length := by
    have h1 := (List.takeWhile_prefix (p := isDi) (l := bs.drop a)).length_le
    rw [ht, hn, List.length_drop] at h1; omega
  have HE := Lib.hid (show a + ((bs.drop a).takeWhile isDi).length = e by rw [ht, hn, he])
  have Hstop := Lib.hid (show StopP isDi (bs.drop e) by
    have := stop_takeWhile isDi (bs.drop a)
    rw [List.drop_drop, ht, hn, he] at this; exact this)
  clear ht hn
  have B := box4 w (.int .i64 0) (.string ⟨#[]⟩) (.int .i64 0) (.int .i64 0) 33
  go_enter Tryd.func37, Tryd.ntmps37
  go_wp2_with fail
  generalize w.alloc _ = W at B ⊢
  obtain ⟨G0, t0⟩ := B
  generalize hb0 : w.heap.size = b0 at t0  ⊢
  have Hb0 := Lib.hid (show ¬ b0 < w.heap.size by omega)
  have G := Lib.hid G0
  have T0 := Lib.hid t0
  clear hb0 G0 t0
  obtain ⟨m, hm⟩ : ∃ m, e + ((bs.drop e).takeWhile isWd).length = m := ⟨_, rfl⟩
  have HM := Lib.hid hm
  have HB := Lib.hid (show nextBad ((bs.drop a).drop n) = decide (e < m) by
    rw [List.drop_drop, he, nextBad_word Hstop.out]
    congr 1
    rw [← hm]; simp)
  clear hm
  go_loopw [6] (fun i w1 => ∃ k : Nat, i = .int .i64 k ∧ k ≤ bs.length ∧ k + ((bs.drop k).takeWhile isDi).length = e ∧ Four w1 b0 (.int .i64 0) (.string ⟨#[]⟩) (.int .i64 0) (.int .i64 0) ∧ Gr w w1) (fun i _ => bs.length - (RowKit.intOf i).toNat)
  case atStart => exact ⟨a, rfl, ha, HE.out, T0.out, G.out⟩
  case round =>
    clear T0 G
    obtain ⟨k, rfl, hk, hp, t0, hg⟩ := hrel
    have HP := Lib.hid hp
    have T0 := Lib.hid t0
    have G := Lib.hid hg
    clear hp t0 hg
    by_cases hlt : k < bs.length
    · have hlt' : (k : Int) < (bs.length : Int) := by omega
      obtain ⟨c, hc⟩ : ∃ c, bs[k] = c := ⟨_, rfl⟩
      have hi : ∀ h, (⟨bs.toArray⟩ : ByteArray)[k]'h = c := fun h => by show bs.toArray[k] = _; simp [hc]
      have HD := Lib.hid (show bs.drop k = c :: bs.drop (k + 1) by rw [← hc]; exact List.drop_eq_getElem_cons hlt)
      clear hc
      go_wp2_with fail
      refine (ref_Digit _ c).mono ?_
      rintro _ _ ⟨rfl, rfl⟩
      obtain ⟨u, hu⟩ : ∃ u, isDi c = u := ⟨_, rfl⟩
      rw [hu]
      have HP2 := Lib.hid (show (if u then (k + 1) + ((bs.drop (k + 1)).takeWhile isDi).length else k) = e by
        rw [← HP.out, HD.out, List.takeWhile_cons, hu]
        cases u <;> simp; omega)
      clear hu
      cases u
      · obtain rfl : e = k := HP2.out.symm
        clear hi HD HP HP2 hlt hlt'
        by_cases h1 : 1 < n
        · obtain ⟨c0, hc⟩ : ∃ c0, bs[a]'(by omega) = c0 := ⟨_, rfl⟩
          have hi : ∀ h, (⟨bs.toArray⟩ : ByteArray)[a]'h = c0 := fun h => by show bs.toArray[a] = _; simp [hc]
          have Hh := Lib.hid (show (bs.drop a).head? = some c0 by rw [List.head?_drop, List.getElem?_eq_getElem (by omega), hc])
          have haL : a < bs.length := by omega
          have haL' : (a : Int) < (bs.length : Int) := by omega
          clear hc
          have E0 : (e : Int) - (a : Int) = (n : Int) := by omega
          have h1' : (1 : Int) < (n : Int) := by omega
          by_cases h48 : c0 = 48
          · subst h48
            have HErr := Lib.hid (show numR (bs.drop a) = .error 3 by unfold numR; rw [Ht.out, Hn.out, Hh.out, decide_eq_true h1]; rfl)
            have T0_0 := T0.out.load.1
            have T0_f0 := T0.out.f0 0
            have T0_1 := T0.out.load.2.1
            have T0_f1 := T0.out.f0 1
            have T0_2 := T0.out.load.2.2.1
            have T0_f2 := T0.out.f0 2
            have T0_3 := T0.out.load.2.2.2
            have T0_f3 := T0.out.f0 3
            go_wp2_with fail
            clear T0_0 T0_f0 T0_1 T0_f1 T0_2 T0_f2 T0_3 T0_f3
            have hu := upd4 wr b0 (.int .i64 (0 : Nat)) (.string ⟨[].toArray⟩) (.int .i64 (0 : Nat)) (.int .i64 (0 : Nat))
            have T0 := Lib.hid (T0.out.set (.int .i64 (0 : Nat)) (.string ⟨[].toArray⟩) (.int .i64 (0 : Nat)) (.int .i64 (0 : Nat)))
            have G := Lib.hid (G.out.four Hb0.out (.int .i64 (0 : Nat)) (.string ⟨[].toArray⟩) (.int .i64 (0 : Nat)) (.int .i64 (0 : Nat)))
            clear hu
            generalize (((wr.setCell _ _).setCell _ _).setCell _ _).setCell _ _ = W7 at G T0 ⊢
            have T0_0 := T0.out.load.1
            have T0_1 := T0.out.load.2.1
            have T0_2 := T0.out.load.2.2.1
            have T0_3 := T0.out.load.2.2.2
            refine bodyPost_ret (by simp [results, Tryd.results37, go_sem, T0_0, T0_1, T0_2, T0_3]; rfl) rfl ?_
            exact ⟨_, rfl, G.out, by rw [HErr.out]; rfl⟩
          · have e48 := u8_beq (n := 48) 48 rfl h48
            have f48 := u8_ne (n := 48) 48 rfl h48
            have HA := Lib.hid (show ¬ (1 < n ∧ (bs.drop a).head? = some 48) from fun h => h48 (by have := Hh.out.symm.trans h.2; simpa using this))
            clear Hh
            go_wp2_with fail
            refine (ref_word _ bs e m heL HM.out hl).mono ?_
            rintro _ w3 ⟨_, rfl, g3, rfl⟩
            have G := Lib.hid (G.out.trans g3)
            have T0 := Lib.hid (T0.out.grow g3)
            clear g3
            by_cases hme : e < m
            · have hme' : (e : Int) < (m : Int) := by omega
              have HErr := Lib.hid (show numR (bs.drop a) = .error 3 by unfold numR; rw [Ht.out, Hn.out, HB.out, decide_eq_true hme]; simp)
              have T0_0 := T0.out.load.1
              have T0_f0 := T0.out.f0 0
              have T0_1 := T0.out.load.2.1
              have T0_f1 := T0.out.f0 1
              have T0_2 := T0.out.load.2.2.1
              have T0_f2 := T0.out.f0 2
              have T0_3 := T0.out.load.2.2.2
              have T0_f3 := T0.out.f0 3
              go_wp2_with fail
              clear T0_0 T0_f0 T0_1 T0_f1 T0_2 T0_f2 T0_3 T0_f3
              have hu := upd4 w3 b0 (.int .i64 (0 : Nat)) (.string ⟨[].toArray⟩) (.int .i64 (0 : Nat)) (.int .i64 (0 : Nat))
              have T0 := Lib.hid (T0.out.set (.int .i64 (0 : Nat)) (.string ⟨[].toArray⟩) (.int .i64 (0 : Nat)) (.int .i64 (0 : Nat)))
              have G := Lib.hid (G.out.four Hb0.out (.int .i64 (0 : Nat)) (.string ⟨[].toArray⟩) (.int .i64 (0 : Nat)) (.int .i64 (0 : Nat)))
              clear hu
              generalize (((w3.setCell _ _).setCell _ _).setCell _ _).setCell _ _ = W7 at G T0 ⊢
              have T0_0 := T0.out.load.1
              have T0_1 := T0.out.load.2.1
              have T0_2 := T0.out.load.2.2.1
              have T0_3 := T0.out.load.2.2.2
              refine bodyPost_ret (by simp [results, Tryd.results37, go_sem, T0_0, T0_1, T0_2, T0_3]; rfl) rfl ?_
              exact ⟨_, rfl, G.out, by rw [HErr.out]; rfl⟩
            · have hme' : ¬ (e : Int) < (m : Int) := by omega
              have Hno := Lib.hid (show numR (bs.drop a) = if 1048576 < numV t then .error 2 else .ok ⟨3, t, numV t, 0⟩ by
                unfold numR
                rw [Ht.out, Hn.out, HB.out, decide_eq_false hme, Bool.or_false]
                split
                · rename_i h
                  simp only [Bool.and_eq_true, decide_eq_true_eq, beq_iff_eq] at h
                  exact absurd h HA.out
                · rfl)
              have Hti := Lib.hid (show ∀ k, k < n → ∃ c, t[k]? = some c ∧ bs[a + k]? = some c by
                intro k hk
                obtain ⟨c, hc⟩ : ∃ c, t[k]? = some c := ⟨_, List.getElem?_eq_getElem (by rw [Hn.out]; exact hk)⟩
                refine ⟨c, hc, ?_⟩
                have h1 := (List.prefix_iff_eq_take.1 (List.takeWhile_prefix (p := isDi) (l := bs.drop a)))
                rw [Ht.out, Hn.out] at h1
                rw [h1, List.getElem?_take, if_pos hk, List.getElem?_drop] at hc
                exact hc)
              have Hdi := Lib.hid (show ∀ c ∈ t, isDi c = true by rw [← Ht.out]; exact fun c hc => List.all_eq_true.1 (List.all_takeWhile (p := isDi) (l := bs.drop a)) c hc)
              have hex : (⟨bs.toArray⟩ : ByteArray).extract a e = ⟨t.toArray⟩ := slice_str bs a e t (by
                have h1 := (List.prefix_iff_eq_take.1 (List.takeWhile_prefix (p := isDi) (l := bs.drop a)))
                rw [Ht.out, Hn.out] at h1
                rw [show e - a = n by omega]; exact h1.symm) (by omega) heL
              clear HA HB HM
              have hst := Lib.hid hex
              clear hex
              go_wp2_with fail
              go_loopw [7, 8] (fun x i w1 => ∃ k : Nat, i = .int .i64 ((a + k : Nat) : Int) ∧ k ≤ n ∧ x = .int .i64 ((min (numV (t.take k)) 1048577 : Nat) : Int) ∧ Four w1 b0 (.int .i64 0) (.string ⟨#[]⟩) (.int .i64 0) (.int .i64 0) ∧ Gr w w1) (fun _ i _ => e - (RowKit.intOf i).toNat)
              case atStart => exact ⟨0, rfl, Nat.zero_le _, by simp [numV], T0.out, G.out⟩
              case round =>
                clear T0 G
                obtain ⟨k, rfl, hk, rfl, t0, hg⟩ := hrel
                have T0 := Lib.hid t0
                have G := Lib.hid hg
                clear t0 hg
                obtain ⟨j, hj⟩ : ∃ j, a + k = j := ⟨_, rfl⟩
                rw [hj]
                by_cases hlt : k < n
                · have hje : j < e := by omega
                  have hje' : (j : Int) < (e : Int) := by omega
                  obtain ⟨c, hc1, hc2⟩ := Hti.out k hlt
                  rw [hj] at hc2
                  have hjl : j < bs.length := by omega
                  have hjl' : (j : Int) < (bs.length : Int) := by omega
                  have hi : ∀ h, (⟨bs.toArray⟩ : ByteArray)[j]'h = c := fun h => by
                    show bs.toArray[j] = _
                    rw [List.getElem?_eq_getElem hjl] at hc2
                    simpa using hc2
                  have hd := Hdi.out c (List.mem_of_getElem? hc1)
                  have HS := Lib.hid (show numV (t.take (k + 1)) = 10 * numV (t.take k) + (c.toNat - 48) by rw [List.take_add_one, hc1]; show numV (_ ++ [c]) = _; rw [numV_snoc])
                  unfold isDi at hd
                  simp only [Bool.and_eq_true, decide_eq_true_eq] at hd
                  obtain ⟨hd1, hd2⟩ := hd
                  obtain ⟨u, hu⟩ : ∃ u, c.toNat = u := ⟨_, rfl⟩
                  have HU := Lib.hid hu
                  obtain ⟨X, hX⟩ : ∃ X, min (numV (t.take k)) 1048577 = X := ⟨_, rfl⟩
                  have hX2 : X ≤ 1048577 := by omega
                  rw [hX]
                  rw [hu] at HS hd1 hd2
                  have HX := Lib.hid hX
                  obtain ⟨Y, hY⟩ : ∃ Y, 10 * X + (u - 48) = Y := ⟨_, rfl⟩
                  have E1 : 10 * (X : Int) + ((u : Int) - 48) = (Y : Int) := by omega
                  clear hc1 hc2 hX
                  go_wp2_with fail
                  refine ⟨⟨k + 1, by rw [← Nat.add_assoc, hj]; go_num, by omega, ?_, T0.out, G.out⟩, by simp [RowKit.intOf]; omega⟩
                  congr 1
                  rw [HS.out]
                  have := HX.out
                  omega
                · obtain rfl : n = k := by omega
                  have htk : t.take n = t := List.take_of_length_le (by rw [Hn.out]; exact Nat.le_refl _)
                  rw [htk]
                  clear htk
                  obtain rfl : e = j := by omega
                  obtain ⟨V, hV⟩ : ∃ V, numV t = V := ⟨_, rfl⟩
                  rw [hV]
                  by_cases hbig : 1048576 < V
                  · have hmin : min V 1048577 = 1048577 := by omega
                    rw [hmin]
                    have HErr := Lib.hid (show numR (bs.drop a) = .error 2 by rw [Hno.out, hV, if_pos hbig])
                    have T0_0 := T0.out.load.1
                    have T0_f0 := T0.out.f0 0
                    have T0_1 := T0.out.load.2.1
                    have T0_f1 := T0.out.f0 1
                    have T0_2 := T0.out.load.2.2.1
                    have T0_f2 := T0.out.f0 2
                    have T0_3 := T0.out.load.2.2.2
                    have T0_f3 := T0.out.f0 3
                    go_wp2_with fail
                    clear T0_0 T0_f0 T0_1 T0_f1 T0_2 T0_f2 T0_3 T0_f3
                    have hu := upd4 wr b0 (.int .i64 (0 : Nat)) (.string ⟨[].toArray⟩) (.int .i64 (0 : Nat)) (.int .i64 (0 : Nat))
                    have T0 := Lib.hid (T0.out.set (.int .i64 (0 : Nat)) (.string ⟨[].toArray⟩) (.int .i64 (0 : Nat)) (.int .i64 (0 : Nat)))
                    have G := Lib.hid (G.out.four Hb0.out (.int .i64 (0 : Nat)) (.string ⟨[].toArray⟩) (.int .i64 (0 : Nat)) (.int .i64 (0 : Nat)))
                    clear hu
                    generalize (((wr.setCell _ _).setCell _ _).setCell _ _).setCell _ _ = W7 at G T0 ⊢
                    have T0_0 := T0.out.load.1
                    have T0_1 := T0.out.load.2.1
                    have T0_2 := T0.out.load.2.2.1
                    have T0_3 := T0.out.load.2.2.2
                    refine bodyPost_ret (by simp [results, Tryd.results37, go_sem, T0_0, T0_1, T0_2, T0_3]; rfl) rfl ?_
                    exact ⟨_, rfl, G.out, by rw [HErr.out]; rfl⟩
                  · have hmin : min V 1048577 = V := by omega
                    rw [hmin]
                    have HOk := Lib.hid (show numR (bs.drop a) = .ok ⟨3, t, V, 0⟩ by rw [Hno.out, hV, if_neg hbig])
                    have hbig' : ¬ (1048576 : Int) < (V : Int) := by omega
                    have hex := hst.out
                    have T0_0 := T0.out.load.1
                    have T0_f0 := T0.out.f0 0
                    have T0_1 := T0.out.load.2.1
                    have T0_f1 := T0.out.f0 1
                    have T0_2 := T0.out.load.2.2.1
                    have T0_f2 := T0.out.f0 2
                    have T0_3 := T0.out.load.2.2.2
                    have T0_f3 := T0.out.f0 3
                    go_wp2_with fail
                    clear T0_0 T0_f0 T0_1 T0_f1 T0_2 T0_f2 T0_3 T0_f3
                    have hu := upd4 wr b0 (.int .i64 3) (.string ⟨t.toArray⟩) (.int .i64 V) (.int .i64 a)
                    have T0 := Lib.hid (T0.out.set (.int .i64 3) (.string ⟨t.toArray⟩) (.int .i64 V) (.int .i64 a))
                    have G := Lib.hid (G.out.four Hb0.out (.int .i64 3) (.string ⟨t.toArray⟩) (.int .i64 V) (.int .i64 a))
                    clear hu
                    generalize (((wr.setCell _ _).setCell _ _).setCell _ _).setCell _ _ = W7 at G T0 ⊢
                    have T0_0 := T0.out.load.1
                    have T0_1 := T0.out.load.2.1
                    have T0_2 := T0.out.load.2.2.1
                    have T0_3 := T0.out.load.2.2.2
                    refine bodyPost_ret (by simp [results, Tryd.results37, go_sem, T0_0, T0_1, T0_2, T0_3]; rfl) rfl ?_
                    exact ⟨_, rfl, G.out, by rw [HOk.out]; rfl⟩
        · have E0 : (e : Int) - (a : Int) = (n : Int) := by omega
          have h1' : ¬ (1 : Int) < (n : Int) := by omega
          have HA := Lib.hid (show ¬ (1 < n ∧ (bs.drop a).head? = some 48) from fun h => h1 h.1)
          go_wp2_with fail
          refine (ref_word _ bs e m heL HM.out hl).mono ?_
          rintro _ w3 ⟨_, rfl, g3, rfl⟩
          have G := Lib.hid (G.out.trans g3)
          have T0 := Lib.hid (T0.out.grow g3)
          clear g3
          by_cases hme : e < m
          · have hme' : (e : Int) < (m : Int) := by omega
            have HErr := Lib.hid (show numR (bs.drop a) = .error 3 by unfold numR; rw [Ht.out, Hn.out, HB.out, decide_eq_true hme]; simp)
            have T0_0 := T0.out.load.1
            have T0_f0 := T0.out.f0 0
            have T0_1 := T0.out.load.2.1
            have T0_f1 := T0.out.f0 1
            have T0_2 := T0.out.load.2.2.1
            have T0_f2 := T0.out.f0 2
            have T0_3 := T0.out.load.2.2.2
            have T0_f3 := T0.out.f0 3
            go_wp2_with fail
            clear T0_0 T0_f0 T0_1 T0_f1 T0_2 T0_f2 T0_3 T0_f3
            have hu := upd4 w3 b0 (.int .i64 (0 : Nat)) (.string ⟨[].toArray⟩) (.int .i64 (0 : Nat)) (.int .i64 (0 : Nat))
            have T0 := Lib.hid (T0.out.set (.int .i64 (0 : Nat)) (.string ⟨[].toArray⟩) (.int .i64 (0 : Nat)) (.int .i64 (0 : Nat)))
            have G := Lib.hid (G.out.four Hb0.out (.int .i64 (0 : Nat)) (.string ⟨[].toArray⟩) (.int .i64 (0 : Nat)) (.int .i64 (0 : Nat)))
            clear hu
            generalize (((w3.setCell _ _).setCell _ _).setCell _ _).setCell _ _ = W7 at G T0 ⊢
            have T0_0 := T0.out.load.1
            have T0_1 := T0.out.load.2.1
            have T0_2 := T0.out.load.2.2.1
            have T0_3 := T0.out.load.2.2.2
            refine bodyPost_ret (by simp [results, Tryd.results37, go_sem, T0_0, T0_1, T0_2, T0_3]; rfl) rfl ?_
            exact ⟨_, rfl, G.out, by rw [HErr.out]; rfl⟩
          · have hme' : ¬ (e : Int) < (m : Int) := by omega
            have Hno := Lib.hid (show numR (bs.drop a) = if 1048576 < numV t then .error 2 else .ok ⟨3, t, numV t, 0⟩ by
              unfold numR
              rw [Ht.out, Hn.out, HB.out, decide_eq_false hme, Bool.or_false]
              split
              · rename_i h
                simp only [Bool.and_eq_true, decide_eq_true_eq, beq_iff_eq] at h
                exact absurd h HA.out
              · rfl)
            have Hti := Lib.hid (show ∀ k, k < n → ∃ c, t[k]? = some c ∧ bs[a + k]? = some c by
              intro k hk
              obtain ⟨c, hc⟩ : ∃ c, t[k]? = some c := ⟨_, List.getElem?_eq_getElem (by rw [Hn.out]; exact hk)⟩
              refine ⟨c, hc, ?_⟩
              have h1 := (List.prefix_iff_eq_take.1 (List.takeWhile_prefix (p := isDi) (l := bs.drop a)))
              rw [Ht.out, Hn.out] at h1
              rw [h1, List.getElem?_take, if_pos hk, List.getElem?_drop] at hc
              exact hc)
            have Hdi := Lib.hid (show ∀ c ∈ t, isDi c = true by rw [← Ht.out]; exact fun c hc => List.all_eq_true.1 (List.all_takeWhile (p := isDi) (l := bs.drop a)) c hc)
            have hex : (⟨bs.toArray⟩ : ByteArray).extract a e = ⟨t.toArray⟩ := slice_str bs a e t (by
              have h1 := (List.prefix_iff_eq_take.1 (List.takeWhile_prefix (p := isDi) (l := bs.drop a)))
              rw [Ht.out, Hn.out] at h1
              rw [show e - a = n by omega]; exact h1.symm) (by omega) heL
            clear HA HB HM
            have hst := Lib.hid hex
            clear hex
            go_wp2_with fail
            go_loopw [7, 8] (fun x i w1 => ∃ k : Nat, i = .int .i64 ((a + k : Nat) : Int) ∧ k ≤ n ∧ x = .int .i64 ((min (numV (t.take k)) 1048577 : Nat) : Int) ∧ Four w1 b0 (.int .i64 0) (.string ⟨#[]⟩) (.int .i64 0) (.int .i64 0) ∧ Gr w w1) (fun _ i _ => e - (RowKit.intOf i).toNat)
            case atStart => exact ⟨0, rfl, Nat.zero_le _, by simp [numV], T0.out, G.out⟩
            case round =>
              clear T0 G
              obtain ⟨k, rfl, hk, rfl, t0, hg⟩ := hrel
              have T0 := Lib.hid t0
              have G := Lib.hid hg
              clear t0 hg
              obtain ⟨j, hj⟩ : ∃ j, a + k = j := ⟨_, rfl⟩
              rw [hj]
              by_cases hlt : k < n
              · have hje : j < e := by omega
                have hje' : (j : Int) < (e : Int) := by omega
                obtain ⟨c, hc1, hc2⟩ := Hti.out k hlt
                rw [hj] at hc2
                have hjl : j < bs.length := by omega
                have hjl' : (j : Int) < (bs.length : Int) := by omega
                have hi : ∀ h, (⟨bs.toArray⟩ : ByteArray)[j]'h = c := fun h => by
                  show bs.toArray[j] = _
                  rw [List.getElem?_eq_getElem hjl] at hc2
                  simpa using hc2
                have hd := Hdi.out c (List.mem_of_getElem? hc1)
                have HS := Lib.hid (show numV (t.take (k + 1)) = 10 * numV (t.take k) + (c.toNat - 48) by rw [List.take_add_one, hc1]; show numV (_ ++ [c]) = _; rw [numV_snoc])
                unfold isDi at hd
                simp only [Bool.and_eq_true, decide_eq_true_eq] at hd
                obtain ⟨hd1, hd2⟩ := hd
                obtain ⟨u, hu⟩ : ∃ u, c.toNat = u := ⟨_, rfl⟩
                have HU := Lib.hid hu
                obtain ⟨X, hX⟩ : ∃ X, min (numV (t.take k)) 1048577 = X := ⟨_, rfl⟩
                have hX2 : X ≤ 1048577 := by omega
                rw [hX]
                rw [hu] at HS hd1 hd2
                have HX := Lib.hid hX
                obtain ⟨Y, hY⟩ : ∃ Y, 10 * X + (u - 48) = Y := ⟨_, rfl⟩
                have E1 : 10 * (X : Int) + ((u : Int) - 48) = (Y : Int) := by omega
                clear hc1 hc2 hX
                go_wp2_with fail
                refine ⟨⟨k + 1, by rw [← Nat.add_assoc, hj]; go_num, by omega, ?_, T0.out, G.out⟩, by simp [RowKit.intOf]; omega⟩
                congr 1
                rw [HS.out]
                have := HX.out
                omega
              · obtain rfl : n = k := by omega
                have htk : t.take n = t := List.take_of_length_le (by rw [Hn.out]; exact Nat.le_refl _)
                rw [htk]
                clear htk
                obtain rfl : e = j := by omega
                obtain ⟨V, hV⟩ : ∃ V, numV t = V := ⟨_, rfl⟩
                rw [hV]
                by_cases hbig : 1048576 < V
                · have hmin : min V 1048577 = 1048577 := by omega
                  rw [hmin]
                  have HErr := Lib.hid (show numR (bs.drop a) = .error 2 by rw [Hno.out, hV, if_pos hbig])
                  have T0_0 := T0.out.load.1
                  have T0_f0 := T0.out.f0 0
                  have T0_1 := T0.out.load.2.1
                  have T0_f1 := T0.out.f0 1
                  have T0_2 := T0.out.load.2.2.1
                  have T0_f2 := T0.out.f0 2
                  have T0_3 := T0.out.load.2.2.2
                  have T0_f3 := T0.out.f0 3
                  go_wp2_with fail
                  clear T0_0 T0_f0 T0_1 T0_f1 T0_2 T0_f2 T0_3 T0_f3
                  have hu := upd4 wr b0 (.int .i64 (0 : Nat)) (.string ⟨[].toArray⟩) (.int .i64 (0 : Nat)) (.int .i64 (0 : Nat))
                  have T0 := Lib.hid (T0.out.set (.int .i64 (0 : Nat)) (.string ⟨[].toArray⟩) (.int .i64 (0 : Nat)) (.int .i64 (0 : Nat)))
                  have G := Lib.hid (G.out.four Hb0.out (.int .i64 (0 : Nat)) (.string ⟨[].toArray⟩) (.int .i64 (0 : Nat)) (.int .i64 (0 : Nat)))
                  clear hu
                  generalize (((wr.setCell _ _).setCell _ _).setCell _ _).setCell _ _ = W7 at G T0 ⊢
                  have T0_0 := T0.out.load.1
                  have T0_1 := T0.out.load.2.1
                  have T0_2 := T0.out.load.2.2.1
                  have T0_3 := T0.out.load.2.2.2
                  refine bodyPost_ret (by simp [results, Tryd.results37, go_sem, T0_0, T0_1, T0_2, T0_3]; rfl) rfl ?_
                  exact ⟨_, rfl, G.out, by rw [HErr.out]; rfl⟩
                · have hmin : min V 1048577 = V := by omega
                  rw [hmin]
                  have HOk := Lib.hid (show numR (bs.drop a) = .ok ⟨3, t, V, 0⟩ by rw [Hno.out, hV, if_neg hbig])
                  have hbig' : ¬ (1048576 : Int) < (V : Int) := by omega
                  have hex := hst.out
                  have T0_0 := T0.out.load.1
                  have T0_f0 := T0.out.f0 0
                  have T0_1 := T0.out.load.2.1
                  have T0_f1 := T0.out.f0 1
                  have T0_2 := T0.out.load.2.2.1
                  have T0_f2 := T0.out.f0 2
                  have T0_3 := T0.out.load.2.2.2
                  have T0_f3 := T0.out.f0 3
                  go_wp2_with fail
                  clear T0_0 T0_f0 T0_1 T0_f1 T0_2 T0_f2 T0_3 T0_f3
                  have hu := upd4 wr b0 (.int .i64 3) (.string ⟨t.toArray⟩) (.int .i64 V) (.int .i64 a)
                  have T0 := Lib.hid (T0.out.set (.int .i64 3) (.string ⟨t.toArray⟩) (.int .i64 V) (.int .i64 a))
                  have G := Lib.hid (G.out.four Hb0.out (.int .i64 3) (.string ⟨t.toArray⟩) (.int .i64 V) (.int .i64 a))
                  clear hu
                  generalize (((wr.setCell _ _).setCell _ _).setCell _ _).setCell _ _ = W7 at G T0 ⊢
                  have T0_0 := T0.out.load.1
                  have T0_1 := T0.out.load.2.1
                  have T0_2 := T0.out.load.2.2.1
                  have T0_3 := T0.out.load.2.2.2
                  refine bodyPost_ret (by simp [results, Tryd.results37, go_sem, T0_0, T0_1, T0_2, T0_3]; rfl) rfl ?_
                  exact ⟨_, rfl, G.out, by rw [HOk.out]; rfl⟩
      · go_wp2_with fail
        refine ⟨⟨k + 1, by go_num, by omega, HP2.out, T0.out, G.out⟩, by simp [RowKit.intOf]; omega⟩
    · obtain rfl : e = k := by
        have := HP.out
        rw [List.drop_of_length_le (by omega)] at this
        exact this.symm
      have hnlt : ¬ (e : Int) < (bs.length : Int) := by omega
      clear HP hlt
      by_cases h1 : 1 < n
      · obtain ⟨c0, hc⟩ : ∃ c0, bs[a]'(by omega) = c0 := ⟨_, rfl⟩
        have hi : ∀ h, (⟨bs.toArray⟩ : ByteArray)[a]'h = c0 := fun h => by show bs.toArray[a] = _; simp [hc]
        have Hh := Lib.hid (show (bs.drop a).head? = some c0 by rw [List.head?_drop, List.getElem?_eq_getElem (by omega), hc])
        have haL : a < bs.length := by omega
        have haL' : (a : Int) < (bs.length : Int) := by omega
        clear hc
        have E0 : (e : Int) - (a : Int) = (n : Int) := by omega
        have h1' : (1 : Int) < (n : Int) := by omega
        by_cases h48 : c0 = 48
        · subst h48
          have HErr := Lib.hid (show numR (bs.drop a) = .error 3 by unfold numR; rw [Ht.out, Hn.out, Hh.out, decide_eq_true h1]; rfl)
          have T0_0 := T0.out.load.1
          have T0_f0 := T0.out.f0 0
          have T0_1 := T0.out.load.2.1
          have T0_f1 := T0.out.f0 1
          have T0_2 := T0.out.load.2.2.1
          have T0_f2 := T0.out.f0 2
          have T0_3 := T0.out.load.2.2.2
          have T0_f3 := T0.out.f0 3
          go_wp2_with fail
          clear T0_0 T0_f0 T0_1 T0_f1 T0_2 T0_f2 T0_3 T0_f3
          have hu := upd4 wr b0 (.int .i64 (0 : Nat)) (.string ⟨[].toArray⟩) (.int .i64 (0 : Nat)) (.int .i64 (0 : Nat))
          have T0 := Lib.hid (T0.out.set (.int .i64 (0 : Nat)) (.string ⟨[].toArray⟩) (.int .i64 (0 : Nat)) (.int .i64 (0 : Nat)))
          have G := Lib.hid (G.out.four Hb0.out (.int .i64 (0 : Nat)) (.string ⟨[].toArray⟩) (.int .i64 (0 : Nat)) (.int .i64 (0 : Nat)))
          clear hu
          generalize (((wr.setCell _ _).setCell _ _).setCell _ _).setCell _ _ = W7 at G T0 ⊢
          have T0_0 := T0.out.load.1
          have T0_1 := T0.out.load.2.1
          have T0_2 := T0.out.load.2.2.1
          have T0_3 := T0.out.load.2.2.2
          refine bodyPost_ret (by simp [results, Tryd.results37, go_sem, T0_0, T0_1, T0_2, T0_3]; rfl) rfl ?_
          exact ⟨_, rfl, G.out, by rw [HErr.out]; rfl⟩
        · have e48 := u8_beq (n := 48) 48 rfl h48
          have f48 := u8_ne (n := 48) 48 rfl h48
          have HA := Lib.hid (show ¬ (1 < n ∧ (bs.drop a).head? = some 48) from fun h => h48 (by have := Hh.out.symm.trans h.2; simpa using this))
          clear Hh
          go_wp2_with fail
          refine (ref_word _ bs e m heL HM.out hl).mono ?_
          rintro _ w3 ⟨_, rfl, g3, rfl⟩
          have G := Lib.hid (G.out.trans g3)
          have T0 := Lib.hid (T0.out.grow g3)
          clear g3
          by_cases hme : e < m
          · have hme' : (e : Int) < (m : Int) := by omega
            have HErr := Lib.hid (show numR (bs.drop a) = .error 3 by unfold numR; rw [Ht.out, Hn.out, HB.out, decide_eq_true hme]; simp)
            have T0_0 := T0.out.load.1
            have T0_f0 := T0.out.f0 0
            have T0_1 := T0.out.load.2.1
            have T0_f1 := T0.out.f0 1
            have T0_2 := T0.out.load.2.2.1
            have T0_f2 := T0.out.f0 2
            have T0_3 := T0.out.load.2.2.2
            have T0_f3 := T0.out.f0 3
            go_wp2_with fail
            clear T0_0 T0_f0 T0_1 T0_f1 T0_2 T0_f2 T0_3 T0_f3
            have hu := upd4 w3 b0 (.int .i64 (0 : Nat)) (.string ⟨[].toArray⟩) (.int .i64 (0 : Nat)) (.int .i64 (0 : Nat))
            have T0 := Lib.hid (T0.out.set (.int .i64 (0 : Nat)) (.string ⟨[].toArray⟩) (.int .i64 (0 : Nat)) (.int .i64 (0 : Nat)))
            have G := Lib.hid (G.out.four Hb0.out (.int .i64 (0 : Nat)) (.string ⟨[].toArray⟩) (.int .i64 (0 : Nat)) (.int .i64 (0 : Nat)))
            clear hu
            generalize (((w3.setCell _ _).setCell _ _).setCell _ _).setCell _ _ = W7 at G T0 ⊢
            have T0_0 := T0.out.load.1
            have T0_1 := T0.out.load.2.1
            have T0_2 := T0.out.load.2.2.1
            have T0_3 := T0.out.load.2.2.2
            refine bodyPost_ret (by simp [results, Tryd.results37, go_sem, T0_0, T0_1, T0_2, T0_3]; rfl) rfl ?_
            exact ⟨_, rfl, G.out, by rw [HErr.out]; rfl⟩
          · have hme' : ¬ (e : Int) < (m : Int) := by omega
            have Hno := Lib.hid (show numR (bs.drop a) = if 1048576 < numV t then .error 2 else .ok ⟨3, t, numV t, 0⟩ by
              unfold numR
              rw [Ht.out, Hn.out, HB.out, decide_eq_false hme, Bool.or_false]
              split
              · rename_i h
                simp only [Bool.and_eq_true, decide_eq_true_eq, beq_iff_eq] at h
                exact absurd h HA.out
              · rfl)
            have Hti := Lib.hid (show ∀ k, k < n → ∃ c, t[k]? = some c ∧ bs[a + k]? = some c by
              intro k hk
              obtain ⟨c, hc⟩ : ∃ c, t[k]? = some c := ⟨_, List.getElem?_eq_getElem (by rw [Hn.out]; exact hk)⟩
              refine ⟨c, hc, ?_⟩
              have h1 := (List.prefix_iff_eq_take.1 (List.takeWhile_prefix (p := isDi) (l := bs.drop a)))
              rw [Ht.out, Hn.out] at h1
              rw [h1, List.getElem?_take, if_pos hk, List.getElem?_drop] at hc
              exact hc)
            have Hdi := Lib.hid (show ∀ c ∈ t, isDi c = true by rw [← Ht.out]; exact fun c hc => List.all_eq_true.1 (List.all_takeWhile (p := isDi) (l := bs.drop a)) c hc)
            have hex : (⟨bs.toArray⟩ : ByteArray).extract a e = ⟨t.toArray⟩ := slice_str bs a e t (by
              have h1 := (List.prefix_iff_eq_take.1 (List.takeWhile_prefix (p := isDi) (l := bs.drop a)))
              rw [Ht.out, Hn.out] at h1
              rw [show e - a = n by omega]; exact h1.symm) (by omega) heL
            clear HA HB HM
            have hst := Lib.hid hex
            clear hex
            go_wp2_with fail
            go_loopw [7, 8] (fun x i w1 => ∃ k : Nat, i = .int .i64 ((a + k : Nat) : Int) ∧ k ≤ n ∧ x = .int .i64 ((min (numV (t.take k)) 1048577 : Nat) : Int) ∧ Four w1 b0 (.int .i64 0) (.string ⟨#[]⟩) (.int .i64 0) (.int .i64 0) ∧ Gr w w1) (fun _ i _ => e - (RowKit.intOf i).toNat)
            case atStart => exact ⟨0, rfl, Nat.zero_le _, by simp [numV], T0.out, G.out⟩
            case round =>
              clear T0 G
              obtain ⟨k, rfl, hk, rfl, t0, hg⟩ := hrel
              have T0 := Lib.hid t0
              have G := Lib.hid hg
              clear t0 hg
              obtain ⟨j, hj⟩ : ∃ j, a + k = j := ⟨_, rfl⟩
              rw [hj]
              by_cases hlt : k < n
              · have hje : j < e := by omega
                have hje' : (j : Int) < (e : Int) := by omega
                obtain ⟨c, hc1, hc2⟩ := Hti.out k hlt
                rw [hj] at hc2
                have hjl : j < bs.length := by omega
                have hjl' : (j : Int) < (bs.length : Int) := by omega
                have hi : ∀ h, (⟨bs.toArray⟩ : ByteArray)[j]'h = c := fun h => by
                  show bs.toArray[j] = _
                  rw [List.getElem?_eq_getElem hjl] at hc2
                  simpa using hc2
                have hd := Hdi.out c (List.mem_of_getElem? hc1)
                have HS := Lib.hid (show numV (t.take (k + 1)) = 10 * numV (t.take k) + (c.toNat - 48) by rw [List.take_add_one, hc1]; show numV (_ ++ [c]) = _; rw [numV_snoc])
                unfold isDi at hd
                simp only [Bool.and_eq_true, decide_eq_true_eq] at hd
                obtain ⟨hd1, hd2⟩ := hd
                obtain ⟨u, hu⟩ : ∃ u, c.toNat = u := ⟨_, rfl⟩
                have HU := Lib.hid hu
                obtain ⟨X, hX⟩ : ∃ X, min (numV (t.take k)) 1048577 = X := ⟨_, rfl⟩
                have hX2 : X ≤ 1048577 := by omega
                rw [hX]
                rw [hu] at HS hd1 hd2
                have HX := Lib.hid hX
                obtain ⟨Y, hY⟩ : ∃ Y, 10 * X + (u - 48) = Y := ⟨_, rfl⟩
                have E1 : 10 * (X : Int) + ((u : Int) - 48) = (Y : Int) := by omega
                clear hc1 hc2 hX
                go_wp2_with fail
                refine ⟨⟨k + 1, by rw [← Nat.add_assoc, hj]; go_num, by omega, ?_, T0.out, G.out⟩, by simp [RowKit.intOf]; omega⟩
                congr 1
                rw [HS.out]
                have := HX.out
                omega
              · obtain rfl : n = k := by omega
                have htk : t.take n = t := List.take_of_length_le (by rw [Hn.out]; exact Nat.le_refl _)
                rw [htk]
                clear htk
                obtain rfl : e = j := by omega
                obtain ⟨V, hV⟩ : ∃ V, numV t = V := ⟨_, rfl⟩
                rw [hV]
                by_cases hbig : 1048576 < V
                · have hmin : min V 1048577 = 1048577 := by omega
                  rw [hmin]
                  have HErr := Lib.hid (show numR (bs.drop a) = .error 2 by rw [Hno.out, hV, if_pos hbig])
                  have T0_0 := T0.out.load.1
                  have T0_f0 := T0.out.f0 0
                  have T0_1 := T0.out.load.2.1
                  have T0_f1 := T0.out.f0 1
                  have T0_2 := T0.out.load.2.2.1
                  have T0_f2 := T0.out.f0 2
                  have T0_3 := T0.out.load.2.2.2
                  have T0_f3 := T0.out.f0 3
                  go_wp2_with fail
                  clear T0_0 T0_f0 T0_1 T0_f1 T0_2 T0_f2 T0_3 T0_f3
                  have hu := upd4 wr b0 (.int .i64 (0 : Nat)) (.string ⟨[].toArray⟩) (.int .i64 (0 : Nat)) (.int .i64 (0 : Nat))
                  have T0 := Lib.hid (T0.out.set (.int .i64 (0 : Nat)) (.string ⟨[].toArray⟩) (.int .i64 (0 : Nat)) (.int .i64 (0 : Nat)))
                  have G := Lib.hid (G.out.four Hb0.out (.int .i64 (0 : Nat)) (.string ⟨[].toArray⟩) (.int .i64 (0 : Nat)) (.int .i64 (0 : Nat)))
                  clear hu
                  generalize (((wr.setCell _ _).setCell _ _).setCell _ _).setCell _ _ = W7 at G T0 ⊢
                  have T0_0 := T0.out.load.1
                  have T0_1 := T0.out.load.2.1
                  have T0_2 := T0.out.load.2.2.1
                  have T0_3 := T0.out.load.2.2.2
                  refine bodyPost_ret (by simp [results, Tryd.results37, go_sem, T0_0, T0_1, T0_2, T0_3]; rfl) rfl ?_
                  exact ⟨_, rfl, G.out, by rw [HErr.out]; rfl⟩
                · have hmin : min V 1048577 = V := by omega
                  rw [hmin]
                  have HOk := Lib.hid (show numR (bs.drop a) = .ok ⟨3, t, V, 0⟩ by rw [Hno.out, hV, if_neg hbig])
                  have hbig' : ¬ (1048576 : Int) < (V : Int) := by omega
                  have hex := hst.out
                  have T0_0 := T0.out.load.1
                  have T0_f0 := T0.out.f0 0
                  have T0_1 := T0.out.load.2.1
                  have T0_f1 := T0.out.f0 1
                  have T0_2 := T0.out.load.2.2.1
                  have T0_f2 := T0.out.f0 2
                  have T0_3 := T0.out.load.2.2.2
                  have T0_f3 := T0.out.f0 3
                  go_wp2_with fail
                  clear T0_0 T0_f0 T0_1 T0_f1 T0_2 T0_f2 T0_3 T0_f3
                  have hu := upd4 wr b0 (.int .i64 3) (.string ⟨t.toArray⟩) (.int .i64 V) (.int .i64 a)
                  have T0 := Lib.hid (T0.out.set (.int .i64 3) (.string ⟨t.toArray⟩) (.int .i64 V) (.int .i64 a))
                  have G := Lib.hid (G.out.four Hb0.out (.int .i64 3) (.string ⟨t.toArray⟩) (.int .i64 V) (.int .i64 a))
                  clear hu
                  generalize (((wr.setCell _ _).setCell _ _).setCell _ _).setCell _ _ = W7 at G T0 ⊢
                  have T0_0 := T0.out.load.1
                  have T0_1 := T0.out.load.2.1
                  have T0_2 := T0.out.load.2.2.1
                  have T0_3 := T0.out.load.2.2.2
                  refine bodyPost_ret (by simp [results, Tryd.results37, go_sem, T0_0, T0_1, T0_2, T0_3]; rfl) rfl ?_
                  exact ⟨_, rfl, G.out, by rw [HOk.out]; rfl⟩
      · have E0 : (e : Int) - (a : Int) = (n : Int) := by omega
        have h1' : ¬ (1 : Int) < (n : Int) := by omega
        have HA := Lib.hid (show ¬ (1 < n ∧ (bs.drop a).head? = some 48) from fun h => h1 h.1)
        go_wp2_with fail
        refine (ref_word _ bs e m heL HM.out hl).mono ?_
        rintro _ w3 ⟨_, rfl, g3, rfl⟩
        have G := Lib.hid (G.out.trans g3)
        have T0 := Lib.hid (T0.out.grow g3)
        clear g3
        by_cases hme : e < m
        · have hme' : (e : Int) < (m : Int) := by omega
          have HErr := Lib.hid (show numR (bs.drop a) = .error 3 by unfold numR; rw [Ht.out, Hn.out, HB.out, decide_eq_true hme]; simp)
          have T0_0 := T0.out.load.1
          have T0_f0 := T0.out.f0 0
          have T0_1 := T0.out.load.2.1
          have T0_f1 := T0.out.f0 1
          have T0_2 := T0.out.load.2.2.1
          have T0_f2 := T0.out.f0 2
          have T0_3 := T0.out.load.2.2.2
          have T0_f3 := T0.out.f0 3
          go_wp2_with fail
          clear T0_0 T0_f0 T0_1 T0_f1 T0_2 T0_f2 T0_3 T0_f3
          have hu := upd4 w3 b0 (.int .i64 (0 : Nat)) (.string ⟨[].toArray⟩) (.int .i64 (0 : Nat)) (.int .i64 (0 : Nat))
          have T0 := Lib.hid (T0.out.set (.int .i64 (0 : Nat)) (.string ⟨[].toArray⟩) (.int .i64 (0 : Nat)) (.int .i64 (0 : Nat)))
          have G := Lib.hid (G.out.four Hb0.out (.int .i64 (0 : Nat)) (.string ⟨[].toArray⟩) (.int .i64 (0 : Nat)) (.int .i64 (0 : Nat)))
          clear hu
          generalize (((w3.setCell _ _).setCell _ _).setCell _ _).setCell _ _ = W7 at G T0 ⊢
          have T0_0 := T0.out.load.1
          have T0_1 := T0.out.load.2.1
          have T0_2 := T0.out.load.2.2.1
          have T0_3 := T0.out.load.2.2.2
          refine bodyPost_ret (by simp [results, Tryd.results37, go_sem, T0_0, T0_1, T0_2, T0_3]; rfl) rfl ?_
          exact ⟨_, rfl, G.out, by rw [HErr.out]; rfl⟩
        · have hme' : ¬ (e : Int) < (m : Int) := by omega
          have Hno := Lib.hid (show numR (bs.drop a) = if 1048576 < numV t then .error 2 else .ok ⟨3, t, numV t, 0⟩ by
            unfold numR
            rw [Ht.out, Hn.out, HB.out, decide_eq_false hme, Bool.or_false]
            split
            · rename_i h
              simp only [Bool.and_eq_true, decide_eq_true_eq, beq_iff_eq] at h
              exact absurd h HA.out
            · rfl)
          have Hti := Lib.hid (show ∀ k, k < n → ∃ c, t[k]? = some c ∧ bs[a + k]? = some c by
            intro k hk
            obtain ⟨c, hc⟩ : ∃ c, t[k]? = some c := ⟨_, List.getElem?_eq_getElem (by rw [Hn.out]; exact hk)⟩
            refine ⟨c, hc, ?_⟩
            have h1 := (List.prefix_iff_eq_take.1 (List.takeWhile_prefix (p := isDi) (l := bs.drop a)))
            rw [Ht.out, Hn.out] at h1
            rw [h1, List.getElem?_take, if_pos hk, List.getElem?_drop] at hc
            exact hc)
          have Hdi := Lib.hid (show ∀ c ∈ t, isDi c = true by rw [← Ht.out]; exact fun c hc => List.all_eq_true.1 (List.all_takeWhile (p := isDi) (l := bs.drop a)) c hc)
          have hex : (⟨bs.toArray⟩ : ByteArray).extract a e = ⟨t.toArray⟩ := slice_str bs a e t (by
            have h1 := (List.prefix_iff_eq_take.1 (List.takeWhile_prefix (p := isDi) (l := bs.drop a)))
            rw [Ht.out, Hn.out] at h1
            rw [show e - a = n by omega]; exact h1.symm) (by omega) heL
          clear HA HB HM
          have hst := Lib.hid hex
          clear hex
          go_wp2_with fail
          go_loopw [7, 8] (fun x i w1 => ∃ k : Nat, i = .int .i64 ((a + k : Nat) : Int) ∧ k ≤ n ∧ x = .int .i64 ((min (numV (t.take k)) 1048577 : Nat) : Int) ∧ Four w1 b0 (.int .i64 0) (.string ⟨#[]⟩) (.int .i64 0) (.int .i64 0) ∧ Gr w w1) (fun _ i _ => e - (RowKit.intOf i).toNat)
          case atStart => exact ⟨0, rfl, Nat.zero_le _, by simp [numV], T0.out, G.out⟩
          case round =>
            clear T0 G
            obtain ⟨k, rfl, hk, rfl, t0, hg⟩ := hrel
            have T0 := Lib.hid t0
            have G := Lib.hid hg
            clear t0 hg
            obtain ⟨j, hj⟩ : ∃ j, a + k = j := ⟨_, rfl⟩
            rw [hj]
            by_cases hlt : k < n
            · have hje : j < e := by omega
              have hje' : (j : Int) < (e : Int) := by omega
              obtain ⟨c, hc1, hc2⟩ := Hti.out k hlt
              rw [hj] at hc2
              have hjl : j < bs.length := by omega
              have hjl' : (j : Int) < (bs.length : Int) := by omega
              have hi : ∀ h, (⟨bs.toArray⟩ : ByteArray)[j]'h = c := fun h => by
                show bs.toArray[j] = _
                rw [List.getElem?_eq_getElem hjl] at hc2
                simpa using hc2
              have hd := Hdi.out c (List.mem_of_getElem? hc1)
              have HS := Lib.hid (show numV (t.take (k + 1)) = 10 * numV (t.take k) + (c.toNat - 48) by rw [List.take_add_one, hc1]; show numV (_ ++ [c]) = _; rw [numV_snoc])
              unfold isDi at hd
              simp only [Bool.and_eq_true, decide_eq_true_eq] at hd
              obtain ⟨hd1, hd2⟩ := hd
              obtain ⟨u, hu⟩ : ∃ u, c.toNat = u := ⟨_, rfl⟩
              have HU := Lib.hid hu
              obtain ⟨X, hX⟩ : ∃ X, min (numV (t.take k)) 1048577 = X := ⟨_, rfl⟩
              have hX2 : X ≤ 1048577 := by omega
              rw [hX]
              rw [hu] at HS hd1 hd2
              have HX := Lib.hid hX
              obtain ⟨Y, hY⟩ : ∃ Y, 10 * X + (u - 48) = Y := ⟨_, rfl⟩
              have E1 : 10 * (X : Int) + ((u : Int) - 48) = (Y : Int) := by omega
              clear hc1 hc2 hX
              go_wp2_with fail
              refine ⟨⟨k + 1, by rw [← Nat.add_assoc, hj]; go_num, by omega, ?_, T0.out, G.out⟩, by simp [RowKit.intOf]; omega⟩
              congr 1
              rw [HS.out]
              have := HX.out
              omega
            · obtain rfl : n = k := by omega
              have htk : t.take n = t := List.take_of_length_le (by rw [Hn.out]; exact Nat.le_refl _)
              rw [htk]
              clear htk
              obtain rfl : e = j := by omega
              obtain ⟨V, hV⟩ : ∃ V, numV t = V := ⟨_, rfl⟩
              rw [hV]
              by_cases hbig : 1048576 < V
              · have hmin : min V 1048577 = 1048577 := by omega
                rw [hmin]
                have HErr := Lib.hid (show numR (bs.drop a) = .error 2 by rw [Hno.out, hV, if_pos hbig])
                have T0_0 := T0.out.load.1
                have T0_f0 := T0.out.f0 0
                have T0_1 := T0.out.load.2.1
                have T0_f1 := T0.out.f0 1
                have T0_2 := T0.out.load.2.2.1
                have T0_f2 := T0.out.f0 2
                have T0_3 := T0.out.load.2.2.2
                have T0_f3 := T0.out.f0 3
                go_wp2_with fail
                clear T0_0 T0_f0 T0_1 T0_f1 T0_2 T0_f2 T0_3 T0_f3
                have hu := upd4 wr b0 (.int .i64 (0 : Nat)) (.string ⟨[].toArray⟩) (.int .i64 (0 : Nat)) (.int .i64 (0 : Nat))
                have T0 := Lib.hid (T0.out.set (.int .i64 (0 : Nat)) (.string ⟨[].toArray⟩) (.int .i64 (0 : Nat)) (.int .i64 (0 : Nat)))
                have G := Lib.hid (G.out.four Hb0.out (.int .i64 (0 : Nat)) (.string ⟨[].toArray⟩) (.int .i64 (0 : Nat)) (.int .i64 (0 : Nat)))
                clear hu
                generalize (((wr.setCell _ _).setCell _ _).setCell _ _).setCell _ _ = W7 at G T0 ⊢
                have T0_0 := T0.out.load.1
                have T0_1 := T0.out.load.2.1
                have T0_2 := T0.out.load.2.2.1
                have T0_3 := T0.out.load.2.2.2
                refine bodyPost_ret (by simp [results, Tryd.results37, go_sem, T0_0, T0_1, T0_2, T0_3]; rfl) rfl ?_
                exact ⟨_, rfl, G.out, by rw [HErr.out]; rfl⟩
              · have hmin : min V 1048577 = V := by omega
                rw [hmin]
                have HOk := Lib.hid (show numR (bs.drop a) = .ok ⟨3, t, V, 0⟩ by rw [Hno.out, hV, if_neg hbig])
                have hbig' : ¬ (1048576 : Int) < (V : Int) := by omega
                have hex := hst.out
                have T0_0 := T0.out.load.1
                have T0_f0 := T0.out.f0 0
                have T0_1 := T0.out.load.2.1
                have T0_f1 := T0.out.f0 1
                have T0_2 := T0.out.load.2.2.1
                have T0_f2 := T0.out.f0 2
                have T0_3 := T0.out.load.2.2.2
                have T0_f3 := T0.out.f0 3
                go_wp2_with fail
                clear T0_0 T0_f0 T0_1 T0_f1 T0_2 T0_f2 T0_3 T0_f3
                have hu := upd4 wr b0 (.int .i64 3) (.string ⟨t.toArray⟩) (.int .i64 V) (.int .i64 a)
                have T0 := Lib.hid (T0.out.set (.int .i64 3) (.string ⟨t.toArray⟩) (.int .i64 V) (.int .i64 a))
                have G := Lib.hid (G.out.four Hb0.out (.int .i64 3) (.string ⟨t.toArray⟩) (.int .i64 V) (.int .i64 a))
                clear hu
                generalize (((wr.setCell _ _).setCell _ _).setCell _ _).setCell _ _ = W7 at G T0 ⊢
                have T0_0 := T0.out.load.1
                have T0_1 := T0.out.load.2.1
                have T0_2 := T0.out.load.2.2.1
                have T0_3 := T0.out.load.2.2.2
                refine bodyPost_ret (by simp [results, Tryd.results37, go_sem, T0_0, T0_1, T0_2, T0_3]; rfl) rfl ?_
                exact ⟨_, rfl, G.out, by rw [HOk.out]; rfl⟩
end Go.Proofs.YtakcolmgbahgiaaDoor

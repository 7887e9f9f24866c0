/-
  LexerWords.
-/
import Derived.Test.YtakcolmgbahgiaaDoorLexT
import Derived.Laws.Concat
namespace Go.Proofs.YtakcolmgbahgiaaDoor
open Go.RowKit Go.Lib Lex
set_option linter.unusedVariables false
set_option linter.unusedSimpArgs false

theorem numV_cons (c : UInt8) (t : List UInt8) : numV (c :: t) = (c.toNat - 48) * 10 ^ t.length + numV t := by
  have key : ∀ (u : List UInt8) (a : Nat), u.foldl (fun a c => 10 * a + (c.toNat - 48)) a = a * 10 ^ u.length + numV u := by
    intro u
    induction u with
    | nil => intro a; simp [numV]
    | cons d u ih =>
      intro a
      have h1 := ih (10 * a + (d.toNat - 48))
      have h2 := ih (10 * 0 + (d.toNat - 48))
      show u.foldl _ (10 * a + (d.toNat - 48)) = a * 10 ^ (u.length + 1) + u.foldl _ (10 * 0 + (d.toNat - 48))
      rw [h1, h2, Nat.pow_succ, Nat.add_mul, Nat.mul_zero, Nat.zero_add, Nat.mul_comm 10 a, Nat.mul_assoc, Nat.mul_comm 10]
      omega
  have := key t (10 * 0 + (c.toNat - 48))
  show t.foldl _ (10 * 0 + (c.toNat - 48)) = _
  rw [this, Nat.mul_zero, Nat.zero_add]
/-- t has been written of n, k is still to come -/
def Wr (n k : Nat) (t : List UInt8) : Prop := n = k * 10 ^ t.length + numV t ∧ (∀ c ∈ t, isDi c = true) ∧ (t ≠ [] → k = 0 → (t.head? ≠ some 48 ∨ t.length = 1)) ∧ (t.length ≤ 1 ∨ 10 ^ (t.length - 1) ≤ n)
theorem Wr.start (n : Nat) : Wr n n [] := ⟨by simp [numV], fun c h => (by cases h), fun h => absurd rfl h, .inl (by simp)⟩
theorem Wr.step {n k : Nat} {t : List UInt8} {c : UInt8} (h : Wr n k t) (hk : t = [] ∨ 0 < k) (hc : c.toNat = 48 + k % 10) : Wr n (k / 10) (c :: t) := by
  obtain ⟨h1, h2, h3, h4⟩ := h
  have hm := Nat.mod_lt k (show 0 < 10 by decide)
  refine ⟨?_, fun d hd => ?_, fun _ h0 => ?_, ?_⟩
  · rw [numV_cons, hc, List.length_cons, Nat.pow_succ, show 48 + k % 10 - 48 = k % 10 by omega]
    have e := Nat.div_add_mod k 10
    have e2 : k * 10 ^ t.length = (k / 10) * (10 ^ t.length * 10) + (k % 10) * 10 ^ t.length := by
      conv => lhs; rw [← e]
      rw [Nat.add_mul, Nat.mul_comm 10 (k / 10), Nat.mul_assoc, Nat.mul_comm 10 (10 ^ t.length)]
    omega
  · rcases List.mem_cons.1 hd with rfl | hd
    · unfold isDi; rw [hc]; simp; omega
    · exact h2 d hd
  · rcases hk with rfl | hk
    · exact .inr rfl
    · refine .inl ?_
      have : c ≠ 48 := fun e => by
        have := congrArg UInt8.toNat e
        rw [hc] at this
        have e48 : (48 : UInt8).toNat = 48 := rfl
        omega
      simpa using this
  · rcases hk with rfl | hk
    · exact .inl (by simp)
    · refine .inr ?_
      rw [List.length_cons, Nat.add_sub_cancel]
      have := Nat.mul_le_mul_right (10 ^ t.length) hk
      omega
theorem Wr.len {n k : Nat} {t : List UInt8} (h : Wr n k t) (hn : n < 4294967296) : t.length ≤ 10 := by
  rcases h.2.2.2 with h | h
  · omega
  · refine Nat.le_of_not_lt fun hl => ?_
    have : 10 ^ 10 ≤ 10 ^ (t.length - 1) := Nat.pow_le_pow_right (by decide) (by omega)
    have e : (10 : Nat) ^ 10 = 10000000000 := by decide
    omega
theorem Wr.tok {n : Nat} {t : List UInt8} (h : Wr n 0 t) (ht : t ≠ []) : tokL t = if 1048576 < n then .error 2 else .ok ⟨3, t, n, 0⟩ := by
  obtain ⟨h1, h2, h3, -⟩ := h
  rw [Nat.zero_mul, Nat.zero_add] at h1
  cases t with
  | nil => exact absurd rfl ht
  | cons b r =>
    rw [h1]
    refine tokL_num (s := b :: r) rfl (List.all_eq_true.2 h2) ?_
    rcases h3 ht rfl with h | h
    · exact .inl (by simpa using h)
    · exact .inr h
theorem scan_one_err {b : UInt8} {r : List UInt8} {e : Nat} (hb : isDi b = true) (h : tokL (b :: r) = .error e) (hl : (b :: r).length ≤ 16384) : scanX (b :: r) = .error (0, e) := by
  have hs : skipL false (b :: r) = 0 := by
    unfold isDi at hb
    simp only [Bool.and_eq_true, decide_eq_true_eq] at hb
    have h35 : (b == 35) = false := by
      cases hh : b == 35 with
      | false => rfl
      | true => have := congrArg UInt8.toNat (by simpa using hh : b = 35); have e : (35 : UInt8).toNat = 35 := rfl; omega
    have hbl : isBl b = false := by
      unfold isBl
      have n1 : ∀ d : UInt8, d.toNat < 48 → (b == d) = false := fun d hd => by
        cases hh : b == d with
        | false => rfl
        | true => have := congrArg UInt8.toNat (by simpa using hh : b = d); omega
      rw [n1 32 (by decide), n1 9 (by decide), n1 10 (by decide), n1 13 (by decide)]; rfl
    show (if b == 35 then _ else if isBl b then _ else 0) = 0
    rw [h35, hbl]; rfl
  unfold scanX
  rw [if_neg (by omega), scan_eq, hs]
  simp [h]
theorem word_scan {s : List UInt8} (hs : s ≠ []) (hb : ∀ b r, s = b :: r → isLo b = true) (hl : s.length ≤ 31) (ha : s.all isWd = true) : scanX s = .ok [⟨if keywords.contains s then 2 else 1, s, 0, 0⟩, ⟨0, [], 0, s.length⟩] := by
  cases s with
  | nil => exact absurd rfl hs
  | cons b r => exact cov_scanX (cov_one (tokL_word rfl (hb b r rfl) hl ha) rfl) (by omega)
theorem name_scan {s : List UInt8} (h : isName s = true) : scanX s = .ok [⟨1, s, 0, 0⟩, ⟨0, [], 0, s.length⟩] ∧ keywords.contains s = false := by
  unfold isName at h
  simp only [Bool.and_eq_true, decide_eq_true_eq] at h
  obtain ⟨⟨⟨⟨h1, h2⟩, h3⟩, h4⟩, h5⟩ := h
  have hk : keywords.contains s = false := by
    cases hc : keywords.contains s with
    | false => rfl
    | true => rw [hc] at h5; exact absurd h5 (by decide)
  have := word_scan (s := s) (fun e => by rw [e] at h1; simp at h1) (fun b r e => by rw [e] at h3; exact h3) h2 h4
  rw [hk] at this
  exact ⟨this, hk⟩
theorem kw_scan {s : List UInt8} (h : keywords.contains s = true) : scanX s = .ok [⟨2, s, 0, 0⟩, ⟨0, [], 0, s.length⟩] ∧ isName s = false := by
  obtain ⟨h1, h2, h3, h4⟩ := keywords_ok s (List.contains_iff_mem.1 h)
  have := word_scan (s := s) (fun e => by rw [e] at h1; simp at h1) (fun b r e => by rw [e] at h4; exact h4) h2 h3
  rw [h] at this
  refine ⟨this, ?_⟩
  unfold isName
  rw [h]; simp
theorem byte1 (w : World) (b : UInt8) (e : Int) (he : e = (b.toNat : Int)) (t : TypeId) : (convert 41 9 (.slice (some ⟨w.heap.size, 0, none⟩) 1 1)).run Tryd.prog (w.alloc (.cells #[.int .u8 e] t)) = .ok (.string ⟨#[b]⟩) (w.alloc (.cells #[.int .u8 e] t)) := by
  subst he
  exact run_convert_bytes_back (P := Tryd.prog) _ 41 9 5 ⟨w.heap.size, 0, none⟩ 1 [b] Tryd.underlying41 Tryd.underlying5 Tryd.underlying9 (fun j hj => by
    have : j = 0 := by simpa using hj
    subst this
    rw [addr_add0]
    unfold World.cell?
    simp only [heap_alloc_new w _]
    rfl)
theorem scan_shape {bs : List UInt8} {r : Value} {w : World} (h : ScanRes bs r w) : ∃ v p e, r = .tuple #[v, .int .i64 p, .int .i64 e] := by
  unfold ScanRes at h
  split at h
  · exact ⟨_, _, _, h⟩
  · obtain ⟨v, rfl, _⟩ := h
    exact ⟨_, _, _, rfl⟩
def b2n : Value → Nat
  | .bool true => 1
  | _ => 0


set_option maxRecDepth 100000 in
set_option maxHeartbeats 1600000 in
theorem law_LexerWords (w : World) (ht : Tab w) (s : ByteArray) (q : Nat) (hq : q < 4294967296) : Calls Tryd.prog 8 #[.string s, .int .u32 (q : Int)] w (Ret w fun r _ => r = .bool true) := by
  obtain ⟨bs, rfl, hs⟩ := str_of s
  have HT := Lib.hid ht
  have G := Lib.hid (Gr.refl w)
  clear ht hs
  go_enter Tryd.func8, Tryd.ntmps8
  go_wp2_with fail
  refine (law_awake _ HT.out).mono ?_
  rintro _ w1 ⟨_, rfl, g1, rfl⟩
  have G := Lib.hid (G.out.trans g1)
  clear g1
  by_cases hbig : 100 < bs.length
  · have hbig' : (100 : Int) < (bs.length : Int) := by omega
    go_wp2_with fail
    go_ret
    exact ⟨_, rfl, G.out, rfl⟩
  · have hbig' : ¬ (100 : Int) < (bs.length : Int) := by omega
    go_wp2_with fail
    refine (lex_Scan _ (HT.out.grow G.out) bs (by omega)).mono ?_
    rintro _ w2 ⟨r2, rfl, g2, h2⟩
    have G := Lib.hid (G.out.trans g2)
    clear g2
    have H2 := Lib.hid h2
    clear h2
    by_cases hnm : isName bs = true
    · obtain ⟨hsc, hkw⟩ := name_scan hnm
      have HS := Lib.hid hsc
      have HK := Lib.hid hkw
      have HNm := Lib.hid hnm
      clear hsc hkw hnm
      have h2 := H2.out
      unfold ScanRes at h2
      rw [HS.out] at h2
      obtain ⟨v2, rfl, h2⟩ := h2
      have H2 := Lib.hid h2
      clear h2
      go_wp2_with fail
      have hc := ref_IsName w2 bs (by omega)
      rw [HNm.out] at hc
      refine (hc).mono ?_
      rintro _ w3 ⟨_, rfl, g3, rfl⟩
      have G := Lib.hid (G.out.trans g3)
      have H2 := Lib.hid (H2.out.grow g3)
      clear g3
      clear hc
      go_wp2_with fail
      have B := TokS.new4 w3 [⟨1, bs, 0, 0⟩, ⟨0, [], 0, (bs).length⟩] #[.int .i64 1, .string ⟨(bs).toArray⟩, .int .i64 0, .int .i64 0, .int .i64 0, .string ⟨#[]⟩, .int .i64 0, .int .i64 ((bs).length : Nat)] 2 rfl rfl (by decide)
      generalize Value.slice (some ⟨(w3).heap.size, 0, none⟩) 2 2 = v4 at B ⊢
      generalize (w3).alloc _ = w4 at B ⊢
      obtain ⟨g4, h4⟩ := B
      have G := Lib.hid (G.out.trans g4)
      have H2 := Lib.hid (H2.out.grow g4)
      clear g4
      have H4 := Lib.hid h4
      clear h4
      refine (ref_Same _ v2 v4 _ _ H2.out H4.out (by simp) (by simp)).mono ?_
      rintro _ w5 ⟨r5, rfl, g5, h5⟩
      have G := Lib.hid (G.out.trans g5)
      have H2 := Lib.hid (H2.out.grow g5)
      have H4 := Lib.hid (H4.out.grow g5)
      clear g5
      have H5 := Lib.hid h5
      clear h5
      obtain ⟨t, rfl, ht⟩ := H5.out
      obtain rfl : t = true := ht.2 rfl
      clear H5 ht H4
      go_wp2_with fail
      refine (ref_Keywords _).mono ?_
      rintro _ w6 ⟨r6, rfl, g6, h6⟩
      have G := Lib.hid (G.out.trans g6)
      clear g6
      have H6 := Lib.hid h6
      clear h6
      go_wp2_with fail
      have hc := ref_Has w6 r6 keywords bs H6.out (by decide)
      rw [HK.out] at hc
      refine (hc).mono ?_
      rintro _ w7 ⟨_, rfl, g7, rfl⟩
      have G := Lib.hid (G.out.trans g7)
      clear g7
      clear hc H6
      go_wp2_with fail
      go_loopw [8, 9, 10] (fun x y z w3 => ∃ (t : List UInt8) (k : Nat) (f : Bool), x = .string ⟨t.toArray⟩ ∧ y = .int .i64 k ∧ z = .bool f ∧ Wr q k t ∧ (f = true ↔ t = []) ∧ k ≤ q ∧ Gr w w3) (fun x y z _ => 2 * (RowKit.intOf y).toNat + b2n z)
      case atStart => exact ⟨[], q, true, rfl, rfl, rfl, Wr.start q, by simp, Nat.le_refl _, G.out⟩
      case round =>
        clear G
        obtain ⟨t, k, f, rfl, rfl, rfl, hw, hf, hkq, hg⟩ := hrel
        have HW := Lib.hid hw
        have HF := Lib.hid hf
        have G := Lib.hid hg
        have htl := hw.len hq
        clear hw hf hg
        by_cases hgo : f = true ∨ 0 < k
        · obtain ⟨d, hd⟩ : ∃ d, k % 10 = d := ⟨_, rfl⟩
          obtain ⟨k2, hk2⟩ : ∃ k2, k / 10 = k2 := ⟨_, rfl⟩
          have hd10 : d < 10 := by rw [← hd]; exact Nat.mod_lt _ (by decide)
          obtain ⟨c, hc⟩ : ∃ c : UInt8, c.toNat = 48 + d := ⟨(48 + d).toUInt8, by simp; omega⟩
          have HS := Lib.hid (show Wr q k2 (c :: t) by
            rw [← hk2]
            refine HW.out.step ?_ (by rw [hd, hc])
            rcases hgo with h | h
            · exact .inl (HF.out.1 h)
            · exact .inr h)
          have E1 : (k : Int) % 10 = (d : Int) := by omega
          have E2 : (k : Int) / 10 = (k2 : Int) := by omega
          have E2' : Int.tdiv (k : Int) 10 = (k2 : Int) := by rw [Int.tdiv_eq_ediv_of_nonneg (by omega)]; omega
          have Hlt := Lib.hid (show 2 * k2 < 2 * k + b2n (.bool f) by
            rcases hgo with rfl | h
            · show 2 * k2 < 2 * k + 1; omega
            · omega)
          have Hkq := Lib.hid (show k2 ≤ q by omega)
          have Hc := Lib.hid hc
          have hgo2 : f = false → (0 : Int) < (k : Int) := fun h => by rcases hgo with h' | h' ; (rw [h] at h'; cases h'); omega
          clear hd hk2 hgo hc
          cases f
          · have hgo3 := hgo2 rfl
            clear hgo2
            go_wp2_with fail
            rw [byte1 wr c (48 + (d : Int)) (by rw [Hc.out]; omega) 5]
            have g9 : Gr wr (wr.alloc (.cells #[.int .u8 (48 + (d : Int))] 5)) := (Gr.refl wr).alloc _
            generalize wr.alloc _ = w9 at g9 ⊢
            have G := Lib.hid (G.out.trans g9)
            clear g9
            have hA : (⟨#[c]⟩ : ByteArray) ++ ⟨t.toArray⟩ = ⟨(c :: t).toArray⟩ := str_app [c] t
            have hz : ¬ 9223372036854775807 < 1 + t.length := by omega
            go_simp
            go_wp2_with fail
            refine ⟨⟨c :: t, k2, false, rfl, rfl, rfl, HS.out, by simp, Hkq.out, G.out⟩, ?_⟩
            have := Hlt.out
            simp [RowKit.intOf, b2n] at this ⊢
            omega
          · clear hgo2
            go_wp2_with fail
            rw [byte1 wr c (48 + (d : Int)) (by rw [Hc.out]; omega) 5]
            have g9 : Gr wr (wr.alloc (.cells #[.int .u8 (48 + (d : Int))] 5)) := (Gr.refl wr).alloc _
            generalize wr.alloc _ = w9 at g9 ⊢
            have G := Lib.hid (G.out.trans g9)
            clear g9
            have hA : (⟨#[c]⟩ : ByteArray) ++ ⟨t.toArray⟩ = ⟨(c :: t).toArray⟩ := str_app [c] t
            have hz : ¬ 9223372036854775807 < 1 + t.length := by omega
            go_simp
            go_wp2_with fail
            refine ⟨⟨c :: t, k2, false, rfl, rfl, rfl, HS.out, by simp, Hkq.out, G.out⟩, ?_⟩
            have := Hlt.out
            simp [RowKit.intOf, b2n] at this ⊢
            omega
        · have hf0 : f = false := by cases f; rfl; exact absurd (.inl rfl) hgo
          obtain rfl : k = 0 := by omega
          subst hf0
          have htne : t ≠ [] := fun e => by have := HF.out.2 e; cases this
          have HTok := Lib.hid (HW.out.tok htne)
          obtain ⟨b, r, hbr⟩ : ∃ b r, t = b :: r := by cases t with
            | nil => exact absurd rfl htne
            | cons b r => exact ⟨b, r, rfl⟩
          have HBR := Lib.hid hbr
          have HDi := Lib.hid (HW.out.2.1 b (by rw [hbr]; exact List.mem_cons_self))
          clear hbr htne hgo
          go_wp2_with fail
          refine (lex_Scan _ (HT.out.grow G.out) t (by omega)).mono ?_
          rintro _ w7 ⟨r7, rfl, g7, h7⟩
          have G := Lib.hid (G.out.trans g7)
          clear g7
          have H7 := Lib.hid h7
          clear h7
          by_cases hqb : 1048576 < q
          · have HS := Lib.hid (show scanX t = .error (0, 2) by
              have h1 := HTok.out
              rw [if_pos hqb] at h1
              rw [HBR.out] at h1 ⊢
              exact scan_one_err HDi.out h1 (by rw [← HBR.out]; omega))
            have h7 := H7.out
            unfold ScanRes at h7
            rw [HS.out] at h7
            obtain rfl := h7
            clear H7
            have hqb' : (1048576 : Int) < (q : Int) := by omega
            go_wp2_with fail
            go_ret
            exact ⟨_, rfl, G.out, rfl⟩
          · have HS := Lib.hid (show scanX t = .ok [⟨3, t, q, 0⟩, ⟨0, [], 0, t.length⟩] by
              have h1 := HTok.out
              rw [if_neg hqb] at h1
              exact cov_scanX (cov_one h1 rfl) (by omega))
            have hqb' : ¬ (1048576 : Int) < (q : Int) := by omega
            have h7 := H7.out
            unfold ScanRes at h7
            rw [HS.out] at h7
            obtain ⟨v7, rfl, h7⟩ := h7
            have H7 := Lib.hid h7
            clear h7
            go_wp2_with fail
            have B := TokS.new4 w7 [⟨3, t, q, 0⟩, ⟨0, [], 0, (t).length⟩] #[.int .i64 3, .string ⟨(t).toArray⟩, .int .i64 q, .int .i64 0, .int .i64 0, .string ⟨#[]⟩, .int .i64 0, .int .i64 ((t).length : Nat)] 2 rfl rfl (by decide)
            generalize Value.slice (some ⟨(w7).heap.size, 0, none⟩) 2 2 = v8 at B ⊢
            generalize (w7).alloc _ = w8 at B ⊢
            obtain ⟨g8, h8⟩ := B
            have G := Lib.hid (G.out.trans g8)
            have H7 := Lib.hid (H7.out.grow g8)
            clear g8
            have H8 := Lib.hid h8
            clear h8
            refine (ref_Same _ v7 v8 _ _ H7.out H8.out (by simp) (by simp)).mono ?_
            rintro _ w9 ⟨r9, rfl, g9, h9⟩
            have G := Lib.hid (G.out.trans g9)
            have H7 := Lib.hid (H7.out.grow g9)
            have H8 := Lib.hid (H8.out.grow g9)
            clear g9
            have H9 := Lib.hid h9
            clear h9
            obtain ⟨t, rfl, ht⟩ := H9.out
            obtain rfl : t = true := ht.2 rfl
            clear H9 ht H8
            go_wp2_with fail
            go_ret
            exact ⟨_, rfl, G.out, rfl⟩
    · have HNm := Lib.hid (show isName bs = false by simpa using hnm)
      clear hnm
      by_cases hkw : keywords.contains bs = true
      · have HS := Lib.hid (kw_scan hkw).1
        have HK := Lib.hid hkw
        clear hkw
        have h2 := H2.out
        unfold ScanRes at h2
        rw [HS.out] at h2
        obtain ⟨v2, rfl, h2⟩ := h2
        have H2 := Lib.hid h2
        clear h2
        go_wp2_with fail
        have hc := ref_IsName w2 bs (by omega)
        rw [HNm.out] at hc
        refine (hc).mono ?_
        rintro _ w3 ⟨_, rfl, g3, rfl⟩
        have G := Lib.hid (G.out.trans g3)
        have H2 := Lib.hid (H2.out.grow g3)
        clear g3
        clear hc
        go_wp2_with fail
        refine (ref_Keywords _).mono ?_
        rintro _ w6 ⟨r6, rfl, g6, h6⟩
        have G := Lib.hid (G.out.trans g6)
        have H2 := Lib.hid (H2.out.grow g6)
        clear g6
        have H6 := Lib.hid h6
        clear h6
        go_wp2_with fail
        have hc := ref_Has w6 r6 keywords bs H6.out (by decide)
        rw [HK.out] at hc
        refine (hc).mono ?_
        rintro _ w7 ⟨_, rfl, g7, rfl⟩
        have G := Lib.hid (G.out.trans g7)
        have H2 := Lib.hid (H2.out.grow g7)
        clear g7
        clear hc H6
        go_wp2_with fail
        have B := TokS.new4 w7 [⟨2, bs, 0, 0⟩, ⟨0, [], 0, (bs).length⟩] #[.int .i64 2, .string ⟨(bs).toArray⟩, .int .i64 0, .int .i64 0, .int .i64 0, .string ⟨#[]⟩, .int .i64 0, .int .i64 ((bs).length : Nat)] 2 rfl rfl (by decide)
        generalize Value.slice (some ⟨(w7).heap.size, 0, none⟩) 2 2 = v4 at B ⊢
        generalize (w7).alloc _ = w4 at B ⊢
        obtain ⟨g4, h4⟩ := B
        have G := Lib.hid (G.out.trans g4)
        have H2 := Lib.hid (H2.out.grow g4)
        clear g4
        have H4 := Lib.hid h4
        clear h4
        refine (ref_Same _ v2 v4 _ _ H2.out H4.out (by simp) (by simp)).mono ?_
        rintro _ w5 ⟨r5, rfl, g5, h5⟩
        have G := Lib.hid (G.out.trans g5)
        have H2 := Lib.hid (H2.out.grow g5)
        have H4 := Lib.hid (H4.out.grow g5)
        clear g5
        have H5 := Lib.hid h5
        clear h5
        obtain ⟨t, rfl, ht⟩ := H5.out
        obtain rfl : t = true := ht.2 rfl
        clear H5 ht H4
        go_wp2_with fail
        go_loopw [8, 9, 10] (fun x y z w3 => ∃ (t : List UInt8) (k : Nat) (f : Bool), x = .string ⟨t.toArray⟩ ∧ y = .int .i64 k ∧ z = .bool f ∧ Wr q k t ∧ (f = true ↔ t = []) ∧ k ≤ q ∧ Gr w w3) (fun x y z _ => 2 * (RowKit.intOf y).toNat + b2n z)
        case atStart => exact ⟨[], q, true, rfl, rfl, rfl, Wr.start q, by simp, Nat.le_refl _, G.out⟩
        case round =>
          clear G
          obtain ⟨t, k, f, rfl, rfl, rfl, hw, hf, hkq, hg⟩ := hrel
          have HW := Lib.hid hw
          have HF := Lib.hid hf
          have G := Lib.hid hg
          have htl := hw.len hq
          clear hw hf hg
          by_cases hgo : f = true ∨ 0 < k
          · obtain ⟨d, hd⟩ : ∃ d, k % 10 = d := ⟨_, rfl⟩
            obtain ⟨k2, hk2⟩ : ∃ k2, k / 10 = k2 := ⟨_, rfl⟩
            have hd10 : d < 10 := by rw [← hd]; exact Nat.mod_lt _ (by decide)
            obtain ⟨c, hc⟩ : ∃ c : UInt8, c.toNat = 48 + d := ⟨(48 + d).toUInt8, by simp; omega⟩
            have HS := Lib.hid (show Wr q k2 (c :: t) by
              rw [← hk2]
              refine HW.out.step ?_ (by rw [hd, hc])
              rcases hgo with h | h
              · exact .inl (HF.out.1 h)
              · exact .inr h)
            have E1 : (k : Int) % 10 = (d : Int) := by omega
            have E2 : (k : Int) / 10 = (k2 : Int) := by omega
            have E2' : Int.tdiv (k : Int) 10 = (k2 : Int) := by rw [Int.tdiv_eq_ediv_of_nonneg (by omega)]; omega
            have Hlt := Lib.hid (show 2 * k2 < 2 * k + b2n (.bool f) by
              rcases hgo with rfl | h
              · show 2 * k2 < 2 * k + 1; omega
              · omega)
            have Hkq := Lib.hid (show k2 ≤ q by omega)
            have Hc := Lib.hid hc
            have hgo2 : f = false → (0 : Int) < (k : Int) := fun h => by rcases hgo with h' | h' ; (rw [h] at h'; cases h'); omega
            clear hd hk2 hgo hc
            cases f
            · have hgo3 := hgo2 rfl
              clear hgo2
              go_wp2_with fail
              rw [byte1 wr c (48 + (d : Int)) (by rw [Hc.out]; omega) 5]
              have g9 : Gr wr (wr.alloc (.cells #[.int .u8 (48 + (d : Int))] 5)) := (Gr.refl wr).alloc _
              generalize wr.alloc _ = w9 at g9 ⊢
              have G := Lib.hid (G.out.trans g9)
              clear g9
              have hA : (⟨#[c]⟩ : ByteArray) ++ ⟨t.toArray⟩ = ⟨(c :: t).toArray⟩ := str_app [c] t
              have hz : ¬ 9223372036854775807 < 1 + t.length := by omega
              go_simp
              go_wp2_with fail
              refine ⟨⟨c :: t, k2, false, rfl, rfl, rfl, HS.out, by simp, Hkq.out, G.out⟩, ?_⟩
              have := Hlt.out
              simp [RowKit.intOf, b2n] at this ⊢
              omega
            · clear hgo2
              go_wp2_with fail
              rw [byte1 wr c (48 + (d : Int)) (by rw [Hc.out]; omega) 5]
              have g9 : Gr wr (wr.alloc (.cells #[.int .u8 (48 + (d : Int))] 5)) := (Gr.refl wr).alloc _
              generalize wr.alloc _ = w9 at g9 ⊢
              have G := Lib.hid (G.out.trans g9)
              clear g9
              have hA : (⟨#[c]⟩ : ByteArray) ++ ⟨t.toArray⟩ = ⟨(c :: t).toArray⟩ := str_app [c] t
              have hz : ¬ 9223372036854775807 < 1 + t.length := by omega
              go_simp
              go_wp2_with fail
              refine ⟨⟨c :: t, k2, false, rfl, rfl, rfl, HS.out, by simp, Hkq.out, G.out⟩, ?_⟩
              have := Hlt.out
              simp [RowKit.intOf, b2n] at this ⊢
              omega
          · have hf0 : f = false := by cases f; rfl; exact absurd (.inl rfl) hgo
            obtain rfl : k = 0 := by omega
            subst hf0
            have htne : t ≠ [] := fun e => by have := HF.out.2 e; cases this
            have HTok := Lib.hid (HW.out.tok htne)
            obtain ⟨b, r, hbr⟩ : ∃ b r, t = b :: r := by cases t with
              | nil => exact absurd rfl htne
              | cons b r => exact ⟨b, r, rfl⟩
            have HBR := Lib.hid hbr
            have HDi := Lib.hid (HW.out.2.1 b (by rw [hbr]; exact List.mem_cons_self))
            clear hbr htne hgo
            go_wp2_with fail
            refine (lex_Scan _ (HT.out.grow G.out) t (by omega)).mono ?_
            rintro _ w7 ⟨r7, rfl, g7, h7⟩
            have G := Lib.hid (G.out.trans g7)
            clear g7
            have H7 := Lib.hid h7
            clear h7
            by_cases hqb : 1048576 < q
            · have HS := Lib.hid (show scanX t = .error (0, 2) by
                have h1 := HTok.out
                rw [if_pos hqb] at h1
                rw [HBR.out] at h1 ⊢
                exact scan_one_err HDi.out h1 (by rw [← HBR.out]; omega))
              have h7 := H7.out
              unfold ScanRes at h7
              rw [HS.out] at h7
              obtain rfl := h7
              clear H7
              have hqb' : (1048576 : Int) < (q : Int) := by omega
              go_wp2_with fail
              go_ret
              exact ⟨_, rfl, G.out, rfl⟩
            · have HS := Lib.hid (show scanX t = .ok [⟨3, t, q, 0⟩, ⟨0, [], 0, t.length⟩] by
                have h1 := HTok.out
                rw [if_neg hqb] at h1
                exact cov_scanX (cov_one h1 rfl) (by omega))
              have hqb' : ¬ (1048576 : Int) < (q : Int) := by omega
              have h7 := H7.out
              unfold ScanRes at h7
              rw [HS.out] at h7
              obtain ⟨v7, rfl, h7⟩ := h7
              have H7 := Lib.hid h7
              clear h7
              go_wp2_with fail
              have B := TokS.new4 w7 [⟨3, t, q, 0⟩, ⟨0, [], 0, (t).length⟩] #[.int .i64 3, .string ⟨(t).toArray⟩, .int .i64 q, .int .i64 0, .int .i64 0, .string ⟨#[]⟩, .int .i64 0, .int .i64 ((t).length : Nat)] 2 rfl rfl (by decide)
              generalize Value.slice (some ⟨(w7).heap.size, 0, none⟩) 2 2 = v8 at B ⊢
              generalize (w7).alloc _ = w8 at B ⊢
              obtain ⟨g8, h8⟩ := B
              have G := Lib.hid (G.out.trans g8)
              have H7 := Lib.hid (H7.out.grow g8)
              clear g8
              have H8 := Lib.hid h8
              clear h8
              refine (ref_Same _ v7 v8 _ _ H7.out H8.out (by simp) (by simp)).mono ?_
              rintro _ w9 ⟨r9, rfl, g9, h9⟩
              have G := Lib.hid (G.out.trans g9)
              have H7 := Lib.hid (H7.out.grow g9)
              have H8 := Lib.hid (H8.out.grow g9)
              clear g9
              have H9 := Lib.hid h9
              clear h9
              obtain ⟨t, rfl, ht⟩ := H9.out
              obtain rfl : t = true := ht.2 rfl
              clear H9 ht H8
              go_wp2_with fail
              go_ret
              exact ⟨_, rfl, G.out, rfl⟩
      · have HK := Lib.hid (show keywords.contains bs = false by simpa using hkw)
        clear hkw
        obtain ⟨v2, p2, e2, rfl⟩ := scan_shape H2.out
        clear H2
        go_wp2_with fail
        have hc := ref_IsName w2 bs (by omega)
        rw [HNm.out] at hc
        refine (hc).mono ?_
        rintro _ w3 ⟨_, rfl, g3, rfl⟩
        have G := Lib.hid (G.out.trans g3)
        clear g3
        clear hc
        go_wp2_with fail
        refine (ref_Keywords _).mono ?_
        rintro _ w6 ⟨r6, rfl, g6, h6⟩
        have G := Lib.hid (G.out.trans g6)
        clear g6
        have H6 := Lib.hid h6
        clear h6
        go_wp2_with fail
        have hc := ref_Has w6 r6 keywords bs H6.out (by decide)
        rw [HK.out] at hc
        refine (hc).mono ?_
        rintro _ w7 ⟨_, rfl, g7, rfl⟩
        have G := Lib.hid (G.out.trans g7)
        clear g7
        clear hc H6
        go_wp2_with fail
        go_loopw [8, 9, 10] (fun x y z w3 => ∃ (t : List UInt8) (k : Nat) (f : Bool), x = .string ⟨t.toArray⟩ ∧ y = .int .i64 k ∧ z = .bool f ∧ Wr q k t ∧ (f = true ↔ t = []) ∧ k ≤ q ∧ Gr w w3) (fun x y z _ => 2 * (RowKit.intOf y).toNat + b2n z)
        case atStart => exact ⟨[], q, true, rfl, rfl, rfl, Wr.start q, by simp, Nat.le_refl _, G.out⟩
        case round =>
          clear G
          obtain ⟨t, k, f, rfl, rfl, rfl, hw, hf, hkq, hg⟩ := hrel
          have HW := Lib.hid hw
          have HF := Lib.hid hf
          have G := Lib.hid hg
          have htl := hw.len hq
          clear hw hf hg
          by_cases hgo : f = true ∨ 0 < k
          · obtain ⟨d, hd⟩ : ∃ d, k % 10 = d := ⟨_, rfl⟩
            obtain ⟨k2, hk2⟩ : ∃ k2, k / 10 = k2 := ⟨_, rfl⟩
            have hd10 : d < 10 := by rw [← hd]; exact Nat.mod_lt _ (by decide)
            obtain ⟨c, hc⟩ : ∃ c : UInt8, c.toNat = 48 + d := ⟨(48 + d).toUInt8, by simp; omega⟩
            have HS := Lib.hid (show Wr q k2 (c :: t) by
              rw [← hk2]
              refine HW.out.step ?_ (by rw [hd, hc])
              rcases hgo with h | h
              · exact .inl (HF.out.1 h)
              · exact .inr h)
            have E1 : (k : Int) % 10 = (d : Int) := by omega
            have E2 : (k : Int) / 10 = (k2 : Int) := by omega
            have E2' : Int.tdiv (k : Int) 10 = (k2 : Int) := by rw [Int.tdiv_eq_ediv_of_nonneg (by omega)]; omega
            have Hlt := Lib.hid (show 2 * k2 < 2 * k + b2n (.bool f) by
              rcases hgo with rfl | h
              · show 2 * k2 < 2 * k + 1; omega
              · omega)
            have Hkq := Lib.hid (show k2 ≤ q by omega)
            have Hc := Lib.hid hc
            have hgo2 : f = false → (0 : Int) < (k : Int) := fun h => by rcases hgo with h' | h' ; (rw [h] at h'; cases h'); omega
            clear hd hk2 hgo hc
            cases f
            · have hgo3 := hgo2 rfl
              clear hgo2
              go_wp2_with fail
              rw [byte1 wr c (48 + (d : Int)) (by rw [Hc.out]; omega) 5]
              have g9 : Gr wr (wr.alloc (.cells #[.int .u8 (48 + (d : Int))] 5)) := (Gr.refl wr).alloc _
              generalize wr.alloc _ = w9 at g9 ⊢
              have G := Lib.hid (G.out.trans g9)
              clear g9
              have hA : (⟨#[c]⟩ : ByteArray) ++ ⟨t.toArray⟩ = ⟨(c :: t).toArray⟩ := str_app [c] t
              have hz : ¬ 9223372036854775807 < 1 + t.length := by omega
              go_simp
              go_wp2_with fail
              refine ⟨⟨c :: t, k2, false, rfl, rfl, rfl, HS.out, by simp, Hkq.out, G.out⟩, ?_⟩
              have := Hlt.out
              simp [RowKit.intOf, b2n] at this ⊢
              omega
            · clear hgo2
              go_wp2_with fail
              rw [byte1 wr c (48 + (d : Int)) (by rw [Hc.out]; omega) 5]
              have g9 : Gr wr (wr.alloc (.cells #[.int .u8 (48 + (d : Int))] 5)) := (Gr.refl wr).alloc _
              generalize wr.alloc _ = w9 at g9 ⊢
              have G := Lib.hid (G.out.trans g9)
              clear g9
              have hA : (⟨#[c]⟩ : ByteArray) ++ ⟨t.toArray⟩ = ⟨(c :: t).toArray⟩ := str_app [c] t
              have hz : ¬ 9223372036854775807 < 1 + t.length := by omega
              go_simp
              go_wp2_with fail
              refine ⟨⟨c :: t, k2, false, rfl, rfl, rfl, HS.out, by simp, Hkq.out, G.out⟩, ?_⟩
              have := Hlt.out
              simp [RowKit.intOf, b2n] at this ⊢
              omega
          · have hf0 : f = false := by cases f; rfl; exact absurd (.inl rfl) hgo
            obtain rfl : k = 0 := by omega
            subst hf0
            have htne : t ≠ [] := fun e => by have := HF.out.2 e; cases this
            have HTok := Lib.hid (HW.out.tok htne)
            obtain ⟨b, r, hbr⟩ : ∃ b r, t = b :: r := by cases t with
              | nil => exact absurd rfl htne
              | cons b r => exact ⟨b, r, rfl⟩
            have HBR := Lib.hid hbr
            have HDi := Lib.hid (HW.out.2.1 b (by rw [hbr]; exact List.mem_cons_self))
            clear hbr htne hgo
            go_wp2_with fail
            refine (lex_Scan _ (HT.out.grow G.out) t (by omega)).mono ?_
            rintro _ w7 ⟨r7, rfl, g7, h7⟩
            have G := Lib.hid (G.out.trans g7)
            clear g7
            have H7 := Lib.hid h7
            clear h7
            by_cases hqb : 1048576 < q
            · have HS := Lib.hid (show scanX t = .error (0, 2) by
                have h1 := HTok.out
                rw [if_pos hqb] at h1
                rw [HBR.out] at h1 ⊢
                exact scan_one_err HDi.out h1 (by rw [← HBR.out]; omega))
              have h7 := H7.out
              unfold ScanRes at h7
              rw [HS.out] at h7
              obtain rfl := h7
              clear H7
              have hqb' : (1048576 : Int) < (q : Int) := by omega
              go_wp2_with fail
              go_ret
              exact ⟨_, rfl, G.out, rfl⟩
            · have HS := Lib.hid (show scanX t = .ok [⟨3, t, q, 0⟩, ⟨0, [], 0, t.length⟩] by
                have h1 := HTok.out
                rw [if_neg hqb] at h1
                exact cov_scanX (cov_one h1 rfl) (by omega))
              have hqb' : ¬ (1048576 : Int) < (q : Int) := by omega
              have h7 := H7.out
              unfold ScanRes at h7
              rw [HS.out] at h7
              obtain ⟨v7, rfl, h7⟩ := h7
              have H7 := Lib.hid h7
              clear h7
              go_wp2_with fail
              have B := TokS.new4 w7 [⟨3, t, q, 0⟩, ⟨0, [], 0, (t).length⟩] #[.int .i64 3, .string ⟨(t).toArray⟩, .int .i64 q, .int .i64 0, .int .i64 0, .string ⟨#[]⟩, .int .i64 0, .int .i64 ((t).length : Nat)] 2 rfl rfl (by decide)
              generalize Value.slice (some ⟨(w7).heap.size, 0, none⟩) 2 2 = v8 at B ⊢
              generalize (w7).alloc _ = w8 at B ⊢
              obtain ⟨g8, h8⟩ := B
              have G := Lib.hid (G.out.trans g8)
              have H7 := Lib.hid (H7.out.grow g8)
              clear g8
              have H8 := Lib.hid h8
              clear h8
              refine (ref_Same _ v7 v8 _ _ H7.out H8.out (by simp) (by simp)).mono ?_
              rintro _ w9 ⟨r9, rfl, g9, h9⟩
              have G := Lib.hid (G.out.trans g9)
              have H7 := Lib.hid (H7.out.grow g9)
              have H8 := Lib.hid (H8.out.grow g9)
              clear g9
              have H9 := Lib.hid h9
              clear h9
              obtain ⟨t, rfl, ht⟩ := H9.out
              obtain rfl : t = true := ht.2 rfl
              clear H9 ht H8
              go_wp2_with fail
              go_ret
              exact ⟨_, rfl, G.out, rfl⟩
end Go.Proofs.YtakcolmgbahgiaaDoor

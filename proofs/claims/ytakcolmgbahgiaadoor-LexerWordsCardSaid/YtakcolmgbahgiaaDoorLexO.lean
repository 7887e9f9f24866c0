/-
  lexer.Line, exodusref16.Line, exodusref15.IsName, lexer.Format.
-/
import Derived.Test.YtakcolmgbahgiaaDoorLexN
import Derived.Test.YtakcolmgbahgiaaDoorBld
namespace Go.Proofs.YtakcolmgbahgiaaDoor
open Go.RowKit Go.Lib Lex
set_option linter.unusedVariables false
set_option linter.unusedSimpArgs false

def lineV (b : List UInt8) : Value := .tuple #[.int .i64 ((lineL b).1 : Nat), .int .i64 ((lineL b).2 : Nat)]

set_option maxRecDepth 100000 in
set_option maxHeartbeats 1600000 in
theorem lex_Line (w : World) (bs : List UInt8) (off : Int) (m : Nat) (hm : min (max off 0) (bs.length : Int) = (m : Int)) (hl : bs.length ≤ 1000000000) :
    Calls Tryd.prog 13 #[.string ⟨bs.toArray⟩, .int .i64 off] w (Ret w fun r _ => r = lineV (bs.take m)) := by
  have hmb : m ≤ bs.length := by omega
  obtain ⟨t, ht⟩ : ∃ t, bs.take m = t := ⟨_, rfl⟩
  have htl : t.length = m := by rw [← ht, List.length_take]; omega
  have hex : (⟨bs.toArray⟩ : ByteArray).extract 0 m = ⟨t.toArray⟩ := slice_str bs 0 m t (by simpa using ht) (by omega) hmb
  rw [ht]
  have G := Lib.hid (Gr.refl w)
  have Hm := Lib.hid hm
  obtain ⟨c1, hc1⟩ : ∃ c, Lib.countByte t 10 = c := ⟨_, rfl⟩
  obtain ⟨q, hq⟩ : ∃ q, Lib.lastIndexByte ⟨t.toArray⟩ 10 = q := ⟨_, rfl⟩
  have H1 := Lib.hid (show (lineL t).1 = 1 + c1 by rw [lineL_count _ t rfl, ← hc1]; rfl)
  have H2 := Lib.hid (show ((lineL t).2 : Int) = (t.length : Int) - q by
    have := lineL_last ⟨t.toArray⟩ t.length (Nat.le_refl _)
    rw [← hq]
    unfold Lib.lastIndexByte
    rw [show (⟨t.toArray⟩ : ByteArray).size = t.length by simp [ByteArray.size]]
    simpa using this)
  have hcl : c1 ≤ 1000000000 := by
    rw [← hc1]
    have : t.count 10 ≤ t.length := List.count_le_length
    unfold Lib.countByte
    omega
  have hql : -1 ≤ q ∧ q < 1000000000 := by
    have h1 := H2.out
    have h2 : 1 ≤ (lineL t).2 := by
      rcases List.eq_nil_or_concat t with e | ⟨c, x, e⟩
      · rw [e]; decide
      · rw [e, List.concat_eq_append, lineL_snoc]; split <;> simp
    have h3 : (lineL t).2 ≤ t.length + 1 := by
      have key : ∀ (l : List UInt8) (a b : Nat), (l.foldl (fun q x => if x == 10 then (q.1 + 1, 1) else (q.1, q.2 + 1)) (a, b)).2 ≤ l.length + max b 1 := by
        intro l
        induction l with
        | nil => intro a b; simp; omega
        | cons x l ih =>
          intro a b
          simp only [List.foldl_cons, List.length_cons]
          split
          · have := ih (a + 1) 1; omega
          · have := ih a (b + 1); omega
      exact key t 1 1
    omega
  have hcnt := Tryd.strings_Count_one ⟨t.toArray⟩ 10
  rw [show (⟨t.toArray⟩ : ByteArray).data.toList = t by simp, hc1] at hcnt
  have hlst := Tryd.strings_LastIndexByte ⟨t.toArray⟩ 10 (by rw [show (⟨t.toArray⟩ : ByteArray).size = t.length by simp [ByteArray.size]]; omega)
  rw [hq] at hlst
  have HC := Lib.hid hcnt
  have HL := Lib.hid hlst
  clear ht hq hc1 hcnt hlst
  go_enter Tryd.func13, Tryd.ntmps13
  go_wp2_with fail
  refine (HC.out _).mono ?_
  rintro _ _ ⟨rfl, rfl⟩
  go_wp2_with fail
  refine (HL.out _).mono ?_
  rintro _ _ ⟨rfl, rfl⟩
  go_wp2_with fail
  go_ret2
  refine ⟨_, rfl, G.out, ?_⟩
  unfold lineV
  rw [H2.out, H1.out, htl, Int.natCast_add]
  rfl

theorem lineL_le (b : List UInt8) : (lineL b).1 ≤ b.length + 1 ∧ (lineL b).2 ≤ b.length + 1 := by
  have key : ∀ (n : Nat) (b : List UInt8), b.length = n → (lineL b).1 ≤ b.length + 1 ∧ (lineL b).2 ≤ b.length + 1 := by
    intro n
    induction n with
    | zero => intro b h; rw [List.eq_nil_of_length_eq_zero h]; decide
    | succ n ih =>
      intro b h
      obtain ⟨c, x, rfl⟩ : ∃ c x, b = c ++ [x] := ⟨b.dropLast, b.getLast (by intro e; rw [e] at h; simp at h), (List.dropLast_concat_getLast _).symm⟩
      have := ih c (by simp at h; exact h)
      rw [lineL_snoc, List.length_append, List.length_singleton]
      split <;> (constructor <;> simp <;> omega)
  exact key _ b rfl

set_option maxRecDepth 100000 in
set_option maxHeartbeats 1600000 in
theorem ref_Line (w : World) (bs : List UInt8) (off : Int) (m : Nat) (hm : min (max off 0) (bs.length : Int) = (m : Int)) (hl : bs.length ≤ 1000000000) :
    Calls Tryd.prog 14 #[.string ⟨bs.toArray⟩, .int .i64 off] w (Ret w fun r _ => r = lineV (bs.take m)) := by
  have hmb : m ≤ bs.length := by omega
  have G := Lib.hid (Gr.refl w)
  go_enter Tryd.func14, Tryd.ntmps14
  go_wp2_with fail
  go_loopw [6, 7, 8] (fun x y i w1 => ∃ k : Nat, i = .int .i64 k ∧ k ≤ m ∧ x = .int .i64 ((lineL (bs.take k)).1 : Nat) ∧ y = .int .i64 ((lineL (bs.take k)).2 : Nat) ∧ Gr w w1) (fun _ _ i _ => m - (RowKit.intOf i).toNat)
  case atStart => exact ⟨0, rfl, Nat.zero_le _, rfl, rfl, G.out⟩
  case round =>
    clear G
    obtain ⟨k, rfl, hk, rfl, rfl, hg⟩ := hrel
    have G := Lib.hid hg
    clear hg
    have hbd := lineL_le (bs.take k)
    rw [List.length_take] at hbd
    obtain ⟨a, b, hab⟩ : ∃ a b, lineL (bs.take k) = (a, b) := ⟨_, _, rfl⟩
    rw [hab] at hbd ⊢
    simp only at hbd ⊢
    obtain ⟨ha, hb⟩ := hbd
    have HAB := Lib.hid hab
    clear hab
    have ha' : a ≤ 1000000001 := by omega
    have hb' : b ≤ 1000000001 := by omega
    clear ha hb
    by_cases hlt : k < m
    · have hlt1 : (k : Int) < off := by omega
      have hlt2 : (k : Int) < (bs.length : Int) := by omega
      have hlt4 : k < bs.length := by omega
      have hlt3 : (k : Int) < min off (bs.length : Int) := by omega
      obtain ⟨c, hc⟩ : ∃ c, bs[k] = c := ⟨_, rfl⟩
      have hi : ∀ h, (⟨bs.toArray⟩ : ByteArray)[k]'h = c := fun h => by show bs.toArray[k] = _; simp [hc]
      have HS := Lib.hid (show lineL (bs.take (k + 1)) = if c == 10 then (a + 1, 1) else (a, b + 1) by
        rw [List.take_succ_eq_append_getElem hlt4, hc, lineL_snoc, HAB.out])
      clear hc
      by_cases h10 : c = 10
      · subst h10
        go_wp2_with fail
        refine ⟨⟨k + 1, by go_num, by omega, by rw [HS.out]; rfl, by rw [HS.out]; rfl, G.out⟩, by simp [RowKit.intOf]; omega⟩
      · have e10 := u8_beq (n := 10) 10 rfl h10
        have f10 := u8_ne (n := 10) 10 rfl h10
        have h10' : (c == 10) = false := by simpa using h10
        rw [h10'] at HS
        go_wp2_with fail
        refine ⟨⟨k + 1, by go_num, by omega, by rw [HS.out]; rfl, by rw [HS.out]; rfl, G.out⟩, by simp [RowKit.intOf]; omega⟩
    · obtain rfl : k = m := by omega
      have hlt3 : ¬ (k : Int) < min off (bs.length : Int) := by omega
      have hlt5 : min off (bs.length : Int) ≤ (k : Int) := by omega
      go_wp2_with fail
      go_ret2
      exact ⟨_, rfl, G.out, by unfold lineV; rw [HAB.out]; rfl⟩

theorem bld_grow {T e : TypeId} {B b : Nat} {bs : List Value} {w w' : World} (h : Lib.IsBuilder T e B b bs w) (g : Gr w w') : Lib.IsBuilder T e B b bs w' := by
  have key : ∀ p, Lib.BuilderAt T e B b p bs w → Lib.BuilderAt T e B b p bs w' := fun p h => by
    have hlt := h.lt
    obtain ⟨hB, v, hb, hown, hne⟩ := h
    exact ⟨hB, v, by rw [Below.block g b hlt]; exact hb, own_grow hown g, hne⟩
  rcases h with h | h
  · exact .inl (key _ h)
  · exact .inr (key _ h)
theorem byteCells_app (a b : List UInt8) : Lib.byteCells (a ++ b) = Lib.byteCells a ++ Lib.byteCells b := by simp [Lib.byteCells]
theorem fmt_cons (first : Bool) (t : Tok) (l : List Tok) : fmtL first (t :: l) = if t.kind = 0 then fmtL first l else (if first || glued t.text then [] else [32]) ++ (t.text ++ fmtL false l) := rfl
set_option maxRecDepth 100000 in
set_option maxHeartbeats 1600000 in
theorem lex_Format (w : World) (v : Value) (l : List Tok) (hv : TokS w v l) (hl : l.length ≤ 1000000) (hb : (fmtL true l).length ≤ 1000000000) :
    Calls Tryd.prog 16 #[v] w (Ret w fun r _ => r = .string ⟨(fmtL true l).toArray⟩) := by
  obtain ⟨p, c, rfl, hc1, hc2⟩ := SlV.parts hv
  obtain ⟨n, hn⟩ : ∃ n, l.length = n := ⟨_, rfl⟩
  have HN := Lib.hid hn
  rw [hn] at hl hv hc1 ⊢
  have HV := Lib.hid hv
  obtain ⟨F, hF⟩ : ∃ F, fmtL true l = F := ⟨_, rfl⟩
  rw [hF] at hb ⊢
  have HF := Lib.hid hF
  have hB := Lib.fresh_isBuilder 52 5 w
  have G := Lib.hid (show Gr w (w.alloc (.cells #[.pointer none, .slice none 0 0] 52)) from (Gr.refl w).alloc _)
  clear hn hv hF
  have Hb3 := Lib.hid (show ¬ w.heap.size < w.heap.size by omega)
  go_enter Tryd.func16, Tryd.ntmps16
  go_wp2_with fail
  obtain ⟨b3, hb3⟩ : ∃ b3, w.heap.size = b3 := ⟨_, rfl⟩
  have HB := Lib.hid (show Lib.IsBuilder 52 5 w.heap.size b3 (Lib.byteCells []) (w.alloc (.cells #[.pointer none, .slice none 0 0] 52)) by rw [← hb3]; exact hB)
  clear hB
  have H3 := Lib.hid hb3
  rw [hb3]
  clear hb3
  generalize w.alloc _ = W at G HB ⊢
  go_loopw [4, 9] (fun fb i w1 => ∃ (k : Nat) (first : Bool) (done : List UInt8), fb = .bool first ∧ i = .int .i64 k ∧ k ≤ n ∧ F = done ++ fmtL first (l.drop k) ∧ Lib.IsBuilder 52 5 w.heap.size b3 (Lib.byteCells done) w1 ∧ Gr w w1) (fun _ i _ => n - (RowKit.intOf i).toNat)
  case atStart => exact ⟨0, true, [], rfl, rfl, Nat.zero_le _, by rw [← HF.out]; rfl, HB.out, G.out⟩
  case round =>
    clear G HB
    obtain ⟨k, first, done, rfl, rfl, hk, hf, hB, hg⟩ := hrel
    have HFF := Lib.hid hf
    have HB := Lib.hid hB
    have G := Lib.hid hg
    clear hf hB hg
    by_cases hlt : k < n
    · have hlt' : (k : Int) < (n : Int) := by omega
      obtain ⟨b, o, t, rfl, ht, c0, c1, c2, c3⟩ := HV.out.at HN.out hlt
      have c0 := G.out.cell c0
      have c1 := G.out.cell c1
      have c2 := G.out.cell c2
      have c3 := G.out.cell c3
      have HD := Lib.hid (show F = done ++ fmtL first (t :: l.drop (k + 1)) by
        rw [HFF.out]
        congr 2
        rw [List.drop_eq_getElem_cons (by rw [HN.out]; exact hlt)]
        congr 1
        rw [List.getElem?_eq_getElem (by rw [HN.out]; exact hlt)] at ht
        simpa using ht)
      clear ht
      have B := box4 wr (.int .i64 (t.kind : Nat)) (.string ⟨t.text.toArray⟩) (.int .i64 (t.num : Nat)) (.int .i64 (t.pos : Nat)) 33
      have h6 := heap_alloc_new wr (.cells #[.int .i64 (t.kind : Nat), .string ⟨t.text.toArray⟩, .int .i64 (t.num : Nat), .int .i64 (t.pos : Nat)] 33)
      have Hne := Lib.hid (show wr.heap.size ≠ b3 from fun e => by
        rcases HB.out with h | h <;> (have := h.lt; omega))
      by_cases hk0 : t.kind = 0
      · have hk0' : (t.kind : Int) = 0 := by omega
        go_wp2_with fail
        clear h6
        refine ⟨⟨k + 1, first, done, rfl, by go_num, by omega, ?_, bld_grow HB.out ((Gr.refl wr).alloc _), G.out.trans ((Gr.refl wr).alloc _)⟩, by simp [RowKit.intOf]; omega⟩
        rw [HD.out, fmt_cons, if_pos hk0]
      · have hk0' : ¬ (t.kind : Int) = 0 := by omega
        have hk0b : ((t.kind : Int) == 0) = false := by simpa using hk0
        obtain ⟨g, hgl⟩ : ∃ g, glued t.text = g := ⟨_, rfl⟩
        have HD2 := Lib.hid (show F = done ++ ((if first || g then [] else [32]) ++ (t.text ++ fmtL false (l.drop (k + 1)))) by
          rw [HD.out, fmt_cons, if_neg hk0, hgl])
        have HLen := Lib.hid (show done.length + (if first || g then [] else [32] : List UInt8).length + t.text.length ≤ 1000000000 by
          have := congrArg List.length HD2.out
          simp only [List.length_append] at this
          omega)
        cases first
        · by_cases h59 : t.text = [59]
          · obtain rfl : true = g := by rw [← hgl, h59]; rfl
            clear hgl
            rw [h59] at c1 B h6 HD2 HLen
            go_wp2_with fail
            generalize hb6 : wr.heap.size = b6 at B h6 Hne ⊢
            generalize wr.alloc _ = w4 at B h6 ⊢
            have HB := Lib.hid (bld_grow HB.out B.1)
            have G := Lib.hid (G.out.trans B.1)
            have T6 := Lib.hid B.2
            have H6 := Lib.hid h6
            clear B h6 hb6
            refine (bld_WriteString w.heap.size b3 _ ⟨[59].toArray⟩ _ HB.out (by
              have := HLen.out
              have e : (⟨[59].toArray⟩ : ByteArray).size = [59].length := by simp [ByteArray.size]
              rw [Lib.byteCells_length, e]
              simp at this ⊢; omega) G.out.size).mono ?_
            rintro _ w9 ⟨rfl, h9, g9, -⟩
            have G' := Lib.hid (Below.trans G.out g9)
            have HB' := Lib.hid (Or.inr h9 : Lib.IsBuilder 52 5 w.heap.size b3 _ w9)
            clear h9 g9
            go_wp2_with fail
            refine ⟨⟨k + 1, false, done ++ [59], rfl, by go_num, by omega, ?_, ?_, G'.out⟩, by simp [RowKit.intOf]; omega⟩
            · rw [HD2.out]; simp
            · rw [byteCells_app]; exact HB'.out
          · by_cases h44 : t.text = [44]
            · obtain rfl : true = g := by rw [← hgl, h44]; rfl
              clear hgl
              rw [h44] at c1 B h6 HD2 HLen
              go_wp2_with fail
              generalize hb6 : wr.heap.size = b6 at B h6 Hne ⊢
              generalize wr.alloc _ = w4 at B h6 ⊢
              have HB := Lib.hid (bld_grow HB.out B.1)
              have G := Lib.hid (G.out.trans B.1)
              have T6 := Lib.hid B.2
              have H6 := Lib.hid h6
              clear B h6 hb6
              refine (bld_WriteString w.heap.size b3 _ ⟨[44].toArray⟩ _ HB.out (by
                have := HLen.out
                have e : (⟨[44].toArray⟩ : ByteArray).size = [44].length := by simp [ByteArray.size]
                rw [Lib.byteCells_length, e]
                simp at this ⊢; omega) G.out.size).mono ?_
              rintro _ w9 ⟨rfl, h9, g9, -⟩
              have G' := Lib.hid (Below.trans G.out g9)
              have HB' := Lib.hid (Or.inr h9 : Lib.IsBuilder 52 5 w.heap.size b3 _ w9)
              clear h9 g9
              go_wp2_with fail
              refine ⟨⟨k + 1, false, done ++ [44], rfl, by go_num, by omega, ?_, ?_, G'.out⟩, by simp [RowKit.intOf]; omega⟩
              · rw [HD2.out]; simp
              · rw [byteCells_app]; exact HB'.out
            · obtain rfl : false = g := by rw [← hgl]; unfold glued; simp [h59, h44]
              clear hgl
              have e59 : (t.text == [59]) = false := str_beq h59
              have e44 : (t.text == [44]) = false := str_beq h44
              go_wp2_with fail
              generalize hb6 : wr.heap.size = b6 at B h6 Hne ⊢
              generalize wr.alloc _ = w4 at B h6 ⊢
              have HB := Lib.hid (bld_grow HB.out B.1)
              have G := Lib.hid (G.out.trans B.1)
              have T6 := Lib.hid B.2
              have H6 := Lib.hid h6
              clear B h6 hb6
              refine (bld_WriteByte w.heap.size b3 _ 32 _ HB.out (by have := HLen.out; rw [Lib.byteCells_length]; omega) G.out.size).mono ?_
              rintro _ w5 ⟨rfl, h5, g5, o5⟩
              have t6 := o5 b6 _ H6.out (fun e => Hne.out (by injection e)) (fun c fz e => by injection e with _ e _; exact absurd e (by decide))
              have c1' : w5.cell? ⟨b6, 1, none⟩ = some (.string ⟨t.text.toArray⟩) := by simp [World.cell?, t6]
              have G := Lib.hid (Below.trans G.out g5)
              have HB := Lib.hid (show Lib.IsBuilder 52 5 w.heap.size b3 (Lib.byteCells (done ++ [32])) w5 from Or.inr (by rw [byteCells_app]; exact h5))
              clear t6 h5 g5 o5
              go_wp2_with fail
              refine (bld_WriteString w.heap.size b3 _ ⟨t.text.toArray⟩ _ HB.out (by
                have := HLen.out
                have e : (⟨t.text.toArray⟩ : ByteArray).size = t.text.length := by simp [ByteArray.size]
                rw [Lib.byteCells_length, e]
                simp at this ⊢; omega) G.out.size).mono ?_
              rintro _ w9 ⟨rfl, h9, g9, -⟩
              have G' := Lib.hid (Below.trans G.out g9)
              have HB' := Lib.hid (Or.inr h9 : Lib.IsBuilder 52 5 w.heap.size b3 _ w9)
              clear h9 g9
              go_wp2_with fail
              refine ⟨⟨k + 1, false, (done ++ [32]) ++ t.text, rfl, by go_num, by omega, ?_, ?_, G'.out⟩, by simp [RowKit.intOf]; omega⟩
              · rw [HD2.out]; simp
              · rw [byteCells_app]; exact HB'.out
        · clear hgl
          go_wp2_with fail
          generalize hb6 : wr.heap.size = b6 at B h6 Hne ⊢
          generalize wr.alloc _ = w4 at B h6 ⊢
          have HB := Lib.hid (bld_grow HB.out B.1)
          have G := Lib.hid (G.out.trans B.1)
          have T6 := Lib.hid B.2
          have H6 := Lib.hid h6
          clear B h6 hb6
          refine (bld_WriteString w.heap.size b3 _ ⟨t.text.toArray⟩ _ HB.out (by
            have := HLen.out
            have e : (⟨t.text.toArray⟩ : ByteArray).size = t.text.length := by simp [ByteArray.size]
            rw [Lib.byteCells_length, e]
            simp at this ⊢; omega) G.out.size).mono ?_
          rintro _ w9 ⟨rfl, h9, g9, -⟩
          have G' := Lib.hid (Below.trans G.out g9)
          have HB' := Lib.hid (Or.inr h9 : Lib.IsBuilder 52 5 w.heap.size b3 _ w9)
          clear h9 g9
          go_wp2_with fail
          refine ⟨⟨k + 1, false, done ++ t.text, rfl, by go_num, by omega, ?_, ?_, G'.out⟩, by simp [RowKit.intOf]; omega⟩
          · rw [HD2.out]; simp
          · rw [byteCells_app]; exact HB'.out
    · obtain rfl : n = k := by omega
      have HE := Lib.hid (show F = done by
        rw [HFF.out, List.drop_of_length_le (by rw [HN.out]; exact Nat.le_refl _)]
        simp [fmtL])
      go_wp2_with fail
      refine (Tryd.Builder_String_any w.heap.size b3 done _ HB.out G.out.size).mono ?_
      rintro _ w9 ⟨rfl, g9⟩
      go_wp2_with fail
      go_ret
      exact ⟨_, rfl, Below.trans G.out g9, by rw [HE.out]; rfl⟩
end Go.Proofs.YtakcolmgbahgiaaDoor

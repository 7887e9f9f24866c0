/-
  Rows of tokens; lexer.Scan.
-/
import Derived.Test.YtakcolmgbahgiaaDoorLexI
import Derived.Test.YtakcolmgbahgiaaDoorSlc
namespace Go.Proofs.YtakcolmgbahgiaaDoor
open Go.RowKit Go.Lib Lex
set_option linter.unusedVariables false
set_option linter.unusedSimpArgs false

def cellsT (t : Tok) : List Value := [.int .i64 (t.kind : Nat), .string ⟨t.text.toArray⟩, .int .i64 (t.num : Nat), .int .i64 (t.pos : Nat)]
def rowT (l : List Tok) : List Value := l.flatMap cellsT
theorem rowT_len : ∀ l : List Tok, (rowT l).length = l.length * 4
  | [] => rfl
  | t :: l => by
    have ih := rowT_len l
    unfold rowT at ih ⊢
    rw [List.flatMap_cons, List.length_append, ih, List.length_cons]; simp [cellsT]; omega
theorem rowT_get : ∀ (l : List Tok) (i : Nat) (t : Tok) (j : Nat), l[i]? = some t → j < 4 → (rowT l)[4 * i + j]? = (cellsT t)[j]?
  | [], i, t, j, h, _ => by simp at h
  | x :: l, 0, t, j, h, hj => by
    simp at h; subst h
    show (cellsT x ++ rowT l)[4 * 0 + j]? = _
    rw [List.getElem?_append_left (by show 4 * 0 + j < 4; omega)]
    simp
  | x :: l, i + 1, t, j, h, hj => by
    have ih := rowT_get l i t j (by simpa using h) hj
    show (cellsT x ++ rowT l)[4 * (i + 1) + j]? = _
    rw [List.getElem?_append_right (by show 4 ≤ _; omega), ← ih]
    congr 1
    show 4 * (i + 1) + j - 4 = _
    omega
theorem rowT_one (l : List Tok) : ∀ u ∈ rowT l, u.oneCell' = true := fun u hu => by
  unfold rowT at hu
  obtain ⟨t, _, ht⟩ := List.mem_flatMap.1 hu
  simp [cellsT] at ht
  rcases ht with rfl | rfl | rfl | rfl <;> rfl
theorem rowT_app (l m : List Tok) : rowT (l ++ m) = rowT l ++ rowT m := by unfold rowT; rw [List.flatMap_append]
def OwnT (w : World) (base : Nat) (v : Value) (l : List Tok) : Prop := w.ownsRow base 33 4 v l.length (rowT l)
def TokS (w : World) (v : Value) (l : List Tok) : Prop := SlV w 4 v l.length (rowT l)
theorem TokS.grow {w w' : World} {v : Value} {l : List Tok} (h : TokS w v l) (g : Gr w w') : TokS w' v l := SlV.grow h g
theorem OwnT.read {w : World} {base : Nat} {v : Value} {l : List Tok} (h : OwnT w base v l) : TokS w v l := SlV.of_own h
theorem OwnT.grow {w w' : World} {base : Nat} {v : Value} {l : List Tok} (h : OwnT w base v l) (g : Gr w w') : OwnT w' base v l := own_grow h g
theorem Four.grown {w w' : World} {b : Nat} {x y z s : Value} {row : Option Nat} (h : Four w b x y z s) (g : w.grownBy w' row) (hne : some b ≠ row) : Four w' b x y z s := by
  have hl := h.lt
  obtain ⟨t, h⟩ := h; exact ⟨t, by rw [g.block b hl hne]; exact h⟩
theorem box44 (w : World) (x y z s x' y' z' s' : Value) (t t' : TypeId) : Gr w ((w.alloc (.cells #[x, y, z, s] t)).alloc (.cells #[x', y', z', s'] t')) ∧ Four ((w.alloc (.cells #[x, y, z, s] t)).alloc (.cells #[x', y', z', s'] t')) w.heap.size x y z s ∧ Four ((w.alloc (.cells #[x, y, z, s] t)).alloc (.cells #[x', y', z', s'] t')) (w.heap.size + 1) x' y' z' s' := by
  obtain ⟨g, h⟩ := box4 w x y z s t
  obtain ⟨g', h'⟩ := box4 (w.alloc (.cells #[x, y, z, s] t)) x' y' z' s' t'
  rw [World.size_alloc] at h'
  exact ⟨g.trans g', h.grow g', h'⟩
theorem own_ne {w : World} {base : Nat} {v : Value} {l : List Tok} (h : OwnT w base v l) : some w.heap.size ≠ v.ownBlock := fun e => by
  have := (h.lt _ e.symm).2; omega
theorem info_tok : (Tryd.prog.info? 33).map (fun i => (i.zero, i.size, i.bytes)) = some (some (.agg #[.int .i64 0, .string ⟨#[]⟩, .int .i64 0, .int .i64 0]), 4, 40) := by kernel_rfl
section
variable {ops : Array Oper} {rest : List Oper} {o : Oper} {a : Act} {Q : Exit → Act → World → Prop} {w : World}
/-- append(s, x...) of one token, s the call's own -/
theorem wpList_appendT (hgd : o.guard = none) (s x : Operand) (ho : o.op = .call { callee := .builtin .append, args := #[s, x], argTypes := #[23, 23] })
    (base : Nat) (v : Value) (l : List Tok) (m : Tok) (b c : Nat) (hs : a.eval s = v) (hown : OwnT w base v l) (hx : a.eval x = .slice (some ⟨b, 0, none⟩) 1 c) (hm : Four w b (.int .i64 (m.kind : Nat)) (.string ⟨m.text.toArray⟩) (.int .i64 (m.num : Nat)) (.int .i64 (m.pos : Nat)))
    (hlen : l.length + 1 ≤ 1000000000) (hbase : base ≤ w.heap.size)
    (h : ∀ v' w', OwnT w' base v' (l ++ [m]) → w.grownBy w' v.ownBlock → wpList Tryd.prog ops Q rest (a.put o.dst v') w') : wpList Tryd.prog ops Q (o :: rest) a w := by
  obtain ⟨i0, hi, hz0, hz1, hz2⟩ := info_parts info_tok
  refine wpList_append_own _ hgd s x 23 ho base 33 i0 _ 4 40 Tryd.underlying23 hi hz0 hz1 hz2 rfl (by omega) v l.length (rowT l) hs hown ⟨b, 0, none⟩ 1 c (rowT [m]) hx
    (by rw [rowT_len]; rfl) (fun j u hu => ?_) (rowT_one _) (by unfold maxLen; omega) (by omega) hbase (fun v' w' hown' hg _ => ?_)
  · have hj : j < 4 := by
      have := (List.getElem?_eq_some_iff.1 hu).1
      rw [rowT_len] at this; simpa using this
    have e : rowT [m] = cellsT m := by simp [rowT]
    rw [e] at hu
    rw [addr_add0, Nat.zero_add]
    have hl := hm.load
    match j, hj with
    | 0, _ => simp [cellsT] at hu; subst hu; exact hl.1
    | 1, _ => simp [cellsT] at hu; subst hu; exact hl.2.1
    | 2, _ => simp [cellsT] at hu; subst hu; exact hl.2.2.1
    | 3, _ => simp [cellsT] at hu; subst hu; exact hl.2.2.2
  · refine h v' w' ?_ hg
    unfold OwnT
    rw [rowT_app, List.length_append]
    exact hown'
end

/-- the answer of a whole scan -/
def scanX (bs : List UInt8) : Except (Nat × Nat) (List Tok) := if 16384 < bs.length then .error (0, 8) else scan 0 bs
def ScanRes (bs : List UInt8) (r : Value) (w' : World) : Prop := match scanX bs with
  | .error (p, e) => r = .tuple #[.slice none 0 0, .int .i64 (p : Nat), .int .i64 (e : Nat)]
  | .ok l => ∃ v, r = .tuple #[v, .int .i64 0, .int .i64 0] ∧ TokS w' v l
/-- l has been read, k is the next place (behind blanks) -/
def ScanAt (bs : List UInt8) (k : Nat) (l : List Tok) : Prop := k ≤ bs.length ∧ skipL false (bs.drop k) = 0 ∧ l.length ≤ k ∧ scan 0 bs = match scan k (bs.drop k) with
  | .error x => .error x
  | .ok m => .ok (l ++ m)
theorem skip_zero (bs : List UInt8) : skipL false (bs.drop (skipL false bs)) = 0 := by
  cases h : bs.drop (skipL false bs) with
  | nil => rfl
  | cons b r =>
    obtain ⟨a, e1, e2, e3, e4, e5⟩ := skip_stop h
    show (if b == 35 then skipL true r + 1 else if isBl b then skipL false r + 1 else 0) = 0
    rw [e5, e4]; rfl
theorem scan_skip (p : Nat) (bs : List UInt8) : scan p bs = scan (p + skipL false bs) (bs.drop (skipL false bs)) := by
  rw [scan_eq p bs, scan_eq (p + skipL false bs) (bs.drop (skipL false bs)), skip_zero]
  simp
theorem ScanAt.start (bs : List UInt8) : ScanAt bs (skipL false bs) [] := by
  refine ⟨skipL_le _ _, skip_zero bs, Nat.zero_le _, ?_⟩
  have := scan_skip 0 bs
  rw [Nat.zero_add] at this
  rw [this]
  cases scan (skipL false bs) (bs.drop (skipL false bs)) <;> rfl
theorem ScanAt.stop {bs : List UInt8} {k : Nat} {l : List Tok} (h : ScanAt bs k l) (hk : k = bs.length) : scan 0 bs = .ok (l ++ [⟨0, [], 0, bs.length⟩]) := by
  obtain ⟨h1, h2, h3, h4⟩ := h
  rw [h4, hk, List.drop_length, scan_eq]
  rfl
theorem ScanAt.err {bs : List UInt8} {k e : Nat} {l : List Tok} (h : ScanAt bs k l) (ht : tokL (bs.drop k) = .error e) (hk : k < bs.length) : scan 0 bs = .error (k, e) := by
  obtain ⟨h1, h2, h3, h4⟩ := h
  rw [h4, scan_eq, h2, List.drop_zero]
  cases hd : bs.drop k with
  | nil => have := congrArg List.length hd; rw [List.length_drop] at this; simp at this; omega
  | cons b r => rw [hd] at ht; simp [ht]
theorem ScanAt.next {bs : List UInt8} {k n m : Nat} {l : List Tok} {t : Tok} (h : ScanAt bs k l) (ht : tokL (bs.drop k) = .ok t) (hn : k + t.text.length = n) (hm : n + skipL false (bs.drop n) = m) : ScanAt bs m (l ++ [⟨t.kind, t.text, t.num, k⟩]) ∧ k < m ∧ n ≤ bs.length := by
  obtain ⟨h1, h2, h3, h4⟩ := h
  obtain ⟨t1, t2⟩ := tokL_text ht
  have tl : t.text.length ≤ bs.length - k := by
    have := congrArg List.length t2
    rw [List.length_append, List.length_drop] at this
    omega
  have hs := skipL_le false (bs.drop n)
  rw [List.length_drop] at hs
  refine ⟨⟨by omega, ?_, by rw [List.length_append]; simp; omega, ?_⟩, by omega, by omega⟩
  · have := skip_zero (bs.drop n)
    rw [List.drop_drop, hm] at this
    exact this
  · rw [h4, scan_eq, h2, List.drop_zero]
    have hd2 : (bs.drop k).drop t.text.length = bs.drop n := by rw [List.drop_drop, hn]
    cases hd : bs.drop k with
    | nil => have := congrArg List.length hd; rw [List.length_drop] at this; simp at this; omega
    | cons b r =>
      rw [hd] at ht hd2
      simp only [ht, Nat.add_zero, hn, hd2]
      rw [scan_skip n, List.drop_drop, hm]
      cases scan m (bs.drop m) <;> simp
theorem tokL_err {bs : List UInt8} {e : Nat} (h : tokL bs = .error e) : e = 2 ∨ e = 3 ∨ e = 8 := by
  cases bs with
  | nil => simp [tokL] at h; omega
  | cons b r =>
    rw [tokL_eq] at h
    unfold wordR numR at h
    repeat' split at h
    all_goals (simp at h; try omega)

set_option maxRecDepth 100000 in
set_option maxHeartbeats 1600000 in
theorem lex_Scan (w : World) (ht : Tab w) (bs : List UInt8) (hl : bs.length ≤ 1000000000) :
    Calls Tryd.prog 10 #[.string ⟨bs.toArray⟩] w (Ret w fun r w' => ScanRes bs r w') := by
  have HT := Lib.hid ht
  clear ht
  have G := Lib.hid (Gr.refl w)
  by_cases hbig : 16384 < bs.length
  · have hbig' : (16384 : Int) < (bs.length : Int) := by omega
    go_enter Tryd.func10, Tryd.ntmps10
    go_wp2_with fail
    go_ret3
    exact ⟨_, rfl, G.out, by unfold ScanRes scanX; rw [if_pos hbig]; rfl⟩
  · have hbig' : ¬ (16384 : Int) < (bs.length : Int) := by omega
    go_enter Tryd.func10, Tryd.ntmps10
    go_wp2_with fail
    refine (lex_skip _ bs hl).mono ?_
    rintro _ w1 ⟨_, rfl, g1, rfl⟩
    have G := Lib.hid (G.out.trans g1)
    clear g1
    have hS := ScanAt.start bs
    obtain ⟨k0, hk0⟩ : ∃ k0, skipL false bs = k0 := ⟨_, rfl⟩
    rw [hk0] at hS ⊢
    have HS := Lib.hid hS
    clear hS hk0
    go_wp2_with fail
    go_loopw [5, 6] (fun v i w1 => ∃ (k : Nat) (l : List Tok), i = .int .i64 k ∧ ScanAt bs k l ∧ OwnT w1 w.heap.size v l ∧ Gr w w1) (fun _ i _ => bs.length - (RowKit.intOf i).toNat)
    case atStart => exact ⟨k0, [], rfl, HS.out, World.ownsRow_nil _ _ _ _, G.out⟩
    case round =>
      clear HS G
      obtain ⟨k, l, rfl, hs, ho, hg⟩ := hrel
      have HS := Lib.hid hs
      have HO := Lib.hid ho
      have G := Lib.hid hg
      have hk := hs.1
      have hll := hs.2.2.1
      clear hs ho hg
      by_cases hlt : k < bs.length
      · have hlt' : (k : Int) < (bs.length : Int) := by omega
        have hd := drop_str bs k
        obtain ⟨b, r, hbr⟩ : ∃ b r, bs.drop k = b :: r := ⟨_, _, List.drop_eq_getElem_cons hlt⟩
        have HBR := Lib.hid hbr
        clear hbr
        go_wp2_with fail
        refine (lex_token _ (HT.out.grow G.out) b r (bs.drop k) HBR.out (by rw [List.length_drop]; omega)).mono ?_
        rintro _ w1 ⟨_, rfl, g1, rfl⟩
        have G := Lib.hid (G.out.trans g1)
        have HO := Lib.hid (HO.out.grow g1)
        clear g1
        clear hd
        cases htk : tokL (bs.drop k) with
        | error e =>
          have hne : e ≠ 0 := by have := tokL_err htk; omega
          have hne' : ¬ (e : Int) = 0 := by omega
          have HE := Lib.hid (HS.out.err htk hlt)
          clear htk
          simp only [tokR, tokV, noTok]
          go_wp2_with fail
          go_ret3
          exact ⟨_, rfl, G.out.alloc _, by unfold ScanRes scanX; rw [if_neg hbig, HE.out]; rfl⟩
        | ok t =>
          have HTk := Lib.hid htk
          clear htk
          simp only [tokR, tokV]
          go_wp2_with (at_builtin; refine Hold.hold ?_)
          have Hn := Lib.hid (own_ne HO.out)
          have B := box44 w1 (.int .i64 (t.kind : Nat)) (.string ⟨t.text.toArray⟩) (.int .i64 (t.num : Nat)) (.int .i64 (k : Nat)) (.int .i64 (t.kind : Nat)) (.string ⟨t.text.toArray⟩) (.int .i64 (t.num : Nat)) (.int .i64 (k : Nat)) 33 33
          generalize w1.heap.size + 1 = b8 at B ⊢
          generalize w1.heap.size = b7 at B Hn ⊢
          generalize (w1.alloc _).alloc _ = w2 at B ⊢
          obtain ⟨g2, t7, t8⟩ := B
          have G := Lib.hid (G.out.trans g2)
          have HO := Lib.hid (HO.out.grow g2)
          clear g2
          have T7 := Lib.hid t7
          clear t7
          refine Hold.go ?_
          refine wpList_appendT rfl _ _ rfl w.heap.size _ l ⟨t.kind, t.text, t.num, k⟩ b8 1 rfl HO.out rfl t8 (by omega) G.out.size ?_
          intro v' w3 hown' hgrown
          have G' := own_gr G.out HO.out hgrown
          have t7 := T7.out.grown hgrown Hn.out
          clear HO T7 G t8 hgrown Hn
          have HO := Lib.hid hown'
          have G := Lib.hid G'
          have T7 := Lib.hid t7
          clear hown' G' t7
          obtain ⟨n, hn⟩ : ∃ n, k + t.text.length = n := ⟨_, rfl⟩
          obtain ⟨m, hm⟩ : ∃ m, n + skipL false (bs.drop n) = m := ⟨_, rfl⟩
          have HN := HS.out.next HTk.out hn hm
          have hnl := HN.2.2
          have hkm := HN.2.1
          have HN := Lib.hid HN.1
          have E1 : (k : Int) + (t.text.length : Int) = (n : Int) := by omega
          have hmb : m ≤ bs.length := HN.out.1
          clear hn
          have hd := drop_str bs n
          have T7_0 := T7.out.load.1
          have T7_1 := T7.out.load.2.1
          have T7_2 := T7.out.load.2.2.1
          have T7_3 := T7.out.load.2.2.2
          go_wp2_with fail
          refine (lex_skip _ (bs.drop n) (by rw [List.length_drop]; omega)).mono ?_
          rintro _ w4 ⟨_, rfl, g4, rfl⟩
          clear T7_0 T7_1 T7_2 T7_3
          have G := Lib.hid (G.out.trans g4)
          have T7 := Lib.hid (T7.out.grow g4)
          have HO := Lib.hid (HO.out.grow g4)
          clear g4
          clear hd
          obtain ⟨q, hq⟩ : ∃ q, skipL false (bs.drop n) = q := ⟨_, rfl⟩
          rw [hq] at hm ⊢
          have E2 : (n : Int) + (q : Int) = (m : Int) := by omega
          clear hq
          go_wp2_with fail
          refine ⟨⟨m, _, rfl, HN.out, HO.out, G.out⟩, by simp [RowKit.intOf]; omega⟩
      · obtain rfl : k = bs.length := by omega
        have HE := Lib.hid (HS.out.stop rfl)
        go_wp2_with (at_builtin; refine Hold.hold ?_)
        have B := box4 wr (.int .i64 0) (.string ⟨#[]⟩) (.int .i64 0) (.int .i64 (bs.length : Nat)) 33
        generalize wr.heap.size = b8 at B ⊢
        generalize wr.alloc _ = w2 at B ⊢
        obtain ⟨g2, t8⟩ := B
        have G := Lib.hid (G.out.trans g2)
        have HO := Lib.hid (HO.out.grow g2)
        clear g2
        refine Hold.go ?_
        refine wpList_appendT rfl _ _ rfl w.heap.size _ l ⟨0, [], 0, bs.length⟩ b8 1 rfl HO.out rfl t8 (by omega) G.out.size ?_
        intro v' w3 hown' hgrown
        have G' := own_gr G.out HO.out hgrown
        go_wp2_with fail
        go_ret3
        exact ⟨_, rfl, G', by unfold ScanRes scanX; rw [if_neg hbig, HE.out]; exact ⟨_, rfl, hown'.read⟩⟩
end Go.Proofs.YtakcolmgbahgiaaDoor

/-
  The program's numbers: from and to words, binary digits, validity.
  The program's division: by one digit; the shift.
  The program's division, continued: shift, estimate, reduce.
  The program's division, continued: reduce.
  The program's division: DivMod, the easy cases.
-/
import Derived.Test.YtmcgkglmlfbijaaGreatDoorLeaf
import Derived.Test.YtmcgkglmlfbijaaGreatDoorShelf
namespace Go.Proofs.YtmcgkglmlfbijaaGreatDoor
open Go.RowKit
set_option linter.unusedVariables false
set_option linter.unusedSimpArgs false

/-- a new block of two digits -/
theorem NatL.two (w : World) (e f : Int) (x y : Nat) (he : e = x) (hf : f = y) (hx : x < BB) (hy : y < BB) (t : TypeId) :
    NatL (w.alloc (.cells #[.int .u32 e, .int .u32 f] t)) (.slice (some ⟨w.heap.size, 0, none⟩) 2 2) [x, y] := by
  subst he hf
  refine ⟨Dig.cons hx (Dig.cons hy Dig.nil), _, 2, rfl, by simp, by omega, .inr ⟨w.heap.size, 0, rfl, fun i hi => ?_⟩⟩
  have : i = 0 ∨ i = 1 := by have : i < 2 := by simpa using hi
                             omega
  rcases this with rfl | rfl <;> simp [go_sem, gd]

theorem nval_two {n : Nat} (h : n < 18446744073709551616) : nval [n % BB, n / BB % BB] = n := by
  simp only [nval, BB_eq]; omega

set_option maxHeartbeats 400000 in
theorem nat_From (w : World) (n : Nat) (h : n < 18446744073709551616) :
    Calls Tryz.prog 64 #[.int .u64 n] w (Ret w fun r w' => NatL w' r (digs n)) := by
  have hn : n ≤ 18446744073709551615 := by omega
  have E1 := Lib.hid (show (n : Int) % 4294967296 = ((n % BB : Nat) : Int) by rw [BB_eq]; omega)
  have E2 := Lib.hid (show (n : Int) / 4294967296 = ((n / BB % BB : Nat) : Int) by rw [BB_eq]; omega)
  have HV := Lib.hid (nval_two h)
  clear h
  go_enter Tryz.func64, Tryz.ntmps64
  go_wp2_with fail
  refine (nat_fresh _ _ _ (NatL.two w _ _ _ _ E1.out E2.out (Nat.mod_lt _ BB_pos) (Nat.mod_lt _ BB_pos) _) (by simp)).mono ?_
  rintro _ w1 ⟨r, rfl, g, hr⟩
  rw [HV.out] at hr
  have Hr := Lib.hid hr
  clear hr
  go_wp2_with fail
  go_ret
  exact ⟨_, rfl, ((Gr.refl w).alloc _).trans g, Hr.out⟩

set_option maxHeartbeats 400000 in
theorem ref_From (w : World) (n : Nat) (h : n < 18446744073709551616) :
    Calls Tryz.prog 54 #[.int .u64 n] w (Ret w fun r w' => NatL w' r (digs n)) := by
  have hn : n ≤ 18446744073709551615 := by omega
  have E1 := Lib.hid (show (n : Int) % 4294967296 = ((n % BB : Nat) : Int) by rw [BB_eq]; omega)
  have E2 := Lib.hid (show (n : Int) / 4294967296 = ((n / BB % BB : Nat) : Int) by rw [BB_eq]; omega)
  have HV := Lib.hid (nval_two h)
  clear h
  go_enter Tryz.func54, Tryz.ntmps54
  go_wp2_with fail
  refine (ref_Trim _ _ _ (NatL.two w _ _ _ _ E1.out E2.out (Nat.mod_lt _ BB_pos) (Nat.mod_lt _ BB_pos) _) (by simp)).mono ?_
  rintro _ w1 ⟨r, rfl, g, hr⟩
  rw [trimL, HV.out] at hr
  have Hr := Lib.hid hr
  clear hr
  go_wp2_with fail
  go_ret
  exact ⟨_, rfl, ((Gr.refl w).alloc _).trans g, Hr.out⟩

theorem nval_of_length2 {l : List Nat} (h : l.length ≤ 2) : nval l = gd l 1 * BB + gd l 0 := by
  match l, h with
  | [], _ => simp [nval, gd]
  | [a], _ => simp [nval, gd]
  | [a, b], _ => simp [nval, gd]; rw [Nat.mul_comm, Nat.add_comm]

/-- the number of binary digits -/
def bitsN (n : Nat) : Nat := if n = 0 then 0 else 32 * ((digs n).length - 1) + Lib.bitLen (gd (digs n) ((digs n).length - 1))

theorem digs_last_pos {n : Nat} (h : n ≠ 0) : gd (digs n) ((digs n).length - 1) ≠ 0 := by
  have h1 : digs n ≠ [] := fun e => h (digs_eq_nil.1 e)
  have h2 := digs_getLast h1
  rw [List.getLast_eq_getElem] at h2
  rw [gd_get (by have := List.length_pos_iff.2 h1; omega)]
  exact h2

theorem bitLen_pos {x : Nat} (h : x ≠ 0) : 0 < Lib.bitLen x := by
  unfold Lib.bitLen
  simp only [Lib.bitLenAux, if_neg h]; omega
theorem bitLen_le32 {x : Nat} (h : x < BB) : Lib.bitLen x ≤ 32 := Lib.bitLen_le x 32 (by omega) (by rw [BB_eq] at h; omega)

theorem bitsN_zero : bitsN 0 = 0 := rfl
theorem bitsN_pos {n : Nat} (h : n ≠ 0) : 0 < bitsN n := by
  unfold bitsN; rw [if_neg h]
  have := bitLen_pos (digs_last_pos h)
  omega

set_option maxHeartbeats 400000 in
theorem nat_Bits (w : World) (v : Value) (l : List Nat) (h : NatL w v l) (hlen : l.length ≤ 17592186044416) :
    Calls Tryz.prog 96 #[v] w fun e w' => e = .returned (.int .i64 (bitsN (nval l))) ∧ w = w' := by
  have HA := Lib.hid h
  have HL := Lib.hid (trimL_length l h.dig)
  have HN : ∀ k, k = (digs (nval l)).length → k ≤ 17592186044416 := fun k hk => by rw [hk]; exact Nat.le_trans HL.out hlen
  clear h
  go_enter Tryz.func96, Tryz.ntmps96
  go_wp2_with fail
  refine (nat_trim _ _ l HA.out).mono ?_
  rintro _ _ ⟨⟨p, k, rfl, hr⟩, rfl⟩
  have hk : k = (digs (nval l)).length := hr.len.symm
  have hk2 := HN k hk
  have Hr := Lib.hid hr
  have Hk := Lib.hid hk
  clear hr HN
  by_cases h0 : k = 0
  · have hz : nval l = 0 := by
      rw [h0] at hk; exact digs_eq_nil.1 (List.eq_nil_of_length_eq_zero hk.symm)
    have Hz := Lib.hid (show bitsN (nval l) = 0 by rw [hz]; rfl)
    clear hz hk
    obtain rfl := h0
    go_wp2_with fail
    go_ret
    rw [Hz.out]
    exact ⟨rfl, rfl⟩
  · obtain ⟨b, o, rfl, hc⟩ := Hr.out.at (k - 1) (by rw [trimL, ← hk]; omega)
    have hd := Hr.out.dig.gd (k - 1)
    have hne : nval l ≠ 0 := fun e => by rw [e, digs_zero] at hk; simp at hk; omega
    have Hb := Lib.hid (show 32 * ((k : Int) - 1) + Lib.bitLen (gd (trimL l) (k - 1)) = bitsN (nval l) by
      unfold bitsN
      rw [if_neg hne, ← hk]
      show _ = ((32 * (k - 1) + Lib.bitLen (gd (trimL l) (k - 1)) : Nat) : Int)
      omega)
    have hb32 := bitLen_le32 hd
    rw [BB_eq] at hd
    clear hk hne
    obtain ⟨j, rfl⟩ : ∃ j, k = j + 1 := ⟨k - 1, by omega⟩
    rw [Nat.add_sub_cancel] at hc hd hb32 Hb
    have t1 : (((j + 1 : Nat) : Int) == 0) = false := by simp; omega
    go_wp2_with fail
    refine (Tryz.bits_Len32 _ _ (by omega) (by omega)).mono ?_
    rintro _ _ ⟨rfl, rfl⟩
    rw [Int.toNat_natCast]
    go_wp2_with fail
    go_ret
    rw [← Hb.out]
    exact ⟨ret_int (by omega), rfl⟩

set_option maxHeartbeats 400000 in
theorem ref_Valid (w : World) (v : Value) (l : List Nat) (h : NatL w v l) (hlen : l.length ≤ 17592186044416) :
    Calls Tryz.prog 55 #[v] w fun e w' => e = .returned (.bool (decide (trimL l = l))) ∧ w = w' := by
  have HA := Lib.hid h
  have HT := Lib.hid (trimL_eq_self_iff l h.dig)
  obtain ⟨p, c, rfl, h1, h2, h0⟩ := h.parts
  obtain ⟨n, hn⟩ : ∃ n, l.length = n := ⟨_, rfl⟩
  rw [hn] at h1 hlen ⊢
  rw [hn] at HA HT
  have Hn := Lib.hid hn
  clear hn h0 h
  by_cases h0 : n = 0
  · obtain rfl := h0
    have Hd := Lib.hid (show decide (trimL l = l) = true by simp; exact HT.out.2 (.inl (List.eq_nil_of_length_eq_zero Hn.out)))
    go_enter Tryz.func55, Tryz.ntmps55
    go_wp2_with fail
    go_ret
    rw [Hd.out]
    exact ⟨rfl, rfl⟩
  · obtain ⟨j, rfl⟩ : ∃ j, n = j + 1 := ⟨n - 1, by omega⟩
    obtain ⟨b, o, rfl, hc⟩ := HA.out.at j (by rw [Hn.out]; omega)
    rw [Nat.add_sub_cancel] at HT
    have t1 : (((j + 1 : Nat) : Int) == 0) = false := by simp; omega
    have Hd := Lib.hid (show decide (trimL l = l) = ((gd l j : Int) != 0) by
      rw [Bool.eq_iff_iff, decide_eq_true_iff, HT.out]
      have : l ≠ [] := fun e => by have := Hn.out; rw [e] at this; simp at this
      simp [this])
    go_enter Tryz.func55, Tryz.ntmps55
    go_wp2_with fail
    go_ret
    rw [Hd.out]
    exact ⟨rfl, rfl⟩
end Go.Proofs.YtmcgkglmlfbijaaGreatDoor
namespace Go.Proofs.YtmcgkglmlfbijaaGreatDoor
open Go.RowKit
set_option linter.unusedVariables false
set_option linter.unusedSimpArgs false

theorem OwnN.row {w : World} {base : Nat} {v : Value} {l : List Nat} (h : OwnN w base v l) (hne : l ≠ []) :
    ∃ g cap rest, v = .slice (some ⟨g, 0, none⟩) l.length cap ∧ base ≤ g ∧ w.heap[g]? = some (.cells (cellsN l ++ rest).toArray 64 (0, 0)) ∧ l.length ≤ cap ∧ cap ≤ 9223372036854775807 := by
  obtain ⟨⟨h1, h2⟩, hd⟩ := h
  rcases h2 with ⟨_, h2⟩ | ⟨g, cap, cur, rfl, hb, hh, hn, hm, hs, ht⟩
  · exact absurd (List.eq_nil_of_length_eq_zero h2) hne
  · refine ⟨g, cap, cur.toList.drop l.length, rfl, hb, ?_, hn, by simpa [maxLen] using hm⟩
    rw [← ht, Nat.mul_one, List.take_append_drop]
    exact hh

/-- block g holds the digits l, and something behind them; it may be written -/
def RowX (w : World) (g : Nat) (l : List Nat) : Prop := (∃ rest, w.heap[g]? = some (.cells (cellsN l ++ rest).toArray 64 (0, 0))) ∧ Dig l

theorem RowX.dig {w : World} {g : Nat} {l : List Nat} (h : RowX w g l) : Dig l := h.2
theorem RowX.cell {w : World} {g : Nat} {l : List Nat} (h : RowX w g l) {i : Nat} (hi : i < l.length) : w.cell? ⟨g, i, none⟩ = some (.int .u32 (gd l i)) := by
  obtain ⟨⟨r, h1⟩, h2⟩ := h
  simp [World.cell?, h1, List.getElem?_append_left (l₁ := cellsN l) (l₂ := r) (by rw [cellsN_length]; exact hi), cellsN_get hi]
theorem RowX.free {w : World} {g : Nat} {l : List Nat} (h : RowX w g l) (i : Nat) : w.frozen? ⟨g, i, none⟩ = false := by
  obtain ⟨⟨r, h1⟩, h2⟩ := h
  simp [World.frozen?, h1]
theorem RowX.lt {w : World} {g : Nat} {l : List Nat} (h : RowX w g l) : g < w.heap.size := by
  obtain ⟨⟨r, h1⟩, h2⟩ := h
  rcases Nat.lt_or_ge g w.heap.size with h' | h'
  · exact h'
  · rw [Array.getElem?_eq_none h'] at h1; cases h1
theorem RowX.grow {w w' : World} {g : Nat} {l : List Nat} (h : RowX w g l) (gr : Gr w w') : RowX w' g l :=
  ⟨by rw [Below.block gr g h.lt]; exact h.1, h.2⟩
theorem RowX.read {w : World} {g : Nat} {l : List Nat} (h : RowX w g l) (c : Nat) (hc : l.length ≤ c) (hm : c ≤ 9223372036854775807) : NatL w (.slice (some ⟨g, 0, none⟩) l.length c) l :=
  ⟨h.2, _, c, rfl, hc, hm, .inr ⟨g, 0, rfl, fun i hi => by rw [Nat.zero_add]; exact h.cell hi⟩⟩
theorem RowX.set {w : World} {g : Nat} {l : List Nat} (h : RowX w g l) (i x : Nat) (e : Int) (he : e = x) (hx : x < BB) (hi : i < l.length) : RowX (w.setCell ⟨g, i, none⟩ (.int .u32 e)) g (l.set i x) := by
  subst he
  obtain ⟨⟨r, h1⟩, h2⟩ := h
  refine ⟨⟨r, ?_⟩, h2.set i x hx⟩
  simp only [World.setCell, Array.getElem?_modify, h1, if_true, Option.map_some]
  simp [cellsN, List.map_set, List.set_append_left, hi]
theorem RowX.other {w : World} {g g' : Nat} {l : List Nat} (h : RowX w g l) (hne : g ≠ g') (i : Nat) (v : Value) : RowX (w.setCell ⟨g', i, none⟩ v) g l :=
  ⟨by rw [Below.heap_setCell _ _ _ _ hne]; exact h.1, h.2⟩
theorem RowN.x {w : World} {g : Nat} {l : List Nat} (h : RowN w g l) : RowX w g l := ⟨⟨[], by rw [List.append_nil]; exact h.1⟩, h.2⟩

/-- slices.Clone at api.Nat, when there is something to clone: a row of the caller's own -/
theorem nat_Clone_own (w : World) (v : Value) (l : List Nat) (h : NatL w v l) (hlen : l.length ≤ 17592186044416) (hne : l ≠ []) :
    Calls Tryz.prog 124 #[v] w (Ret w fun r w' => OwnN w' w.heap.size r l) := by
  have HA := Lib.hid h
  have hE := fun (w : World) (a : Option Addr) (n c : Nat) => Lib.run_eql_slice_nil (P := Tryz.prog) w 23 64 a n c 0 0 (by kernel_rfl)
  obtain ⟨p, c, rfl, h1, h2, h0⟩ := h.parts
  obtain ⟨b, o, rfl, -⟩ := h.at 0 (List.length_pos_iff.2 hne)
  obtain ⟨n, hn⟩ : ∃ n, l.length = n := ⟨_, rfl⟩
  rw [hn] at HA h1 hlen ⊢
  have Hn := Lib.hid hn
  clear hn h0 h hne
  go_enter Tryz.func124, Tryz.ntmps124
  go_wp2_with (at_builtin; go_must (refine wpList_appendN rfl _ _ 23 rfl (by kernel_rfl) w.heap.size _ (.slice (some ⟨b, o, none⟩) n c) [] l rfl (OwnN.made0 w _ (Nat.le_refl _)) rfl (HA.out.grow ((Gr.refl w).alloc _)) (by rw [Hn.out]; simp; omega) (by simp) ?_; intro v' w' hown' hgrow hb'))
  go_ret
  exact ⟨_, rfl, ((Gr.refl _).alloc _).own hgrow, hown'⟩

theorem nat_shl_or {x y : Nat} (hy : y < BB) : (x * 4294967296 ||| y) = x * BB + y := by
  rw [BB_eq] at *
  have h := Nat.shiftLeft_add_eq_or_of_lt (b := y) (i := 32) hy x
  rw [Nat.shiftLeft_eq] at h
  exact h.symm

theorem bits_shl_or {q d : Nat} (hq : q < BB) (hd : d < BB) : bits .or .u64 ((q : Int) * 4294967296) (d : Int) = ((q * BB + d : Nat) : Int) := by
  have hq' := hq
  have hd' := hd
  rw [BB_eq] at hq' hd'
  have := u64_or_nat (q * 4294967296) d (by omega) (by omega)
  rw [nat_shl_or hd] at this
  rw [← this]; congr 1

theorem digs_div_mod {l : List Nat} {k x : Nat} : nval (l.drop k) = gd l k + BB * nval (l.drop (k + 1)) := nval_drop l k

theorem nval_drop_set {l : List Nat} {k x : Nat} (hk : k < l.length) : nval ((l.set k x).drop k) = x + BB * nval (l.drop (k + 1)) := by
  rw [nval_drop, gd_set_eq hk]
  congr 2
  rw [List.drop_set_of_lt (by omega)]

set_option maxHeartbeats 1600000 in
theorem nat_shortF (w : World) (v : Value) (l : List Nat) (by' : Nat) (h : NatL w v l) (hlen : l.length ≤ 17592186044416) (hne : l ≠ []) (h0 : 0 < by') (h1 : by' < BB) :
    Calls Tryz.prog 114 #[v, .int .u64 by'] w (Ret w fun r w' => ∃ g kk, w.heap.size ≤ g ∧ r = .tuple #[.slice (some ⟨g, 0, none⟩) kk kk, .int .u64 (nval l % by' : Nat)] ∧ NatL w' (.slice (some ⟨g, 0, none⟩) kk kk) (digs (nval l / by'))) := by
  have HA := Lib.hid h
  have Hne := Lib.hid hne
  have H1 := Lib.hid h1
  have hby : by' < 4294967296 := by rw [BB_eq] at h1; exact h1
  clear h hne h1
  go_enter Tryz.func114, Tryz.ntmps114
  go_wp2_with fail
  refine (nat_Clone_own _ v l HA.out hlen Hne.out).mono ?_
  rintro _ w1 ⟨r, rfl, g1, hown⟩
  obtain ⟨g, c, rest, rfl, hb, hrow, hc1, hc2⟩ := hown.row Hne.out
  have HX := Lib.hid (show RowX w1 g l from ⟨⟨rest, hrow⟩, HA.out.dig⟩)
  have G1 := Lib.hid g1
  have Hb := Lib.hid hb
  obtain ⟨n, hn⟩ : ∃ n, l.length = n := ⟨_, rfl⟩
  rw [hn] at hlen hc1
  simp only [hn]
  have Hn := Lib.hid hn
  clear hn hown hrow g1 hb
  go_wp2_with fail
  go_loopw [7, 8] (fun rs i w2 => ∃ (k : Nat) (m : List Nat) (q : Nat), k ≤ n ∧ i = .int .i64 ((k : Int) - 1) ∧ rs = .int .u64 q ∧ q < by' ∧ RowX w2 g m ∧ m.length = n ∧
      (∀ j, j < k → gd m j = gd l j) ∧ nval (l.drop k) = by' * nval (m.drop k) + q ∧ Own w.heap.size w1 w2) (fun _ i _ => ((intOf i) + 1).toNat)
  case atStart =>
    exact ⟨n, l, 0, Nat.le_refl _, rfl, rfl, h0, HX.out, Hn.out, fun _ _ => rfl, by rw [List.drop_eq_nil_of_le (by rw [Hn.out]; exact Nat.le_refl _)]; simp [nval], Own.refl _ _⟩
  case round =>
    obtain ⟨k, m, q, hk, rfl, rfl, hq, hx, hm, hsame, hv, ho⟩ := hrel
    have HX2 := Lib.hid hx
    have Hm := Lib.hid hm
    have Hsame := Lib.hid hsame
    have Hv := Lib.hid hv
    have Ho := Lib.hid ho
    clear hx hm hsame hv ho
    by_cases hk0 : k = 0
    · obtain rfl := hk0
      go_wp2_with fail
      have hrd := HX2.out.read c (by rw [Hm.out]; exact hc1) hc2
      rw [Hm.out] at hrd
      refine (nat_trim' _ _ _ _ m hrd).mono ?_
      rintro _ _ ⟨⟨kk, rfl, hr⟩, rfl⟩
      have Hr := Lib.hid hr
      clear hr hrd
      go_wp2_with fail
      go_ret2
      have e0 : nval l = by' * nval m + q := by have := Hv.out; simpa using this
      have e1 : nval l / by' = nval m := by rw [e0, Nat.mul_add_div h0, Nat.div_eq_of_lt hq, Nat.add_zero]
      have e2 : nval l % by' = q := by rw [e0, Nat.mul_add_mod, Nat.mod_eq_of_lt hq]
      rw [e1, e2]
      exact ⟨_, rfl, Below.trans G1.out Ho.out, _, _, Hb.out, rfl, Hr.out⟩
    · obtain ⟨j, rfl⟩ : ∃ j, k = j + 1 := ⟨k - 1, by omega⟩
      have e1 := Lib.hid (show ((j + 1 : Nat) : Int) - 1 = (j : Int) by omega)
      rw [e1.out]
      have cR := HX2.out.cell (i := j) (by rw [Hm.out]; omega)
      have fR := HX2.out.free j
      have gm := HX2.out.dig.gd j
      obtain ⟨X, hX⟩ : ∃ X, q * BB + gd m j = X := ⟨_, rfl⟩
      have hor := bits_shl_or (Nat.lt_trans hq H1.out) gm
      rw [hX] at hor
      have hXb : X < by' * 4294967296 := by rw [← hX]; rw [BB_eq] at *; have := Nat.mul_le_mul_right 4294967296 (show q + 1 ≤ by' from hq); omega
      have hXq : X / by' < 4294967296 := by rw [Nat.div_lt_iff_lt_mul h0, Nat.mul_comm]; exact hXb
      have hXm : X % by' < by' := Nat.mod_lt _ h0
      have hX64 : X ≤ 18446744073709551615 := by omega
      have HXe := Lib.hid hX
      clear hX hXb
      rw [BB_eq] at gm
      go_wp2_with fail
      go_region
      go_wp2_with fail
      have E1 : IntKind.u64.wrap ((X : Int) / by') % 4294967296 = ((X / by' : Nat) : Int) := by
        rw [IntKind.wrap_u64, ← Int.natCast_ediv]
        generalize X / by' = Y at hXq ⊢
        omega
      have hjl : j < m.length := by rw [Hm.out]; omega
      refine ⟨⟨j, m.set j (X / by'), X % by', by omega, rfl, by rw [Int.natCast_emod], hXm, (HX2.out.set j (X / by') _ E1 (by rw [BB_eq]; exact hXq) hjl).grow ((Gr.refl _).drew), by rw [List.length_set]; exact Hm.out, ?_, ?_, ?_⟩, by simp [intOf]⟩
      · intro t ht; rw [gd_set_ne (by omega)]; exact Hsame.out t (by omega)
      · rw [nval_drop_set hjl, nval_drop, ← Hsame.out j (by omega), Hv.out]
        have h3 := Nat.div_add_mod X by'
        have h4 := HXe.out
        rw [Nat.mul_add, Nat.mul_add, Nat.mul_left_comm BB by', Nat.mul_comm BB q]
        omega
      · exact Ho.out.trans ((Own.setCell _ Hb.out _ _).trans (Own.drewN _ _ 1))

theorem nat_short (w : World) (v : Value) (l : List Nat) (by' : Nat) (h : NatL w v l) (hlen : l.length ≤ 17592186044416) (hne : l ≠ []) (h0 : 0 < by') (h1 : by' < BB) :
    Calls Tryz.prog 114 #[v, .int .u64 by'] w (Ret w fun r w' => ∃ x, r = .tuple #[x, .int .u64 (nval l % by' : Nat)] ∧ NatL w' x (digs (nval l / by'))) :=
  (nat_shortF w v l by' h hlen hne h0 h1).mono fun e w' ⟨r, he, hg, g, kk, hb, hr, hx⟩ => ⟨r, he, hg, _, hr, hx⟩
end Go.Proofs.YtmcgkglmlfbijaaGreatDoor
namespace Go.Proofs.YtmcgkglmlfbijaaGreatDoor
open Go.RowKit
set_option linter.unusedVariables false
set_option linter.unusedSimpArgs false

theorem bits_shift {d s c : Nat} (hd : d < BB) (hs : s ≤ 31) (hc : c < 2 ^ s) : bits .or .u64 (IntKind.u64.wrap ((d : Int) * 2 ^ s)) (c : Int) = ((d * 2 ^ s + c : Nat) : Int) := by
  have h2 : 2 ^ s ≤ 2147483648 := Nat.pow_le_pow_right (by omega) hs
  have h3 : d * 2 ^ s ≤ 4294967295 * 2147483648 := Nat.mul_le_mul (by rw [BB_eq] at hd; omega) h2
  have e : ((d : Int) * 2 ^ s) = ((d * 2 ^ s : Nat) : Int) := by rw [Int.natCast_mul, Int.natCast_pow]; rfl
  have h4 := Nat.shiftLeft_add_eq_or_of_lt (b := c) (i := s) hc d
  rw [Nat.shiftLeft_eq] at h4
  rw [e, IntKind.wrap_u64]
  generalize d * 2 ^ s = X at *
  rw [show ((X : Int) % 18446744073709551616) = (X : Int) from by omega, u64_or_nat X c (by omega) (by omega), h4]

set_option maxHeartbeats 1600000 in
theorem nat_shift (w : World) (v : Value) (l : List Nat) (s : Nat) (h : NatL w v l) (hlen : l.length ≤ 8796093022208) (hs : s ≤ 31) :
    Calls Tryz.prog 126 #[v, .int .i64 s] w fun e w' => e = .returned (.slice (some ⟨w.heap.size, 0, none⟩) (l.length + 1) (l.length + 1)) ∧ Gr w w' ∧
      ∃ m, RowN w' w.heap.size m ∧ m.length = l.length + 1 ∧ nval m = nval l * 2 ^ s := by
  have HA := Lib.hid h
  obtain ⟨p, c, rfl, a1, a2, a3⟩ := h.parts
  have A3 := Lib.hid a3
  clear h a3
  obtain ⟨na, hna⟩ : ∃ n, l.length = n := ⟨_, rfl⟩
  rw [hna] at HA a1 hlen ⊢
  have Hna := Lib.hid hna
  clear hna
  obtain ⟨B0, hB0⟩ : ∃ B0, w.heap.size = B0 := ⟨_, rfl⟩
  rw [hB0]
  have HB0 := Lib.hid hB0
  clear hB0
  obtain ⟨T, hT⟩ : ∃ T, 2 ^ s = T := ⟨_, rfl⟩
  have HT := Lib.hid hT
  have hT1 : 1 ≤ T := by rw [← hT]; exact Nat.one_le_two_pow
  have hT2 : T ≤ 2147483648 := by rw [← hT]; exact Nat.pow_le_pow_right (by omega) hs
  rw [hT]
  clear hT
  go_enter Tryz.func126, Tryz.ntmps126
  go_wp2_with (first | (go_at_call 999) | (at_make; go_must (refine wpList_makeN rfl _ _ 23 rfl (by kernel_rfl) (na + 1) _ rfl rfl (by omega) (by omega) ?_; rw [HB0.out]; intro w1 hrow hgr1 hsz1)))
  go_loopw [6, 16] (fun cr i w2 => ∃ (k : Nat) (m : List Nat) (c : Nat), k ≤ na ∧ i = .int .i64 k ∧ cr = .int .u64 c ∧ c < T ∧ RowN w2 B0 m ∧ m.length = na + 1 ∧
      nval m + BB ^ k * c = nval (l.take k) * T ∧ (∀ j, k ≤ j → gd m j = 0) ∧ Own B0 w w2) (fun _ i _ => na - (intOf i).toNat)
  case atStart =>
    have e0 : ∀ j, gd (List.replicate (na + 1) 0) j = 0 := fun j => by
      unfold gd; rw [List.getD_eq_getElem?_getD, List.getElem?_replicate]; split <;> rfl
    exact ⟨0, _, 0, by omega, rfl, rfl, by omega, hrow, by simp, by rw [nval_replicate]; simp [nval], fun j _ => e0 j, Own.of_gr hgr1 (by rw [HB0.out]; exact Nat.le_refl _)⟩
  case round =>
    obtain ⟨k, m, cr, hk, rfl, rfl, hcr, hrow2, hm, hv, hz, ho⟩ := hrel
    have Hrow := Lib.hid hrow2
    have Hm := Lib.hid hm
    have Hv := Lib.hid hv
    have Hz := Lib.hid hz
    have Ho := Lib.hid ho
    clear hrow hrow2 hm hv hz ho hgr1 hsz1
    have cR := Hrow.out.cell (i := k) (by rw [Hm.out]; omega)
    have fR := Hrow.out.free k
    by_cases hka : k < na
    · obtain ⟨bA, oA, rfl, cA⟩ := (HA.out.own HB0.out.symm Ho.out).at k (by rw [Hna.out]; exact hka)
      have ga := A3.out.gd k
      have hb := bits_shift ga hs (by rw [HT.out]; exact hcr)
      rw [HT.out] at hb
      have ga' := ga
      rw [BB_eq] at ga
      obtain ⟨Y, hY⟩ : ∃ Y, Y = cr + T * gd l k + gd m k := ⟨_, rfl⟩
      have hYc : gd l k * T + cr = Y := by rw [hY, Hz.out k (Nat.le_refl _), Nat.mul_comm]; omega
      rw [hYc] at hb
      have hYB : Y / BB < T := by
        rw [Nat.div_lt_iff_lt_mul BB_pos, ← hYc]
        have := Nat.mul_le_mul_right T (show gd l k + 1 ≤ BB from ga')
        rw [Nat.mul_comm BB T, Nat.add_mul] at this
        omega
      have hY64 : Y ≤ 18446744073709551615 := by rw [Nat.div_lt_iff_lt_mul BB_pos, BB_eq] at hYB; omega
      have HY := Lib.hid hY
      have HYB := Lib.hid hYB
      clear hY hYc hYB ga'
      go_wp2_with fail
      have hY := HY.out
      have hYB := HYB.out
      have hst := mul_inner (l := m) (i := 0) (k := k) (c := cr) (s := Y) (x := T) (y := gd l k) (V := 0) (W := nval (l.take k)) (by rw [Hm.out]; omega) (by rw [Nat.zero_add, Hv.out]; simp [Nat.mul_comm]) (by rw [Nat.zero_add]; exact hY)
      rw [Nat.zero_add] at hst
      refine ⟨⟨k + 1, m.set k (Y % BB), Y / BB, by omega, by go_num, by rw [BB_eq]; rfl, hYB, Hrow.out.set k (Y % BB) _ (by rw [BB_eq]; rfl) (Nat.mod_lt _ BB_pos), by rw [List.length_set]; exact Hm.out, ?_, ?_, ?_⟩, by simp [intOf]; omega⟩
      · rw [hst, nval_take_succ']; simp [Nat.mul_comm]
      · intro j hj; rw [gd_set_ne (by omega)]; exact Hz.out j (by omega)
      · exact Ho.out.trans (Own.setCell _ (Nat.le_refl _) _ _)
    · obtain rfl : k = na := by omega
      go_wp2_with fail
      go_ret
      refine ⟨rfl, ?_, m.set k cr, Hrow.out.set k cr _ rfl (by rw [BB_eq]; omega), by rw [List.length_set]; exact Hm.out, ?_⟩
      · have := Ho.out.trans (Own.setCell wr (Nat.le_refl B0) k (.int .u32 cr))
        rw [← HB0.out] at this ⊢
        exact this.gr
      · have h1 := nval_set (l := m) (i := k) cr (by rw [Hm.out]; omega)
        rw [Hz.out k (Nat.le_refl _), Nat.mul_zero, Nat.add_zero] at h1
        rw [h1, Hv.out, List.take_of_length_le (by rw [Hna.out]; exact Nat.le_refl _)]

set_option maxHeartbeats 1600000 in
theorem nat_estimate (w : World) (x y z f s : Nat) (hx : x < BB) (hy : y < BB) (hz : z < BB) (hf : f < BB) (hs : s < BB) (hf31 : 2147483648 ≤ f) (hxf : x ≤ f) :
    Calls Tryz.prog 127 #[.int .u64 x, .int .u64 y, .int .u64 z, .int .u64 f, .int .u64 s] w fun e w' => e = .returned (.int .u64 (qhat x y z f s)) ∧ ∃ n, w' = w.drewN n := by
  have hor := bits_shl_or hx hy
  obtain ⟨X, hX⟩ : ∃ X, x * BB + y = X := ⟨_, rfl⟩
  rw [hX] at hor
  obtain ⟨G, hG⟩ : ∃ G, qhat x y z f s = G := ⟨_, rfl⟩
  rw [hG]
  have HG := Lib.hid hG
  have HX := Lib.hid hX
  have Hx := Lib.hid hx
  have Hy := Lib.hid hy
  have Hz := Lib.hid hz
  have Hs := Lib.hid hs
  have Hxf := Lib.hid hxf
  have Hinit := Lib.hid (est_init (s := s) hy hz hf31 hxf)
  have hX64 : X ≤ 18446744073709551615 := by rw [← hX]; rw [BB_eq] at *; omega
  have hf0 : 0 < f := by omega
  have hf1 : f < 4294967296 := by rw [BB_eq] at hf; exact hf
  have hs1 : s < 4294967296 := by rw [BB_eq] at hs; exact hs
  have hz1 : z < 4294967296 := by rw [BB_eq] at hz; exact hz
  have hm1 : X % f < f := Nat.mod_lt _ hf0
  have hw1 : IntKind.u64.wrap ((x : Int) * 4294967296) = (x : Int) * 4294967296 := by rw [IntKind.wrap_u64]; rw [BB_eq] at hx; omega
  have Hw2 := Lib.hid (show IntKind.u64.wrap ((X : Int) / f) = ((X / f : Nat) : Int) by
    have := Nat.div_le_self X f
    rw [IntKind.wrap_u64, ← Int.natCast_ediv]
    generalize X / f = Z at *
    omega)
  have hdm := Lib.hid (show X = X / f * f + X % f by rw [Nat.mul_comm]; exact (Nat.div_add_mod X f).symm)
  clear hX hG hx hy hz hs hxf hf
  go_enter Tryz.func127, Tryz.ntmps127
  go_wp2_with fail
  go_quiet (fail)
  go_wp2_with fail
  go_loopw [11, 12] (fun q r w1 => ∃ (a b : Nat), q = .int .u64 a ∧ r = .int .u64 b ∧ X = a * f + b ∧ G ≤ a ∧ a ≤ BB + 1 ∧ b < BB ∧ ∃ n, w1 = w.drewN n) (fun q _ _ => (intOf q).toNat)
  case atStart =>
    have h1 := Hinit.out
    rw [HX.out, HG.out] at h1
    exact ⟨X / f, X % f, by rw [Hw2.out], by rw [Int.natCast_emod], hdm.out, h1.1, h1.2, by rw [BB_eq]; omega, nq, rfl⟩
  case round =>
    obtain ⟨a, b, rfl, rfl, hab, hga, haB, hbB, hg⟩ := hrel
    clear hor hw1 hm1
    have Hab := Lib.hid (show x * BB + y = a * f + b by rw [HX.out]; exact hab)
    have Hg := Lib.hid hg
    have Hga := Lib.hid (show qhat x y z f s ≤ a by rw [HG.out]; exact hga)
    have HaB := Lib.hid haB
    have haB' : a ≤ 4294967297 := by rw [BB_eq] at haB; omega
    have hbB' : b < 4294967296 := by rw [BB_eq] at hbB; exact hbB
    have hor := bits_shl_or hbB Hz.out
    obtain ⟨Y, hY⟩ : ∃ Y, b * BB + z = Y := ⟨_, rfl⟩
    rw [hY] at hor
    have HY := Lib.hid hY
    obtain ⟨P, hP⟩ : ∃ P, a * s = P := ⟨_, rfl⟩
    have hPi : (a : Int) * s = (P : Int) := by rw [← hP]; exact (Int.natCast_mul _ _).symm
    have HP := Lib.hid hP
    have hY64 : Y ≤ 18446744073709551615 := by rw [← hY]; rw [BB_eq] at *; omega
    have hstep : ∀ (ha1 : 1 ≤ a) (hlt : G ≤ a - 1), b + f < BB → (a - 1) * f + (b + f) = X := fun ha1 hlt _ => by
      obtain ⟨c, rfl⟩ : ∃ c, a = c + 1 := ⟨a - 1, by omega⟩
      rw [Nat.add_sub_cancel, hab, Nat.add_mul]; omega
    have Hstep := Lib.hid hstep
    have Hend : ∀ (ha1 : 1 ≤ a) (hlt : qhat x y z f s ≤ a - 1), BB ≤ b + f → a - 1 = G := fun ha1 hlt hr => by
      obtain ⟨c, rfl⟩ : ∃ c, a = c + 1 := ⟨a - 1, by omega⟩
      rw [← HG.out]
      exact est_break hf0 Hy.out Hs.out Hxf.out Hab.out HaB.out hr hlt
    have HE := Lib.hid Hend
    clear hab hg hga haB hbB hY hP hstep Hend
    by_cases hbig : BB ≤ a
    · have h1 := qhat_lt_big (x := x) (y := y) (z := z) (f := f) (s := s) hbig
      have ha2 : 4294967296 ≤ a := by rw [BB_eq] at hbig; exact hbig
      have H1 := Lib.hid (show qhat x y z f s ≤ a - 1 by omega)
      clear h1 hbig hPi hor
      by_cases hbr : 4294967296 ≤ b + f
      · go_wp2_with fail
        go_ret
        refine ⟨?_, Hg.out⟩
        have h2 := HE.out (by omega) H1.out (by rw [BB_eq]; exact hbr)
        show Ending.returned (Value.int .u64 ((a : Int) - 1)) = .returned (.int .u64 G)
        rw [show ((a : Int) - 1) = (G : Int) from by omega]
      · go_wp2_with fail
        have h3 := H1.out
        rw [HG.out] at h3
        exact ⟨⟨a - 1, b + f, by rw [show (((a - 1 : Nat) : Int)) = (a : Int) - 1 from by omega], by go_num, (Hstep.out (by omega) h3 (by rw [BB_eq]; omega)).symm, h3, Nat.le_trans (Nat.sub_le _ _) HaB.out, by rw [BB_eq]; omega, Hg.out⟩, by simp [intOf]; omega⟩
    · have ha2 : a < 4294967296 := by rw [BB_eq] at hbig; omega
      have hP64 : P ≤ 18446744073709551615 := by
        rw [← HP.out]
        have := mul_bound (show a < BB by omega) Hs.out
        omega
      by_cases ht : Y < P
      · have H1 := Lib.hid (show qhat x y z f s ≤ a - 1 by
          have := est_test (z := z) (s := s) hf0 Hab.out (by rw [HY.out, HP.out]; exact ht)
          omega)
        have ha1 : 1 ≤ a := by
          rcases Nat.eq_zero_or_pos a with h0 | h0
          · have := HP.out; rw [h0] at this; simp at this; omega
          · exact h0
        clear hbig
        by_cases hbr : 4294967296 ≤ b + f
        · go_wp2_with fail
          go_ret
          refine ⟨?_, Hg.out⟩
          have h2 := HE.out (by omega) H1.out (by rw [BB_eq]; exact hbr)
          show Ending.returned (Value.int .u64 ((a : Int) - 1)) = .returned (.int .u64 G)
          rw [show ((a : Int) - 1) = (G : Int) from by omega]
        · go_wp2_with fail
          have h3 := H1.out
          rw [HG.out] at h3
          exact ⟨⟨a - 1, b + f, by rw [show (((a - 1 : Nat) : Int)) = (a : Int) - 1 from by omega], by go_num, (Hstep.out (by omega) h3 (by rw [BB_eq]; omega)).symm, h3, Nat.le_trans (Nat.sub_le _ _) HaB.out, by rw [BB_eq]; omega, Hg.out⟩, by simp [intOf]; omega⟩
      · have H1 := Lib.hid (show a = G by rw [← HG.out]; exact est_done hf0 Hab.out (by omega) (by rw [HY.out, HP.out]; omega) Hga.out)
        clear hbig
        go_wp2_with fail
        go_ret
        exact ⟨by rw [← H1.out]; rfl, Hg.out⟩
end Go.Proofs.YtmcgkglmlfbijaaGreatDoor
namespace Go.Proofs.YtmcgkglmlfbijaaGreatDoor
open Go.RowKit
set_option linter.unusedVariables false
set_option linter.unusedSimpArgs false

theorem red_end0 {A S q V N : Nat} {m : Nat} (h : m + S * (q * V) = N + A * 0) (h2 : N < S * ((q + 1) * V)) : m + S * (q * V) = N ∧ m < S * V := by
  rw [Nat.mul_zero, Nat.add_zero] at h
  rw [Nat.add_mul, Nat.one_mul, Nat.mul_add] at h2
  omega
theorem red_pos {A S q V N m : Nat} (h : m + S * (q * V) = N + A * 1) (hm : m < A) : 1 ≤ q := by
  rcases Nat.eq_zero_or_pos q with h0 | h0
  · subst h0; rw [Nat.zero_mul, Nat.mul_zero] at h; omega
  · exact h0
theorem red_end1 {A S q V N m m2 c : Nat} (h : m + S * (q * V) = N + A * 1) (h2 : m2 + A * c = m + S * V) (hm : m < A) (hm2 : m2 < A) (hc : c ≤ 1) (hq : q = 0 ∨ S * ((q - 1) * V) ≤ N) (hq1 : 1 ≤ q) :
    m2 + S * ((q - 1) * V) = N ∧ m2 < S * V := by
  obtain ⟨p, rfl⟩ : ∃ p, q = p + 1 := ⟨q - 1, by omega⟩
  rw [Nat.add_sub_cancel] at *
  have hq' : S * (p * V) ≤ N := by rcases hq with h0 | h0; omega; exact h0
  rw [Nat.add_mul, Nat.one_mul, Nat.mul_add, Nat.mul_one] at h
  rcases Nat.eq_zero_or_pos c with h0 | h0
  · subst h0; rw [Nat.mul_zero] at h2; omega
  · have : c = 1 := by omega
    subst this; rw [Nat.mul_one] at h2; omega

set_option maxHeartbeats 3200000 in
theorem nat_reduce (w : World) (g L at' q : Nat) (vb : Value) (l lb : List Nat) (hrow : RowN w g l) (hL : l.length = L) (hb : NatL w vb lb) (hnot : NotIn g vb) (hq : q < BB)
    (hlen : L ≤ 17592186044416) (hfit : at' + lb.length + 1 ≤ L) (hN : nval l < BB ^ (at' + (lb.length + 1)))
    (hq1 : q = 0 ∨ BB ^ at' * ((q - 1) * nval lb) ≤ nval l) (hq2 : nval l < BB ^ at' * ((q + 1) * nval lb)) :
    Calls Tryz.prog 128 #[.slice (some ⟨g, 0, none⟩) L L, vb, .int .i64 at', .int .u64 q] w fun e w' => ∃ (q' : Nat) (m : List Nat), e = .returned (.int .u64 q') ∧ OnlyG g w w' ∧ RowN w' g m ∧ m.length = L ∧
      nval m + BB ^ at' * (q' * nval lb) = nval l ∧ nval m < BB ^ at' * nval lb ∧ q' < BB := by
  have HB := Lib.hid hb
  have HR := Lib.hid hrow
  have HL := Lib.hid hL
  have HN := Lib.hid hN
  have HQ1 := Lib.hid hq1
  have HQ2 := Lib.hid hq2
  have HNot := Lib.hid hnot
  have Hq := Lib.hid hq
  obtain ⟨p, c, rfl, b1, b2, b3⟩ := hb.parts
  have B3 := Lib.hid b3
  obtain ⟨k, hk⟩ : ∃ n, lb.length = n := ⟨_, rfl⟩
  rw [hk] at HB b1 hfit HN HNot ⊢
  have Hk := Lib.hid hk
  have hq' : q < 4294967296 := by rw [BB_eq] at hq; exact hq
  clear hb b3 hk hrow hL hN hq1 hq2 hnot hq
  go_enter Tryz.func128, Tryz.ntmps128
  go_wp2_with fail
  go_loopw [9, 10, 19] (fun br cr i w1 => ∃ (j : Nat) (m : List Nat) (c b : Nat), j ≤ k + 1 ∧ i = .int .i64 j ∧ cr = .int .u64 c ∧ br = .int .u64 b ∧ c < BB ∧ b ≤ 1 ∧ RowN w1 g m ∧ m.length = L ∧
      nval m + BB ^ at' * (q * nval (lb.take j)) = nval l + BB ^ (at' + j) * (c + b) ∧ (∀ t, at' + j ≤ t → gd m t = gd l t) ∧ (k < j → c = 0) ∧ OnlyG g w w1) (fun _ _ i _ => k + 1 - (intOf i).toNat)
  case atStart =>
    exact ⟨0, l, 0, 0, by omega, rfl, rfl, rfl, BB_pos, by omega, HR.out, HL.out, by simp [nval], fun _ _ => rfl, fun _ => rfl, OnlyG.refl _ _⟩
  case round =>
    obtain ⟨j, m, cr, br, hj, rfl, rfl, rfl, hc, hbr, hrow, hm, hv, hsame, hlast, ho⟩ := hrel
    have Hrow := Lib.hid hrow
    have Hm := Lib.hid hm
    have Hv := Lib.hid hv
    have Hsame := Lib.hid hsame
    have Hlast := Lib.hid hlast
    have Ho := Lib.hid ho
    have Hc := Lib.hid hc
    have hc' : cr < 4294967296 := by rw [BB_eq] at hc; exact hc
    clear hrow hm hv hsame hlast ho hc
    by_cases hjk : j < k + 1
    · have cR := Hrow.out.cell (i := at' + j) (by rw [Hm.out]; omega)
      have fR := Hrow.out.free (at' + j)
      have gb := B3.out.gd j
      have gm := Hrow.out.dig.gd (at' + j)
      have hmul := mul_bound Hq.out gb
      rw [BB_eq] at gb gm
      obtain ⟨P, hP⟩ : ∃ P, q * gd lb j = P := ⟨_, rfl⟩
      rw [hP] at hmul
      have hPi : (q : Int) * gd lb j = (P : Int) := by rw [← hP]; exact (Int.natCast_mul _ _).symm
      obtain ⟨Y, hY⟩ : ∃ Y, P + cr = Y := ⟨_, rfl⟩
      have hYi : (P : Int) + cr = (Y : Int) := by omega
      obtain ⟨Z, hZ⟩ : ∃ Z, Y % BB = Z := ⟨_, rfl⟩
      obtain ⟨C, hC⟩ : ∃ C, Y / BB = C := ⟨_, rfl⟩
      have hZi : (Y : Int) % 4294967296 = (Z : Int) := by rw [← hZ, BB_eq]; omega
      have hCi : (Y : Int) / 4294967296 = (C : Int) := by rw [← hC, BB_eq]; omega
      have hY64 : Y ≤ 18446744073709551615 := by omega
      have hZ1 : Z < 4294967296 := by rw [← hZ, BB_eq]; omega
      have hC1 : C < 4294967296 := by rw [← hC, BB_eq]; omega
      have HYs := Lib.hid (show q * gd lb j + cr = Z + BB * C by rw [hP, hY, ← hZ, ← hC]; exact (Nat.mod_add_div Y BB).symm)
      have HCz := Lib.hid (show k < j + 1 → C = 0 by
        intro h
        have : j = k := by omega
        rw [← hC, ← hY, ← hP, this, gd_none (by rw [Hk.out]; exact Nat.le_refl _), Nat.mul_zero, Nat.zero_add]
        exact Nat.div_eq_of_lt Hc.out)
      clear hP hY hZ hC
      by_cases hlow : gd m (at' + j) < Z + br
      · obtain ⟨e1, e2⟩ := sub1_low gm hZ1 hbr hlow
        have hd := Lib.hid (show (BB + gd m (at' + j) - Z - br) % BB + Z + br = gd m (at' + j) + BB * 1 by rw [BB_eq]; omega)
        have E1 := Lib.hid e1
        have E2 := Lib.hid e2
        clear e1 e2
        go_wp2_with fail
        refine (nat_digit _ _ lb j (HB.out.keep HNot.out Ho.out) (by omega)).mono ?_
        rintro _ _ ⟨rfl, rfl⟩
        go_wp2_with fail
        have hjm : at' + j < m.length := by rw [Hm.out]; omega
        refine ⟨⟨j + 1, m.set (at' + j) ((BB + gd m (at' + j) - Z - br) % BB), C, 1, by omega, by go_num, rfl, by rw [E2.out], by rw [BB_eq]; exact hC1, by omega, Hrow.out.set (at' + j) _ _ E1.out (Nat.mod_lt _ BB_pos), by rw [List.length_set]; exact Hm.out, ?_, ?_, HCz.out, ?_⟩, by simp [intOf]; omega⟩
        · rw [nval_take_succ']; exact red_step hjm Hv.out HYs.out hd.out
        · intro t ht; rw [gd_set_ne (by omega)]; exact Hsame.out t (by omega)
        · exact Ho.out.trans (OnlyG.set _ _ _ _)
      · obtain ⟨e1, e2⟩ := sub1_high gm hZ1 hbr hlow
        have hd := Lib.hid (show (BB + gd m (at' + j) - Z - br) % BB + Z + br = gd m (at' + j) + BB * 0 by rw [BB_eq]; omega)
        have E1 := Lib.hid e1
        have E2 := Lib.hid e2
        clear e1 e2
        go_wp2_with fail
        refine (nat_digit _ _ lb j (HB.out.keep HNot.out Ho.out) (by omega)).mono ?_
        rintro _ _ ⟨rfl, rfl⟩
        go_wp2_with fail
        have hjm : at' + j < m.length := by rw [Hm.out]; omega
        refine ⟨⟨j + 1, m.set (at' + j) ((BB + gd m (at' + j) - Z - br) % BB), C, 0, by omega, by go_num, rfl, by rw [E2.out], by rw [BB_eq]; exact hC1, by omega, Hrow.out.set (at' + j) _ _ E1.out (Nat.mod_lt _ BB_pos), by rw [List.length_set]; exact Hm.out, ?_, ?_, HCz.out, ?_⟩, by simp [intOf]; omega⟩
        · rw [nval_take_succ']; exact red_step hjm Hv.out HYs.out hd.out
        · intro t ht; rw [gd_set_ne (by omega)]; exact Hsame.out t (by omega)
        · exact Ho.out.trans (OnlyG.set _ _ _ _)
    · obtain rfl : j = k + 1 := by omega
      have hc0 : cr = 0 := Hlast.out (by omega)
      have Hv' := Lib.hid (show nval m + BB ^ at' * (q * nval lb) = nval l + BB ^ (at' + (k + 1)) * br by
        have := Hv.out
        rw [hc0, Nat.zero_add, List.take_of_length_le (by rw [Hk.out]; omega)] at this
        exact this)
      have Hlt := Lib.hid (nval_lt_of_zero (k := at' + (k + 1)) Hrow.out.dig (fun t ht => by rw [Hsame.out t ht]; exact gd_zero_of_lt HR.out.dig HN.out ht))
      rcases Nat.eq_zero_or_pos br with hb0 | hb0
      · subst hb0
        have Hp := Lib.hid (red_end0 Hv'.out HQ2.out)
        go_wp2_with fail
        go_ret
        exact ⟨q, m, rfl, Ho.out, Hrow.out, Hm.out, Hp.out.1, Hp.out.2, Hq.out⟩
      · have hb1 : br = 1 := by omega
        subst hb1
        have hq0 := Lib.hid (red_pos Hv'.out Hlt.out)
        have hq1 : 1 ≤ q := hq0.out
        go_wp2_with fail
        obtain ⟨wo, hwo⟩ : ∃ wo : World, wo = wr := ⟨_, rfl⟩
        rw [← hwo]
        rw [← hwo] at Hrow Ho
        clear hwo
        go_loopw [10, 60] (fun cr i w1 => ∃ (j : Nat) (m2 : List Nat) (c : Nat), j ≤ k + 1 ∧ i = .int .i64 j ∧ cr = .int .u64 c ∧ c ≤ 1 ∧ RowN w1 g m2 ∧ m2.length = L ∧
          nval m2 + BB ^ (at' + j) * c = nval m + BB ^ at' * nval (lb.take j) ∧ (∀ t, at' + j ≤ t → gd m2 t = gd m t) ∧ OnlyG g w w1) (fun _ i _ => k + 1 - (intOf i).toNat)
        case atStart =>
          exact ⟨0, m, 0, by omega, rfl, rfl, by omega, Hrow.out, Hm.out, by simp [nval], fun _ _ => rfl, Ho.out⟩
        case round =>
          obtain ⟨j, m2, c2, hj2, rfl, rfl, hc2, hrow2, hm2, hv2, hsame2, ho2⟩ := hrel
          have Hrow2 := Lib.hid hrow2
          have Hm2 := Lib.hid hm2
          have Hv2 := Lib.hid hv2
          have Hsame2 := Lib.hid hsame2
          have Ho2 := Lib.hid ho2
          clear hrow2 hm2 hv2 hsame2 ho2
          by_cases hjk2 : j < k + 1
          · have cR := Hrow2.out.cell (i := at' + j) (by rw [Hm2.out]; omega)
            have fR := Hrow2.out.free (at' + j)
            have gb := B3.out.gd j
            have gm := Hrow2.out.dig.gd (at' + j)
            rw [BB_eq] at gb gm
            obtain ⟨s, hs⟩ : ∃ s, s = gd m2 (at' + j) + gd lb j + c2 := ⟨_, rfl⟩
            have Hs := Lib.hid hs
            have hs1 := Lib.hid (show s / BB ≤ 1 by rw [hs, BB_eq]; omega)
            have E1 := Lib.hid (show ((gd m2 (at' + j) : Int) + gd lb j + c2) % 4294967296 = ((s % BB : Nat) : Int) by rw [hs, BB_eq]; omega)
            have E2 := Lib.hid (show ((gd m2 (at' + j) : Int) + gd lb j + c2) / 4294967296 = ((s / BB : Nat) : Int) by rw [hs, BB_eq]; omega)
            clear hs
            go_wp2_with fail
            go_quiet ((go_at_call 102; exact Calls.quiet_of_same ((nat_digit _ _ lb j ((HB.out.keep HNot.out Ho2.out).keep HNot.out (OnlyG.drewN _ _ _)) (by omega)).mono fun _ _ h => ⟨h.1, h.2.symm⟩)))
            go_wp2_with fail
            have hjm : at' + j < m2.length := by rw [Hm2.out]; omega
            refine ⟨⟨j + 1, m2.set (at' + j) (s % BB), s / BB, by omega, by go_num, by rw [E2.out], hs1.out, (Hrow2.out.grow ((Gr.refl wr).drewN nq)).set (at' + j) (s % BB) _ E1.out (Nat.mod_lt _ BB_pos), by rw [List.length_set]; exact Hm2.out, ?_, ?_, ?_⟩, by simp [intOf]; omega⟩
            · rw [nval_take_succ']; exact back_step hjm Hv2.out Hs.out
            · intro t ht; rw [gd_set_ne (by omega)]; exact Hsame2.out t (by omega)
            · exact (Ho2.out.trans (OnlyG.drewN _ _ _)).trans (OnlyG.set _ _ _ _)
          · obtain rfl : j = k + 1 := by omega
            have Hv2' := Lib.hid (show nval m2 + BB ^ (at' + (k + 1)) * c2 = nval m + BB ^ at' * nval lb by
              have := Hv2.out
              rw [List.take_of_length_le (by rw [Hk.out]; omega)] at this
              exact this)
            have Hlt2 := Lib.hid (nval_lt_of_zero (k := at' + (k + 1)) Hrow2.out.dig (fun t ht => by rw [Hsame2.out t ht, Hsame.out t ht]; exact gd_zero_of_lt HR.out.dig HN.out ht))
            have Hp := Lib.hid (red_end1 Hv'.out Hv2'.out Hlt.out Hlt2.out hc2 HQ1.out hq1)
            have hqq := Hq.out
            go_wp2_with fail
            go_ret
            refine ⟨q - 1, m2, ?_, Ho2.out, Hrow2.out, Hm2.out, Hp.out.1, Hp.out.2, by omega⟩
            exact ret_int (by omega)
end Go.Proofs.YtmcgkglmlfbijaaGreatDoor
namespace Go.Proofs.YtmcgkglmlfbijaaGreatDoor
open Go.RowKit
set_option linter.unusedVariables false
set_option linter.unusedSimpArgs false

set_option maxHeartbeats 800000 in
theorem nat_DivMod_zero (w : World) (va vb : Value) (la lb : List Nat) (ha : NatL w va la) (hb : NatL w vb lb) (h0 : nval lb = 0) :
    Calls Tryz.prog 104 #[va, vb] w fun e w' => e = .returned (.tuple #[.slice none 0 0, .slice none 0 0, .int .i64 2]) ∧ w = w' := by
  have HA := Lib.hid ha
  have HB := Lib.hid hb
  have H0 := Lib.hid h0
  clear ha hb h0
  go_enter Tryz.func104, Tryz.ntmps104
  go_wp2_with fail
  refine (nat_trim _ _ la HA.out).mono ?_
  rintro _ _ ⟨⟨p, na, rfl, hr⟩, rfl⟩
  go_wp2_with fail
  refine (nat_trim _ _ lb HB.out).mono ?_
  rintro _ _ ⟨⟨q, nb, rfl, hr2⟩, rfl⟩
  have : nb = 0 := by rw [← hr2.len, trimL, H0.out, digs_zero]; rfl
  subst this
  clear hr hr2
  go_wp2_with fail
  go_ret3
  exact ⟨rfl, rfl⟩

set_option maxHeartbeats 800000 in
theorem nat_DivMod_less (w : World) (va vb : Value) (la lb : List Nat) (ha : NatL w va la) (hb : NatL w vb lb) (hla : la.length ≤ 8796093022208) (hlb : lb.length ≤ 8796093022208) (hlt : nval la < nval lb) :
    Calls Tryz.prog 104 #[va, vb] w (Ret w fun r w' => ∃ x y, r = .tuple #[x, y, .int .i64 0] ∧ NatL w' x (digs (nval la / nval lb)) ∧ NatL w' y (digs (nval la % nval lb))) := by
  have HA := Lib.hid ha
  have HB := Lib.hid hb
  have Hlt := Lib.hid hlt
  have HLa := Lib.hid (trimL_length la ha.dig)
  have HLb := Lib.hid (trimL_length lb hb.dig)
  clear ha hb hlt
  go_enter Tryz.func104, Tryz.ntmps104
  go_wp2_with fail
  refine (nat_trim _ _ la HA.out).mono ?_
  rintro _ _ ⟨⟨p, na, rfl, hr⟩, rfl⟩
  have Hr := Lib.hid hr
  clear hr
  go_wp2_with fail
  refine (nat_trim _ _ lb HB.out).mono ?_
  rintro _ _ ⟨⟨q, nb, rfl, hr2⟩, rfl⟩
  have hnb : nb ≠ 0 := by
    intro h
    have := hr2.len
    rw [h, trimL] at this
    have := digs_eq_nil.1 (List.eq_nil_of_length_eq_zero this)
    have := Hlt.out
    omega
  have t1 : ((nb : Int) == 0) = false := by simp; omega
  have Hr2 := Lib.hid hr2
  clear hr2 hnb
  go_wp2_with fail
  refine (nat_Cmp _ _ _ _ _ Hr.out Hr2.out (Nat.le_trans HLa.out (by omega)) (Nat.le_trans HLb.out (by omega))).mono ?_
  rintro _ _ ⟨rfl, rfl⟩
  rw [trimL, trimL, nval_digs, nval_digs, cmpZ_lt Hlt.out]
  go_wp2_with fail
  refine (nat_Clone _ _ _ Hr.out (Nat.le_trans HLa.out (by omega))).mono ?_
  rintro _ w1 ⟨r, rfl, g1, hr⟩
  have G1 := Lib.hid g1
  have Hr3 := Lib.hid hr
  clear hr g1
  go_wp2_with fail
  go_ret3
  refine ⟨_, rfl, G1.out, _, _, rfl, ?_, ?_⟩
  · rw [Nat.div_eq_of_lt Hlt.out, digs_zero]; exact NatL.nil _
  · rw [Nat.mod_eq_of_lt Hlt.out]; exact Hr3.out

set_option maxHeartbeats 800000 in
theorem nat_DivMod_short (w : World) (va vb : Value) (la lb : List Nat) (ha : NatL w va la) (hb : NatL w vb lb) (hla : la.length ≤ 8796093022208) (hlb : lb.length ≤ 8796093022208) (hle : nval lb ≤ nval la) (h1 : (digs (nval lb)).length = 1) :
    Calls Tryz.prog 104 #[va, vb] w (Ret w fun r w' => ∃ x y, r = .tuple #[x, y, .int .i64 0] ∧ NatL w' x (digs (nval la / nval lb)) ∧ NatL w' y (digs (nval la % nval lb))) := by
  have HA := Lib.hid ha
  have HB := Lib.hid hb
  have Hle := Lib.hid hle
  have HLa := Lib.hid (trimL_length la ha.dig)
  have HLb := Lib.hid (trimL_length lb hb.dig)
  obtain ⟨cz, hcz⟩ : ∃ cz, cmpZ (nval la) (nval lb) = cz := ⟨_, rfl⟩
  have hc0 : ¬ cz < 0 := by rw [← hcz, cmpZ_neg_iff]; omega
  have Hcz := Lib.hid hcz
  have hB : nval lb < BB := by have := lt_of_digs_length (n := nval lb) (k := 1) (by omega); rwa [Nat.pow_one] at this
  have hB0 : 0 < nval lb := by
    rcases Nat.eq_zero_or_pos (nval lb) with h | h
    · rw [h, digs_zero] at h1; cases h1
    · exact h
  obtain ⟨d, hd⟩ : ∃ d, nval lb = d := ⟨_, rfl⟩
  have Hd := Lib.hid hd
  have hdd : digs (nval lb) = [d] := by
    rw [hd] at hB hB0 ⊢
    rw [show d = d + BB * 0 from by omega, digs_cons hB (.inl (by omega)), digs_zero]; rfl
  have Hdd := Lib.hid hdd
  rw [hd] at hB hB0 ⊢
  have HBd := Lib.hid hB
  clear ha hb hle h1 hcz hd hdd hB
  go_enter Tryz.func104, Tryz.ntmps104
  go_wp2_with fail
  refine (nat_trim _ _ la HA.out).mono ?_
  rintro _ _ ⟨⟨p, na, rfl, hr⟩, rfl⟩
  have Hr := Lib.hid hr
  clear hr
  go_wp2_with fail
  refine (nat_trim _ _ lb HB.out).mono ?_
  rintro _ _ ⟨⟨q, nb, rfl, hr2⟩, rfl⟩
  rw [trimL, Hdd.out] at hr2
  have hnb : nb = 1 := hr2.len.symm
  subst hnb
  have Hr2 := Lib.hid hr2
  clear hr2
  go_wp2_with fail
  refine (nat_Cmp _ _ _ _ _ Hr.out Hr2.out (Nat.le_trans HLa.out (by omega)) (by simp)).mono ?_
  rintro _ _ ⟨rfl, rfl⟩
  have e1 : cmpZ (nval (trimL la)) (nval [d]) = cz := by rw [← Hcz.out, trimL, nval_digs, Hd.out]; simp [nval]
  rw [e1]
  clear e1
  obtain ⟨b, o, rfl, hc⟩ := Hr2.out.at 0 (by simp)
  have hg : gd [d] 0 = d := rfl
  rw [hg, Nat.add_zero] at hc
  have hd32 : d < 4294967296 := by have := HBd.out; rwa [BB_eq] at this
  clear hg
  go_wp2_with fail
  have hne : trimL la ≠ [] := fun e => by
    have := digs_eq_nil.1 e
    have h2 := Hle.out
    rw [Hd.out] at h2; omega
  refine (nat_short _ _ (trimL la) d Hr.out (Nat.le_trans HLa.out (by omega)) hne hB0 HBd.out).mono ?_
  rintro _ w1 ⟨_, rfl, g1, x, rfl, hx⟩
  have G1 := Lib.hid g1
  have Hx := Lib.hid hx
  have hm : nval (trimL la) % d < 18446744073709551616 := by have := Nat.mod_lt (nval (trimL la)) hB0; omega
  have Hm := Lib.hid hm
  clear hx g1 hne hm
  go_wp2_with fail
  refine (nat_From _ _ Hm.out).mono ?_
  rintro _ w2 ⟨y, rfl, g2, hy⟩
  have G2 := Lib.hid g2
  have Hy := Lib.hid hy
  clear hy g2
  go_wp2_with fail
  go_ret3
  have e : nval (trimL la) = nval la := nval_digs _
  refine ⟨_, rfl, G1.out.trans G2.out, _, _, rfl, ?_, ?_⟩
  · have := Hx.out.grow G2.out; rwa [e] at this
  · have := Hy.out; rwa [e] at this
end Go.Proofs.YtmcgkglmlfbijaaGreatDoor

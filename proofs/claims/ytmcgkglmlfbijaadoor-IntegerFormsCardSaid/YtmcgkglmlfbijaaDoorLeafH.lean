/-
  The program's division: by one digit; the shift.
-/
import Derived.Test.YtmcgkglmlfbijaaDoorLeafG
namespace Go.Proofs.YtmcgkglmlfbijaaDoor
open Go.RowKit
set_option linter.unusedVariables false
set_option linter.unusedSimpArgs false

theorem OwnN.row {w : World} {base : Nat} {v : Value} {l : List Nat} (h : OwnN w base v l) (hne : l ≠ []) :
    ∃ g cap rest, v = .slice (some ⟨g, 0, none⟩) l.length cap ∧ base ≤ g ∧ w.heap[g]? = some (.cells (cellsN l ++ rest).toArray 52 (0, 0)) ∧ l.length ≤ cap ∧ cap ≤ 9223372036854775807 := by
  obtain ⟨⟨h1, h2⟩, hd⟩ := h
  rcases h2 with ⟨_, h2⟩ | ⟨g, cap, cur, rfl, hb, hh, hn, hm, hs, ht⟩
  · exact absurd (List.eq_nil_of_length_eq_zero h2) hne
  · refine ⟨g, cap, cur.toList.drop l.length, rfl, hb, ?_, hn, by simpa [maxLen] using hm⟩
    rw [← ht, Nat.mul_one, List.take_append_drop]
    exact hh

/-- block g holds the digits l, and something behind them; it may be written -/
def RowX (w : World) (g : Nat) (l : List Nat) : Prop := (∃ rest, w.heap[g]? = some (.cells (cellsN l ++ rest).toArray 52 (0, 0))) ∧ Dig l

theorem RowX.dig {w : World} {g : Nat} {l : List Nat} (h : RowX w g l) : Dig l := h.2
theorem RowX.cell {w : World} {g : Nat} {l : List Nat} (h : RowX w g l) {i : Nat} (hi : i < l.length) : w.cell? ⟨g, i, none⟩ = some (.int .u32 (gd l i)) := by
  obtain ⟨⟨r, h1⟩, h2⟩ := h
  simp [World.cell?, h1, List.getElem?_append_left (l₁ := cellsN l) (l₂ := r) (by rw [cellsN_length]; exact hi), cellsN_get hi]
theorem RowX.free {w : World} {g : Nat} {l : List Nat} (h : RowX w g l) (i : Nat) : w.frozen? ⟨g, i, none⟩ = false := by
  obtain ⟨⟨r, h1⟩, h2⟩ := h
  simp [World.frozen?, h1]
theorem RowX.lt {w : World} {g : Nat} {l : List Nat} (h : RowX w g l) : g < w.heap.size := by
  obtain ⟨⟨r, h1⟩, h2⟩ := h
  rcases Nat.lt_or_ge g w.heap.size with h' | h'
  · exact h'
  · rw [Array.getElem?_eq_none h'] at h1; cases h1
theorem RowX.grow {w w' : World} {g : Nat} {l : List Nat} (h : RowX w g l) (gr : Gr w w') : RowX w' g l :=
  ⟨by rw [Below.block gr g h.lt]; exact h.1, h.2⟩
theorem RowX.read {w : World} {g : Nat} {l : List Nat} (h : RowX w g l) (c : Nat) (hc : l.length ≤ c) (hm : c ≤ 9223372036854775807) : NatL w (.slice (some ⟨g, 0, none⟩) l.length c) l :=
  ⟨h.2, _, c, rfl, hc, hm, .inr ⟨g, 0, rfl, fun i hi => by rw [Nat.zero_add]; exact h.cell hi⟩⟩
theorem RowX.set {w : World} {g : Nat} {l : List Nat} (h : RowX w g l) (i x : Nat) (e : Int) (he : e = x) (hx : x < BB) (hi : i < l.length) : RowX (w.setCell ⟨g, i, none⟩ (.int .u32 e)) g (l.set i x) := by
  subst he
  obtain ⟨⟨r, h1⟩, h2⟩ := h
  refine ⟨⟨r, ?_⟩, h2.set i x hx⟩
  simp only [World.setCell, Array.getElem?_modify, h1, if_true, Option.map_some]
  simp [cellsN, List.map_set, List.set_append_left, hi]
theorem RowX.other {w : World} {g g' : Nat} {l : List Nat} (h : RowX w g l) (hne : g ≠ g') (i : Nat) (v : Value) : RowX (w.setCell ⟨g', i, none⟩ v) g l :=
  ⟨by rw [Below.heap_setCell _ _ _ _ hne]; exact h.1, h.2⟩
theorem RowN.x {w : World} {g : Nat} {l : List Nat} (h : RowN w g l) : RowX w g l := ⟨⟨[], by rw [List.append_nil]; exact h.1⟩, h.2⟩

/-- slices.Clone at api.Nat, when there is something to clone: a row of the caller's own -/
theorem nat_Clone_own (w : World) (v : Value) (l : List Nat) (h : NatL w v l) (hlen : l.length ≤ 17592186044416) (hne : l ≠ []) :
    Calls Tryd.prog 66 #[v] w (Ret w fun r w' => OwnN w' w.heap.size r l) := by
  have HA := Lib.hid h
  have hE := fun (w : World) (a : Option Addr) (n c : Nat) => Lib.run_eql_slice_nil (P := Tryd.prog) w 23 52 a n c 0 0 (by kernel_rfl)
  obtain ⟨p, c, rfl, h1, h2, h0⟩ := h.parts
  obtain ⟨b, o, rfl, -⟩ := h.at 0 (List.length_pos_iff.2 hne)
  obtain ⟨n, hn⟩ : ∃ n, l.length = n := ⟨_, rfl⟩
  rw [hn] at HA h1 hlen ⊢
  have Hn := Lib.hid hn
  clear hn h0 h hne
  go_enter Tryd.func66, Tryd.ntmps66
  go_wp2_with (at_builtin; go_must (refine wpList_appendN rfl _ _ 23 rfl (by kernel_rfl) w.heap.size _ (.slice (some ⟨b, o, none⟩) n c) [] l rfl (OwnN.made0 w _ (Nat.le_refl _)) rfl (HA.out.grow ((Gr.refl w).alloc _)) (by rw [Hn.out]; simp; omega) (by simp) ?_; intro v' w' hown' hgrow hb'))
  go_ret
  exact ⟨_, rfl, ((Gr.refl _).alloc _).own hgrow, hown'⟩

theorem nat_shl_or {x y : Nat} (hy : y < BB) : (x * 4294967296 ||| y) = x * BB + y := by
  rw [BB_eq] at *
  have h := Nat.shiftLeft_add_eq_or_of_lt (b := y) (i := 32) hy x
  rw [Nat.shiftLeft_eq] at h
  exact h.symm

theorem bits_shl_or {q d : Nat} (hq : q < BB) (hd : d < BB) : bits .or .u64 ((q : Int) * 4294967296) (d : Int) = ((q * BB + d : Nat) : Int) := by
  have hq' := hq
  have hd' := hd
  rw [BB_eq] at hq' hd'
  have := u64_or_nat (q * 4294967296) d (by omega) (by omega)
  rw [nat_shl_or hd] at this
  rw [← this]; congr 1

theorem digs_div_mod {l : List Nat} {k x : Nat} : nval (l.drop k) = gd l k + BB * nval (l.drop (k + 1)) := nval_drop l k

theorem nval_drop_set {l : List Nat} {k x : Nat} (hk : k < l.length) : nval ((l.set k x).drop k) = x + BB * nval (l.drop (k + 1)) := by
  rw [nval_drop, gd_set_eq hk]
  congr 2
  rw [List.drop_set_of_lt (by omega)]

set_option maxHeartbeats 1600000 in
theorem nat_shortF (w : World) (v : Value) (l : List Nat) (by' : Nat) (h : NatL w v l) (hlen : l.length ≤ 17592186044416) (hne : l ≠ []) (h0 : 0 < by') (h1 : by' < BB) :
    Calls Tryd.prog 54 #[v, .int .u64 by'] w (Ret w fun r w' => ∃ g kk, w.heap.size ≤ g ∧ r = .tuple #[.slice (some ⟨g, 0, none⟩) kk kk, .int .u64 (nval l % by' : Nat)] ∧ NatL w' (.slice (some ⟨g, 0, none⟩) kk kk) (digs (nval l / by'))) := by
  have HA := Lib.hid h
  have Hne := Lib.hid hne
  have H1 := Lib.hid h1
  have hby : by' < 4294967296 := by rw [BB_eq] at h1; exact h1
  clear h hne h1
  go_enter Tryd.func54, Tryd.ntmps54
  go_wp2_with fail
  refine (nat_Clone_own _ v l HA.out hlen Hne.out).mono ?_
  rintro _ w1 ⟨r, rfl, g1, hown⟩
  obtain ⟨g, c, rest, rfl, hb, hrow, hc1, hc2⟩ := hown.row Hne.out
  have HX := Lib.hid (show RowX w1 g l from ⟨⟨rest, hrow⟩, HA.out.dig⟩)
  have G1 := Lib.hid g1
  have Hb := Lib.hid hb
  obtain ⟨n, hn⟩ : ∃ n, l.length = n := ⟨_, rfl⟩
  rw [hn] at hlen hc1
  simp only [hn]
  have Hn := Lib.hid hn
  clear hn hown hrow g1 hb
  go_wp2_with fail
  go_loopw [7, 8] (fun rs i w2 => ∃ (k : Nat) (m : List Nat) (q : Nat), k ≤ n ∧ i = .int .i64 ((k : Int) - 1) ∧ rs = .int .u64 q ∧ q < by' ∧ RowX w2 g m ∧ m.length = n ∧
      (∀ j, j < k → gd m j = gd l j) ∧ nval (l.drop k) = by' * nval (m.drop k) + q ∧ Own w.heap.size w1 w2) (fun _ i _ => ((intOf i) + 1).toNat)
  case atStart =>
    exact ⟨n, l, 0, Nat.le_refl _, rfl, rfl, h0, HX.out, Hn.out, fun _ _ => rfl, by rw [List.drop_eq_nil_of_le (by rw [Hn.out]; exact Nat.le_refl _)]; simp [nval], Own.refl _ _⟩
  case round =>
    obtain ⟨k, m, q, hk, rfl, rfl, hq, hx, hm, hsame, hv, ho⟩ := hrel
    have HX2 := Lib.hid hx
    have Hm := Lib.hid hm
    have Hsame := Lib.hid hsame
    have Hv := Lib.hid hv
    have Ho := Lib.hid ho
    clear hx hm hsame hv ho
    by_cases hk0 : k = 0
    · obtain rfl := hk0
      go_wp2_with fail
      have hrd := HX2.out.read c (by rw [Hm.out]; exact hc1) hc2
      rw [Hm.out] at hrd
      refine (nat_trim' _ _ _ _ m hrd).mono ?_
      rintro _ _ ⟨⟨kk, rfl, hr⟩, rfl⟩
      have Hr := Lib.hid hr
      clear hr hrd
      go_wp2_with fail
      go_ret2
      have e0 : nval l = by' * nval m + q := by have := Hv.out; simpa using this
      have e1 : nval l / by' = nval m := by rw [e0, Nat.mul_add_div h0, Nat.div_eq_of_lt hq, Nat.add_zero]
      have e2 : nval l % by' = q := by rw [e0, Nat.mul_add_mod, Nat.mod_eq_of_lt hq]
      rw [e1, e2]
      exact ⟨_, rfl, Below.trans G1.out Ho.out, _, _, Hb.out, rfl, Hr.out⟩
    · obtain ⟨j, rfl⟩ : ∃ j, k = j + 1 := ⟨k - 1, by omega⟩
      have e1 := Lib.hid (show ((j + 1 : Nat) : Int) - 1 = (j : Int) by omega)
      rw [e1.out]
      have cR := HX2.out.cell (i := j) (by rw [Hm.out]; omega)
      have fR := HX2.out.free j
      have gm := HX2.out.dig.gd j
      obtain ⟨X, hX⟩ : ∃ X, q * BB + gd m j = X := ⟨_, rfl⟩
      have hor := bits_shl_or (Nat.lt_trans hq H1.out) gm
      rw [hX] at hor
      have hXb : X < by' * 4294967296 := by rw [← hX]; rw [BB_eq] at *; have := Nat.mul_le_mul_right 4294967296 (show q + 1 ≤ by' from hq); omega
      have hXq : X / by' < 4294967296 := by rw [Nat.div_lt_iff_lt_mul h0, Nat.mul_comm]; exact hXb
      have hXm : X % by' < by' := Nat.mod_lt _ h0
      have hX64 : X ≤ 18446744073709551615 := by omega
      have HXe := Lib.hid hX
      clear hX hXb
      rw [BB_eq] at gm
      go_wp2_with fail
      go_region
      go_wp2_with fail
      have E1 : IntKind.u64.wrap ((X : Int) / by') % 4294967296 = ((X / by' : Nat) : Int) := by
        rw [IntKind.wrap_u64, ← Int.natCast_ediv]
        generalize X / by' = Y at hXq ⊢
        omega
      have hjl : j < m.length := by rw [Hm.out]; omega
      refine ⟨⟨j, m.set j (X / by'), X % by', by omega, rfl, by rw [Int.natCast_emod], hXm, (HX2.out.set j (X / by') _ E1 (by rw [BB_eq]; exact hXq) hjl).grow ((Gr.refl _).drew), by rw [List.length_set]; exact Hm.out, ?_, ?_, ?_⟩, by simp [intOf]⟩
      · intro t ht; rw [gd_set_ne (by omega)]; exact Hsame.out t (by omega)
      · rw [nval_drop_set hjl, nval_drop, ← Hsame.out j (by omega), Hv.out]
        have h3 := Nat.div_add_mod X by'
        have h4 := HXe.out
        rw [Nat.mul_add, Nat.mul_add, Nat.mul_left_comm BB by', Nat.mul_comm BB q]
        omega
      · exact Ho.out.trans ((Own.setCell _ Hb.out _ _).trans (Own.drewN _ _ 1))

theorem nat_short (w : World) (v : Value) (l : List Nat) (by' : Nat) (h : NatL w v l) (hlen : l.length ≤ 17592186044416) (hne : l ≠ []) (h0 : 0 < by') (h1 : by' < BB) :
    Calls Tryd.prog 54 #[v, .int .u64 by'] w (Ret w fun r w' => ∃ x, r = .tuple #[x, .int .u64 (nval l % by' : Nat)] ∧ NatL w' x (digs (nval l / by'))) :=
  (nat_shortF w v l by' h hlen hne h0 h1).mono fun e w' ⟨r, he, hg, g, kk, hb, hr, hx⟩ => ⟨r, he, hg, _, hr, hx⟩
end Go.Proofs.YtmcgkglmlfbijaaDoor

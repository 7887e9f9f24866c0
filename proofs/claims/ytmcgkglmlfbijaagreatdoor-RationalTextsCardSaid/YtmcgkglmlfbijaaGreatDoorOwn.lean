/-
  Slices of digits: what reads as a list (NatL), what a call owns and appends to (OwnN), and the laws of append in these words.
-/
import Derived.Test.YtmcgkglmlfbijaaGreatDoorBase
import Derived.Test.YtmcgkglmlfbijaaGreatDoorMath
import Derived.Test.YtmcgkglmlfbijaaGreatDoorProg
import Derived.OwnWalk
namespace Go.Proofs.YtmcgkglmlfbijaaGreatDoor
open Go.RowKit
set_option linter.unusedVariables false
set_option linter.unusedSimpArgs false

/-- v is a slice of 32-bit digits that reads as l. -/
def NatL (w : World) (v : Value) (l : List Nat) : Prop :=
  Dig l ∧ ∃ p c, v = .slice p l.length c ∧ l.length ≤ c ∧ c ≤ 9223372036854775807 ∧
    ((p = none ∧ c = 0) ∨ ∃ b o, p = some ⟨b, o, none⟩ ∧ ∀ i, i < l.length → w.cell? ⟨b, o + i, none⟩ = some (.int .u32 (gd l i)))

theorem NatL.dig {w : World} {v : Value} {l : List Nat} (h : NatL w v l) : Dig l := h.1

theorem NatL.grow {w w' : World} {v : Value} {l : List Nat} (h : NatL w v l) (g : Gr w w') : NatL w' v l := by
  obtain ⟨h0, p, c, hv, h1, h2, h3⟩ := h
  refine ⟨h0, p, c, hv, h1, h2, ?_⟩
  rcases h3 with h3 | ⟨b, o, hp, hc⟩
  · exact .inl h3
  · exact .inr ⟨b, o, hp, fun i hi => g.cell (hc i hi)⟩

theorem addr_add (b o i : Nat) : (⟨b, o, none⟩ : Addr).add i = ⟨b, o + i, none⟩ := by
  cases i <;> simp [Addr.add]

/-- an element, where there is one -/
theorem NatL.at {w : World} {p : Option Addr} {n c : Nat} {l : List Nat} (h : NatL w (.slice p n c) l) (i : Nat) (hi : i < l.length) :
    ∃ b o, p = some ⟨b, o, none⟩ ∧ w.cell? ⟨b, o + i, none⟩ = some (.int .u32 (gd l i)) := by
  obtain ⟨h0, p', c', hv, h1, h2, h3⟩ := h
  cases hv
  rcases h3 with ⟨_, h3⟩ | ⟨b, o, hp, hc⟩
  · omega
  · exact ⟨b, o, hp, hc i hi⟩

theorem NatL.len {w : World} {p : Option Addr} {n c : Nat} {l : List Nat} (h : NatL w (.slice p n c) l) : l.length = n := by
  obtain ⟨h0, p', c', hv, h1, h2, h3⟩ := h
  cases hv; rfl

/-- the parts of a slice that reads as l -/
theorem NatL.parts {w : World} {v : Value} {l : List Nat} (h : NatL w v l) : ∃ p c, v = .slice p l.length c ∧ l.length ≤ c ∧ c ≤ 9223372036854775807 ∧ Dig l := by
  obtain ⟨h0, p, c, hv, h1, h2, -⟩ := h
  exact ⟨p, c, hv, h1, h2, h0⟩

/-- a new block of one digit -/
theorem NatL.one (w : World) (e : Int) (x : Nat) (he : e = x) (hx : x < BB) (t : TypeId) : NatL (w.alloc (.cells #[.int .u32 e] t)) (.slice (some ⟨w.heap.size, 0, none⟩) 1 1) [x] := by
  subst he
  refine ⟨Dig.cons hx Dig.nil, _, 1, rfl, by simp, by omega, .inr ⟨w.heap.size, 0, rfl, fun i hi => ?_⟩⟩
  have : i = 0 := by simpa using hi
  subst this
  simp [go_sem, gd]

theorem NatL.nil (w : World) : NatL w (.slice none 0 0) [] := ⟨Dig.nil, none, 0, rfl, by simp, by omega, .inl ⟨rfl, rfl⟩⟩

/-- s[:k:k'] -/
theorem NatL.take {w : World} {p : Option Addr} {n c : Nat} {l : List Nat} (h : NatL w (.slice p n c) l) (k k' : Nat) (hk : k ≤ l.length) (hk' : k ≤ k') (hc : k' ≤ c) :
    NatL w (.slice p k k') (l.take k) := by
  obtain ⟨h0, p', c', hv, h1, h2, h3⟩ := h
  cases hv
  have hl : (l.take k).length = k := by rw [List.length_take]; omega
  refine ⟨h0.take k, p, k', by rw [hl], by omega, by omega, ?_⟩
  rcases h3 with ⟨h3, h4⟩ | ⟨b, o, hp, hcell⟩
  · exact .inl ⟨h3, by omega⟩
  · refine .inr ⟨b, o, hp, fun i hi => ?_⟩
    rw [hl] at hi
    rw [hcell i (by omega), show gd (l.take k) i = gd l i from by unfold gd; rw [List.getD_eq_getElem?_getD, List.getD_eq_getElem?_getD, List.getElem?_take_of_lt hi]]

def cellsN (l : List Nat) : List Value := l.map fun (d : Nat) => Value.int .u32 (d : Int)

theorem cellsN_length (l : List Nat) : (cellsN l).length = l.length := by simp [cellsN]
theorem cellsN_one (l : List Nat) : ∀ u ∈ cellsN l, u.oneCell' = true := by
  intro u hu
  obtain ⟨d, _, rfl⟩ := List.mem_map.1 hu
  rfl
theorem cellsN_get {l : List Nat} {i : Nat} (h : i < l.length) : (cellsN l)[i]? = some (.int .u32 (gd l i)) := by
  unfold cellsN
  rw [List.getElem?_map, List.getElem?_eq_getElem h, gd_get h]; rfl
theorem cellsN_append (l m : List Nat) : cellsN (l ++ m) = cellsN l ++ cellsN m := by simp [cellsN]

/-- v is a slice of digits that this call owns; it reads as l. -/
def OwnN (w : World) (base : Nat) (v : Value) (l : List Nat) : Prop := w.ownsRow base 64 1 v l.length (cellsN l) ∧ Dig l

theorem OwnN.nil (w : World) (base : Nat) : OwnN w base (.slice none 0 0) [] := ⟨World.ownsRow_nil w base _ 1, Dig.nil⟩

theorem OwnN.read {w : World} {base : Nat} {v : Value} {l : List Nat} (h : OwnN w base v l) : NatL w v l := by
  obtain ⟨⟨h1, h2⟩, hd⟩ := h
  rcases h2 with ⟨rfl, h2⟩ | ⟨g, cap, cur, rfl, hb, hh, hn, hm, hs, ht⟩
  · have : l = [] := List.eq_nil_of_length_eq_zero h2
    subst this
    exact NatL.nil w
  · refine ⟨hd, _, cap, rfl, hn, by simpa [maxLen] using hm, .inr ⟨g, 0, rfl, fun i hi => ?_⟩⟩
    have h3 : (cellsN l)[i]? = some (.int .u32 (gd l i)) := cellsN_get hi
    have h4 := World.ownsRow.cells (w := w) (base := base) (e := 64) (size := 1) (v := .slice (some ⟨g, 0, none⟩) l.length cap) (n := l.length) (xs := cellsN l)
      ⟨h1, .inr ⟨g, cap, cur, rfl, hb, hh, hn, hm, hs, ht⟩⟩ (g := g) rfl i _ h3
    rw [addr_add] at h4; simpa using h4

theorem OwnN.made0 (w : World) (base : Nat) (hb : base ≤ w.heap.size) : OwnN (w.alloc (.cells #[] 64)) base (.slice (some ⟨w.heap.size, 0, none⟩) 0 0) [] :=
  ⟨World.ownsRow_made w #[] 0 hb (by simp [maxLen]) (by simp), Dig.nil⟩

theorem OwnN.grow {w w' : World} {base : Nat} {v : Value} {l : List Nat} (h : OwnN w base v l) (g : Gr w w') : OwnN w' base v l := by
  refine ⟨h.1.kept (row := none) ⟨g.os, g.tape, g.output, g.size, fun k hk _ => Below.block g k hk⟩ ?_, h.2⟩
  cases v.ownBlock <;> simp

theorem OwnN.lt {w : World} {base : Nat} {v : Value} {l : List Nat} (h : OwnN w base v l) : ∀ k, v.ownBlock = some k → base ≤ k ∧ k < w.heap.size := h.1.lt

/-- what this call may change: blocks from base on -/
def Own (base : Nat) (w w' : World) : Prop := Below base w w'
theorem Own.refl (base : Nat) (w : World) : Own base w w := Below.refl _ _
theorem Own.trans {base : Nat} {a b c : World} (h : Own base a b) (k : Own base b c) : Own base a c := Below.trans h k
theorem Own.drewN (base : Nat) (w : World) (n : Nat) : Own base w (w.drewN n) := ⟨rfl, rfl, rfl, Nat.le_refl _, fun _ _ => rfl⟩
theorem Own.of_gr {base : Nat} {w w' : World} (h : Gr w w') (hb : base ≤ w.heap.size) : Own base w w' := Below.mono h hb
theorem Own.gr {w w' : World} (h : Own w.heap.size w w') : Gr w w' := h
theorem Own.size {base : Nat} {w w' : World} (h : Own base w w') : w.heap.size ≤ w'.heap.size := Below.size h
theorem Own.grown {base : Nat} {w w' : World} {row : Option Nat} (hg : w.grownBy w' row) (hb : base ≤ w.heap.size) (hr : ∀ k, row = some k → base ≤ k) : Own base w w' :=
  Below.grown (Below.refl _ _) hg hb hr
/-- a call that grew, then changed only what is its own -/
theorem Gr.own {w w0 w' : World} (h : Gr w w0) (g : Own w.heap.size w0 w') : Gr w w' := Below.trans h g
theorem NatL.own {base : Nat} {w0 w' : World} {v : Value} {l : List Nat} (h : NatL w0 v l) (hb : base = w0.heap.size) (g : Own base w0 w') : NatL w' v l := by
  subst hb; exact h.grow g

theorem info_u32 : (Tryz.prog.info? 64).map (fun i => (i.zero, i.size, i.bytes)) = some (some (.int .u32 0), 1, 4) := by kernel_rfl

section
variable {P : Program} {ops : Array Oper} {rest : List Oper} {o : Oper} {a : Act} {Q : Exit → Act → World → Prop} {w : World}

/-- append(s, x...) of digits, s the call's own, x whatever reads as m. -/
theorem wpList_appendN (hgd : o.guard = none) (s x : Operand) (t : TypeId) (ho : o.op = .call { callee := .builtin .append, args := #[s, x], argTypes := #[t, t] })
    (ht : Tryz.prog.underlying t = some (.slice 64)) (base : Nat) (v vx : Value) (l m : List Nat) (hs : a.eval s = v) (hown : OwnN w base v l) (hx : a.eval x = vx) (hm : NatL w vx m)
    (hlen : l.length + m.length ≤ 35184372088832) (hbase : base ≤ w.heap.size)
    (h : ∀ v' w', OwnN w' base v' (l ++ m) → Own base w w' → base ≤ w'.heap.size → wpList Tryz.prog ops Q rest (a.put o.dst v') w') : wpList Tryz.prog ops Q (o :: rest) a w := by
  obtain ⟨i0, hi, hz0, hz1, hz2⟩ := info_parts info_u32
  obtain ⟨hd, p, c, rfl, h1, h2, h3⟩ := hm
  have hrow : ∀ k, v.ownBlock = some k → base ≤ k := fun k hk => (hown.lt k hk).1
  rcases h3 with ⟨rfl, rfl⟩ | ⟨b, off, rfl, hc⟩
  · have hm0 : m = [] := List.eq_nil_of_length_eq_zero (by omega)
    subst hm0
    have h' := h v w (by simpa using hown) (Own.refl _ _) hbase
    refine wpList_plain hgd (fun K hK => ?_)
    have hr : (Builtin.append_ #[t, t] o.type #[v, .slice none 0 0]).run Tryz.prog w = .ok v w := by
      rcases hown.1.2 with ⟨rfl, _⟩ | ⟨g, cap, cur, rfl, _, hh, hn, _⟩
      · simp [Builtin.append_, run_underlying ht, sizeOf, typeInfo, hi, Builtin.lenOf, Builtin.firstCells, loadCells, loadCellsFrom]
      · have hn' : l.length ≤ cap := hn
        simp [Builtin.append_, run_underlying ht, sizeOf, typeInfo, hi, Builtin.lenOf, Builtin.firstCells, loadCells, loadCellsFrom, hn', storeCells]
    unfold Oper.wp execOp
    simp only [ho, resolve, invoke, builtin, Sem.run_bind, Sem.run_pure, Result.andThen_ok, List.map_toArray, List.map_cons, List.map_nil, hs, hx, List.length_nil, hr]
    exact hK _ _ h'
  · refine wpList_append_own _ hgd s x t ho base 64 i0 (.int .u32 0) 1 4 ht hi hz0 hz1 hz2 rfl (by omega) v l.length (cellsN l) hs hown.1 ⟨b, off, none⟩ m.length c (cellsN m) hx
      (by rw [cellsN_length]; omega) (fun j u hu => ?_) (cellsN_one m) (by unfold maxLen; omega) (by omega) hbase (fun v' w' hown' hg _ => ?_)
    · have hj : j < m.length := by
        have := (List.getElem?_eq_some_iff.1 hu).1
        rwa [cellsN_length] at this
      rw [cellsN_get hj] at hu
      have := hc j hj
      simp only [Option.some.injEq] at hu
      subst hu
      rw [addr_add]; exact this
    · refine h v' w' ⟨?_, hown.2.append hd⟩ (Own.grown hg hbase hrow) (Nat.le_trans hbase hg.size)
      rw [cellsN_append, List.length_append]
      exact hown'
end


/-- block g is a row of digits that may be written; it holds l. -/
def RowN (w : World) (g : Nat) (l : List Nat) : Prop := w.heap[g]? = some (.cells (cellsN l).toArray 64 (0, 0)) ∧ Dig l

theorem RowN.dig {w : World} {g : Nat} {l : List Nat} (h : RowN w g l) : Dig l := h.2
theorem RowN.cell {w : World} {g : Nat} {l : List Nat} (h : RowN w g l) {i : Nat} (hi : i < l.length) : w.cell? ⟨g, i, none⟩ = some (.int .u32 (gd l i)) := by
  simp [World.cell?, h.1, cellsN_get hi]
theorem RowN.free {w : World} {g : Nat} {l : List Nat} (h : RowN w g l) (i : Nat) : w.frozen? ⟨g, i, none⟩ = false := by
  simp [World.frozen?, h.1]
theorem RowN.lt {w : World} {g : Nat} {l : List Nat} (h : RowN w g l) : g < w.heap.size := by
  rcases Nat.lt_or_ge g w.heap.size with h' | h'
  · exact h'
  · have := h.1; rw [Array.getElem?_eq_none h'] at this; cases this
theorem RowN.grow {w w' : World} {g : Nat} {l : List Nat} (h : RowN w g l) (gr : Gr w w') : RowN w' g l :=
  ⟨by rw [Below.block gr g h.lt]; exact h.1, h.2⟩
theorem RowN.read {w : World} {g : Nat} {l : List Nat} (h : RowN w g l) (c : Nat) (hc : l.length ≤ c) (hm : c ≤ 9223372036854775807) : NatL w (.slice (some ⟨g, 0, none⟩) l.length c) l :=
  ⟨h.2, _, c, rfl, hc, hm, .inr ⟨g, 0, rfl, fun i hi => by rw [Nat.zero_add]; exact h.cell hi⟩⟩
theorem RowN.set {w : World} {g : Nat} {l : List Nat} (h : RowN w g l) (i x : Nat) (e : Int) (he : e = x) (hx : x < BB) : RowN (w.setCell ⟨g, i, none⟩ (.int .u32 e)) g (l.set i x) := by
  subst he
  refine ⟨?_, h.2.set i x hx⟩
  simp only [World.setCell, Array.getElem?_modify, h.1, if_true, Option.map_some]
  simp [cellsN, List.map_set]

theorem Own.setCell {base : Nat} (w : World) {g : Nat} (hg : base ≤ g) (i : Nat) (v : Value) : Own base w (w.setCell ⟨g, i, none⟩ v) :=
  Below.setCell (Below.refl _ _) hg v

section
variable {ops : Array Oper} {rest : List Oper} {o : Oper} {a : Act} {Q : Exit → Act → World → Prop} {w : World}
/-- make([]T, n) of digits -/
theorem wpList_makeN (hgd : o.guard = none) (x y : Operand) (t : TypeId) (ho : o.op = .makeSlice t x y) (ht : Tryz.prog.underlying t = some (.slice 64)) (n : Nat) (e : Int) (hx : a.eval x = .int .i64 e) (hy : a.eval y = .int .i64 e) (he : e = n)
    (hn : n ≤ 35184372088832) (h : ∀ w', RowN w' w.heap.size (List.replicate n 0) → Gr w w' → w.heap.size < w'.heap.size → wpList Tryz.prog ops Q rest (a.put o.dst (.slice (some ⟨w.heap.size, 0, none⟩) n n)) w') : wpList Tryz.prog ops Q (o :: rest) a w := by
  subst he
  obtain ⟨i0, hi, hz0, hz1, hz2⟩ := info_parts info_u32
  refine wpList_plain hgd (fun K hK => ?_)
  have hr := run_make (P := Tryz.prog) w t 64 i0 (.int .u32 0) ht hi hz0 .i64 .i64 n n (by omega) (by omega) (by rw [hz2]; omega) (by omega)
  unfold Oper.wp execOp
  simp only [ho, hx, hy, Sem.run_bind, Sem.run_pure, Result.andThen_ok, hr, Oper.upon, Int.toNat_natCast]
  refine hK _ _ (h _ ⟨?_, ?_⟩ ((Gr.refl w).alloc _) (by simp))
  · rw [hz1, Nat.mul_one]
    have e : madeCells (Value.int .u32 0).cells n = (cellsN (List.replicate n 0)).toArray := by
      apply Array.ext'
      simp [madeCells, cellsN, Value.cells, Nat.mod_one]
      refine List.ext_getElem (by simp) (fun j h1 h2 => by simp)
    rw [e]
    exact heap_alloc_new w _
  · intro d hd
    rw [(List.mem_replicate.1 hd).2]; exact BB_pos
end

/-- only block g has changed (and new ones may have come) -/
def OnlyG (g : Nat) (w w' : World) : Prop := w.grownBy w' (some g)
theorem OnlyG.refl (g : Nat) (w : World) : OnlyG g w w := ⟨rfl, rfl, rfl, Nat.le_refl _, fun _ _ _ => rfl⟩
theorem OnlyG.trans {g : Nat} {a b c : World} (h : OnlyG g a b) (k : OnlyG g b c) : OnlyG g a c :=
  ⟨k.os.trans h.os, k.tape.trans h.tape, k.output.trans h.output, Nat.le_trans h.size k.size, fun i hi hn => (k.block i (Nat.lt_of_lt_of_le hi h.size) hn).trans (h.block i hi hn)⟩
theorem OnlyG.set (g : Nat) (w : World) (i : Nat) (v : Value) : OnlyG g w (w.setCell ⟨g, i, none⟩ v) :=
  ⟨rfl, rfl, rfl, by simp [World.setCell], fun k _ hk => Below.heap_setCell _ _ _ _ (fun e => hk (by rw [e]))⟩
theorem OnlyG.drewN (g : Nat) (w : World) (n : Nat) : OnlyG g w (w.drewN n) := ⟨rfl, rfl, rfl, Nat.le_refl _, fun _ _ _ => rfl⟩
theorem OnlyG.of_gr {g : Nat} {w w' : World} (h : Gr w w') : OnlyG g w w' := ⟨h.os, h.tape, h.output, h.size, fun k hk _ => Below.block h k hk⟩
theorem OnlyG.own {g base : Nat} {w w' : World} (h : OnlyG g w w') (hb : base ≤ w.heap.size) (hg : base ≤ g) : Own base w w' :=
  Own.grown h hb (fun k hk => by cases hk; exact hg)

/-- v is not a slice of block g -/
def NotIn (g : Nat) (v : Value) : Prop := ∀ b o n c, v = .slice (some ⟨b, o, none⟩) n c → b ≠ g
theorem NatL.keep {g : Nat} {w w' : World} {v : Value} {l : List Nat} (h : NatL w v l) (hn : NotIn g v) (ho : OnlyG g w w') : NatL w' v l := by
  obtain ⟨h0, p, c, rfl, h1, h2, h3⟩ := h
  refine ⟨h0, p, c, rfl, h1, h2, ?_⟩
  rcases h3 with h3 | ⟨b, o, rfl, hc⟩
  · exact .inl h3
  · refine .inr ⟨b, o, rfl, fun i hi => ?_⟩
    have hne := hn b o _ _ rfl
    rw [World.cell?_of_block (w := w) (w' := w') (a := ⟨b, o + i, none⟩) (ho.block b (World.block_lt_of_cell? w _ (hc i hi)) (fun e => hne (by cases e; rfl)))]
    exact hc i hi
theorem RowN.keep {g g' : Nat} {w w' : World} {l : List Nat} (h : RowN w g l) (hn : g ≠ g') (ho : OnlyG g' w w') : RowN w' g l :=
  ⟨by rw [ho.block g h.lt (fun e => hn (by cases e; rfl))]; exact h.1, h.2⟩
end Go.Proofs.YtmcgkglmlfbijaaGreatDoor

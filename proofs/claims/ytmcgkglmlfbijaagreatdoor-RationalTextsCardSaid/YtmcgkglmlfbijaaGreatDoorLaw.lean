/-
  What the statements about integers share: few, awake.
  few.
  IntegerSums.
  Integers by value and length: the functions of integer and of its reference, stated so that results feed the next call.
-/
import Derived.Test.YtmcgkglmlfbijaaGreatDoorIntH
import Derived.Test.YtmcgkglmlfbijaaGreatDoorEarly
import Derived.Deep.RegionWith
import Derived.Laws.EntriesVeiled
namespace Go.Proofs.YtmcgkglmlfbijaaGreatDoor
open Go.RowKit
set_option linter.unusedVariables false
set_option linter.unusedSimpArgs false

theorem IntC.same {x z : Int} : (decide (x < 0) == decide (z < 0) && decide (digs x.natAbs = digs z.natAbs)) = decide (x = z) := by
  by_cases h : x = z
  · subst h; simp
  · rw [decide_eq_false h]
    by_cases h2 : digs x.natAbs = digs z.natAbs
    · have := digs_inj h2
      have h3 : decide (x < 0) ≠ decide (z < 0) := by
        intro e
        have : (x < 0) ↔ (z < 0) := by simpa using e
        omega
      simp [h3]
    · simp [h2]

theorem zval_can (z : Int) : zval (decide (z < 0)) (digs z.natAbs) = z := by
  unfold zval
  rw [nval_digs]
  split <;> rename_i h <;> simp at h <;> omega
theorem digs_one (z : Int) (k : Nat) (h1 : -4294967296 < z) (h2 : z < 4294967296) (hk : 1 ≤ k) : (digs z.natAbs).length ≤ k := by
  refine Nat.le_trans (digs_length_le (k := 1) ?_) hk
  rw [Nat.pow_one]
  unfold BB
  omega
theorem quo_can (w : World) (va vb : Value) (x y Q R : Int) (ha : IntC w va x) (hb : IntC w vb y) (x1 : -4294967296 < x) (x2 : x < 4294967296) (y1 : -4294967296 < y) (y2 : y < 4294967296) (h0 : y ≠ 0) (hQ : quoZ false x y = Q) (hR : x - Q * y = R) :
    Calls Tryz.prog 80 #[va, vb] w (Ret w fun r w' => ∃ q s, r = .tuple #[q, s, .int .i64 0] ∧ IntC w' q Q ∧ IntC w' s R) :=
  int_Quo _ _ _ _ _ _ _ x y Q R (zval_can x) (zval_can y) hQ hR ha hb (digs_one x _ x1 x2 (by decide)) (digs_one y _ y1 y2 (by decide)) h0
theorem floor_can (w : World) (va vb : Value) (x y Q R : Int) (ha : IntC w va x) (hb : IntC w vb y) (x1 : -4294967296 < x) (x2 : x < 4294967296) (y1 : -4294967296 < y) (y2 : y < 4294967296) (h0 : y ≠ 0) (hQ : quoZ true x y = Q) (hR : x - Q * y = R) :
    Calls Tryz.prog 49 #[va, vb] w (Ret w fun r w' => ∃ q s, r = .tuple #[q, s, .int .i64 0] ∧ IntC w' q Q ∧ IntC w' s R) :=
  int_Floor _ _ _ _ _ _ _ x y Q R (zval_can x) (zval_can y) hQ hR ha hb (digs_one x _ x1 x2 (by decide)) (digs_one y _ y1 y2 (by decide)) h0

def zcI : TypeId → Array Value := fun _ => #[.bool false, .slice none 0 0]
theorem Fresh.two {T : TypeId} {b : Nat} {w : World} (h : Fresh (zcI T) T b w) : Two w b (.bool false) (.slice none 0 0) := ⟨T, h⟩
theorem allocI : AllocIs Tryz.prog 25 (zcI 25) := fun w => by
  simp [go_sem]
  rfl
theorem Gr.two {a w : World} (g : Gr a w) {b : Nat} (hb : ¬ b < a.heap.size) (u v : Value) : Gr a ((w.setCell ⟨b, 0, none⟩ u).setCell ⟨b, 1, none⟩ v) :=
  Below.setCell (Below.setCell g (by show a.heap.size ≤ b; omega) u) (by show a.heap.size ≤ b; omega) v

theorem IntC.keepBox {w : World} {v : Value} {z : Int} {b : Nat} {s : Bool} {p : Option Addr} {k c : Nat} (h : IntC w v z) (t : Two w b (.bool s) (.slice p k c)) (x y : Value) : IntC ((w.setCell ⟨b, 0, none⟩ x).setCell ⟨b, 1, none⟩ y) v z := by
  obtain ⟨p', k', c', rfl, h⟩ := h
  exact ⟨p', k', c', rfl, h.keepBox t x y⟩

end Go.Proofs.YtmcgkglmlfbijaaGreatDoor
namespace Go.Proofs.YtmcgkglmlfbijaaGreatDoor
open Go.RowKit
set_option linter.unusedVariables false
set_option linter.unusedSimpArgs false

end Go.Proofs.YtmcgkglmlfbijaaGreatDoor
namespace Go.Proofs.YtmcgkglmlfbijaaGreatDoor
open Go.RowKit
set_option linter.unusedVariables false
set_option linter.unusedSimpArgs false

theorem cell_new (w : World) (a : Array Value) (t : TypeId) (i : Nat) : (w.alloc (.cells a t)).cell? ⟨w.heap.size, i, none⟩ = a[i]? := by
  unfold World.cell?
  simp only [heap_alloc_new w _]
  rfl

end Go.Proofs.YtmcgkglmlfbijaaGreatDoor
namespace Go.Proofs.YtmcgkglmlfbijaaGreatDoor
open Go.RowKit
set_option linter.unusedVariables false
set_option linter.unusedSimpArgs false

/-- v is an integer of value x, in at most L digits (it need not be in its only form) -/
def IntV (w : World) (v : Value) (x : Int) (L : Nat) : Prop := ∃ n l, IntL w v n l ∧ zval n l = x ∧ l.length ≤ L
theorem IntV.grow {w w' : World} {v : Value} {x : Int} {L : Nat} (h : IntV w v x L) (g : Gr w w') : IntV w' v x L := by
  obtain ⟨n, l, h1, h2⟩ := h; exact ⟨n, l, h1.grow g, h2⟩
theorem IntV.len {w : World} {v : Value} {x : Int} {L : Nat} (h : IntV w v x L) : (digs x.natAbs).length ≤ L := by
  obtain ⟨n, l, h1, rfl, h3⟩ := h
  rw [zval_natAbs]
  exact Nat.le_trans (digs_nval_length h1.dig) h3
theorem IntC.v {w : World} {v : Value} {x : Int} {L : Nat} (h : IntC w v x) (hL : (digs x.natAbs).length ≤ L) : IntV w v x L := ⟨_, _, h, zval_digs x, hL⟩

theorem zeroV (w : World) : IntV w (.agg #[.bool false, .slice none 0 0]) 0 0 :=
  ⟨false, [], ⟨none, 0, 0, rfl, fun x hx => (by cases hx), none, 0, rfl, Nat.le_refl _, by omega, .inl ⟨rfl, rfl⟩⟩, rfl, Nat.le_refl _⟩

theorem len_add {x y : Int} {L M : Nat} (hx : (digs x.natAbs).length ≤ L) (hy : (digs y.natAbs).length ≤ M) : (digs (x + y).natAbs).length ≤ L + M + 1 := by
  refine Nat.le_trans (digs_mono_length (b := x.natAbs + y.natAbs) (by omega)) ?_
  exact digs_add_length (k := L + M) (by omega) (by omega)
theorem len_sub {x y : Int} {L M : Nat} (hx : (digs x.natAbs).length ≤ L) (hy : (digs y.natAbs).length ≤ M) : (digs (x - y).natAbs).length ≤ L + M + 1 := by
  refine Nat.le_trans (digs_mono_length (b := x.natAbs + y.natAbs) (by omega)) ?_
  exact digs_add_length (k := L + M) (by omega) (by omega)
theorem len_mul {x y : Int} {L M : Nat} (hx : (digs x.natAbs).length ≤ L) (hy : (digs y.natAbs).length ≤ M) : (digs (x * y).natAbs).length ≤ L + M + 1 := by
  rw [Int.natAbs_mul]
  exact Nat.le_succ_of_le (digs_mul_length hx hy)

/-- what the operations of two integers answer: the value in its only form, of bounded length -/
def ResV (w : World) (v : Value) (x : Int) (L : Nat) : Prop := IntC w v x ∧ IntV w v x L
theorem ResV.grow {w w' : World} {v : Value} {x : Int} {L : Nat} (h : ResV w v x L) (g : Gr w w') : ResV w' v x L := ⟨h.1.grow g, h.2.grow g⟩

theorem v_of {P : Program} {f : FuncId} {args : Array Value} {w : World} {z : Int} {L : Nat} (hL : (digs z.natAbs).length ≤ L) (h : Calls P f args w (Ret w fun r w' => IntC w' r z)) :
    Calls P f args w (Ret w fun r w' => ResV w' r z L) :=
  h.mono fun e w' ⟨v, he, hg, hv⟩ => ⟨v, he, hg, hv, hv.v hL⟩

theorem v_Add (w : World) (va vb : Value) (x y z : Int) (L M : Nat) (hx : IntV w va x L) (hy : IntV w vb y M) (hz : x + y = z) (hL : L ≤ 1000000) (hM : M ≤ 1000000) :
    Calls Tryz.prog 69 #[va, vb] w (Ret w fun r w' => ResV w' r z (L + M + 1)) := by
  have h := len_add hx.len hy.len
  rw [hz] at h
  refine v_of h ?_
  obtain ⟨n, l, h1, rfl, h3⟩ := hx
  obtain ⟨n', l', k1, rfl, k3⟩ := hy
  exact int_Add w va vb n n' l l' z hz h1 k1 (by omega) (by omega)
theorem v_Sub (w : World) (va vb : Value) (x y z : Int) (L M : Nat) (hx : IntV w va x L) (hy : IntV w vb y M) (hz : x - y = z) (hL : L ≤ 1000000) (hM : M ≤ 1000000) :
    Calls Tryz.prog 105 #[va, vb] w (Ret w fun r w' => ResV w' r z (L + M + 1)) := by
  have h := len_sub hx.len hy.len
  rw [hz] at h
  refine v_of h ?_
  obtain ⟨n, l, h1, rfl, h3⟩ := hx
  obtain ⟨n', l', k1, rfl, k3⟩ := hy
  exact int_Sub w va vb n n' l l' z hz h1 k1 (by omega) (by omega)
theorem v_Mul (w : World) (va vb : Value) (x y z : Int) (L M : Nat) (hx : IntV w va x L) (hy : IntV w vb y M) (hz : x * y = z) (hL : L ≤ 1000000) (hM : M ≤ 1000000) :
    Calls Tryz.prog 68 #[va, vb] w (Ret w fun r w' => ResV w' r z (L + M + 1)) := by
  have h := len_mul hx.len hy.len
  rw [hz] at h
  refine v_of h ?_
  obtain ⟨n, l, h1, rfl, h3⟩ := hx
  obtain ⟨n', l', k1, rfl, k3⟩ := hy
  exact int_Mul w va vb n n' l l' z hz h1 k1 (by omega) (by omega)
theorem v_Neg (w : World) (va : Value) (x z : Int) (L : Nat) (hx : IntV w va x L) (hz : - x = z) (hL : L ≤ 1000000) :
    Calls Tryz.prog 51 #[va] w (Ret w fun r w' => ResV w' r z L) := by
  have h := hx.len
  rw [show x.natAbs = z.natAbs by omega] at h
  refine v_of h ?_
  obtain ⟨n, l, h1, rfl, h3⟩ := hx
  exact int_Neg w va n l z hz h1 (by omega)
theorem v_Sign (w : World) (va : Value) (x z : Int) (L : Nat) (hx : IntV w va x L) (hz : sgn x = z) (hL : L ≤ 1000000) :
    Calls Tryz.prog 73 #[va] w (Ret w fun r w' => r = .int .i64 z) := by
  obtain ⟨n, l, h1, rfl, h3⟩ := hx
  exact int_Sign w va n l z hz h1 (by omega)
theorem v_Cmp (w : World) (va vb : Value) (x y z : Int) (L M : Nat) (hx : IntV w va x L) (hy : IntV w vb y M) (hz : cmpZ x y = z) (hL : L ≤ 1000000) (hM : M ≤ 1000000) :
    Calls Tryz.prog 67 #[va, vb] w (Ret w fun r w' => r = .int .i64 z) := by
  obtain ⟨n, l, h1, rfl, h3⟩ := hx
  obtain ⟨n', l', k1, rfl, k3⟩ := hy
  exact int_Cmp w va vb n n' l l' z hz h1 k1 (by omega) (by omega)
theorem v_Same (w : World) (va vb : Value) (x y : Int) (t : Bool) (hx : IntC w va x) (hy : IntC w vb y) (ht : decide (x = y) = t) :
    Calls Tryz.prog 19 #[va, vb] w (Ret w fun r w' => r = .bool t) :=
  ref2_Same w va vb _ _ _ _ t (by rw [IntC.same]; exact ht) hx hy
theorem v_Same2 (w : World) (va vb : Value) (x y : Int) (L M : Nat) (hx : ResV w va x L) (hy : ResV w vb y M) (h : x = y) :
    Calls Tryz.prog 19 #[va, vb] w (Ret w fun r w' => r = .bool true) :=
  v_Same w va vb x y true hx.1 hy.1 (decide_eq_true h)
end Go.Proofs.YtmcgkglmlfbijaaGreatDoor

/-
  Fractions in memory: boxes of three cells, contracts of integers by value.
-/
import Derived.Test.YtmcgkglmlfbijaaGreatDoorRat
import Derived.Test.YtmcgkglmlfbijaaGreatDoorLaw
import Derived.Test.YtmcgkglmlfbijaaGreatDoorNumK
import Derived.Test.YtmcgkglmlfbijaaGreatDoorIntL
namespace Go.Proofs.YtmcgkglmlfbijaaGreatDoor
open Go.RowKit Go.Lib
set_option linter.unusedVariables false
set_option linter.unusedSimpArgs false

/-- v is a fraction with sign bit n, digits l and denominator's digits d -/
def RatL (w : World) (v : Value) (n : Bool) (l d : List Nat) : Prop := ∃ p k c q m e, v = .agg #[.bool n, .slice p k c, .slice q m e] ∧ NatL w (.slice p k c) l ∧ NatL w (.slice q m e) d
theorem RatL.grow {w w' : World} {v : Value} {n : Bool} {l d : List Nat} (h : RatL w v n l d) (g : Gr w w') : RatL w' v n l d := by
  obtain ⟨p, k, c, q, m, e, rfl, h1, h2⟩ := h; exact ⟨p, k, c, q, m, e, rfl, h1.grow g, h2.grow g⟩
/-- v is the fraction x in its only form -/
def RatC (w : World) (v : Value) (x : Rat) : Prop := RatL w v (decide (x.num < 0)) (digs x.num.natAbs) (dd x.den)
theorem RatC.grow {w w' : World} {v : Value} {x : Rat} (h : RatC w v x) (g : Gr w w') : RatC w' v x := RatL.grow h g
/-- v is a fraction of value x, of at most L digits (it need not be in its only form) -/
def RatV (w : World) (v : Value) (x : Rat) (L : Nat) : Prop := ∃ n l d, RatL w v n l d ∧ ratv n l d = x ∧ l.length ≤ L ∧ d.length ≤ L
theorem RatV.grow {w w' : World} {v : Value} {x : Rat} {L : Nat} (h : RatV w v x L) (g : Gr w w') : RatV w' v x L := by
  obtain ⟨n, l, d, h1, h2⟩ := h; exact ⟨n, l, d, h1.grow g, h2⟩
theorem RatC.v {w : World} {v : Value} {x : Rat} {L : Nat} (h : RatC w v x) (hx : Sz L x) : RatV w v x L := ⟨_, _, _, h, ratv_can x, hx.1, dd_len hx.2⟩
theorem RatL.mk {w : World} {n : Bool} {p q : Option Addr} {k c m e : Nat} {l d : List Nat} (h1 : NatL w (.slice p k c) l) (h2 : NatL w (.slice q m e) d) : RatL w (.agg #[.bool n, .slice p k c, .slice q m e]) n l d :=
  ⟨p, k, c, q, m, e, rfl, h1, h2⟩
theorem RatC.mk {w : World} {n : Bool} {p q : Option Addr} {k c m e : Nat} {x : Rat} (h1 : IntC w (.agg #[.bool n, .slice p k c]) x.num) (h2 : NatL w (.slice q m e) (dd x.den)) : RatC w (.agg #[.bool n, .slice p k c, .slice q m e]) x := by
  obtain ⟨p', k', c', h, h1⟩ := h1
  simp only [Value.agg.injEq, Array.mk.injEq, List.cons.injEq, Value.bool.injEq, Value.slice.injEq, and_true] at h
  obtain ⟨rfl, rfl, rfl, rfl⟩ := h
  exact ⟨_, _, _, _, _, _, rfl, h1, h2⟩
theorem RatC.ofInt {w : World} {n : Bool} {p : Option Addr} {k c : Nat} {z : Int} (h1 : IntC w (.agg #[.bool n, .slice p k c]) z) : RatC w (.agg #[.bool n, .slice p k c, .slice none 0 0]) (z : Rat) := RatC.mk h1 (NatL.nil w)
theorem ratZero (w : World) : RatC w (.agg #[.bool false, .slice none 0 0, .slice none 0 0]) 0 := by
  refine ⟨none, 0, 0, none, 0, 0, rfl, ?_, NatL.nil w⟩
  rw [show digs (Rat.num 0).natAbs = [] from digs_zero]
  exact NatL.nil w

/-- three cells of a block that may be written -/
def Three (w : World) (b : Nat) (x y z : Value) : Prop := ∃ t, w.heap[b]? = some (.cells #[x, y, z] t (0, 0))
theorem Three.lt {w : World} {b : Nat} {x y z : Value} (h : Three w b x y z) : b < w.heap.size := by
  obtain ⟨t, h⟩ := h
  rcases Nat.lt_or_ge b w.heap.size with h' | h'
  · exact h'
  · rw [Array.getElem?_eq_none h'] at h; cases h
theorem Three.grow {w w' : World} {b : Nat} {x y z : Value} (h : Three w b x y z) (g : Gr w w') : Three w' b x y z := by
  have hl := h.lt
  obtain ⟨t, h⟩ := h; exact ⟨t, by rw [Below.block g b hl]; exact h⟩
theorem Three.c0 {w : World} {b : Nat} {x y z : Value} (h : Three w b x y z) : ∀ w', Gr w w' → w'.cell? ⟨b, 0, none⟩ = some x := fun w' g => by
  obtain ⟨t, h⟩ := h.grow g; simp [World.cell?, h]
theorem Three.c1 {w : World} {b : Nat} {x y z : Value} (h : Three w b x y z) : ∀ w', Gr w w' → w'.cell? ⟨b, 1, none⟩ = some y := fun w' g => by
  obtain ⟨t, h⟩ := h.grow g; simp [World.cell?, h]
theorem Three.c2 {w : World} {b : Nat} {x y z : Value} (h : Three w b x y z) : ∀ w', Gr w w' → w'.cell? ⟨b, 2, none⟩ = some z := fun w' g => by
  obtain ⟨t, h⟩ := h.grow g; simp [World.cell?, h]
theorem Three.f0 {w : World} {b : Nat} {x y z : Value} (h : Three w b x y z) (i : Nat) : w.frozen? ⟨b, i, none⟩ = false := by
  obtain ⟨t, h⟩ := h; simp [World.frozen?, h]
theorem Three.load {w : World} {b : Nat} {x y z : Value} (h : Three w b x y z) : w.cell? ⟨b, 0, none⟩ = some x ∧ w.cell? ⟨b, 1, none⟩ = some y ∧ w.cell? ⟨b, 2, none⟩ = some z :=
  ⟨h.c0 w (Gr.refl w), h.c1 w (Gr.refl w), h.c2 w (Gr.refl w)⟩
theorem Three.new (w : World) (x y z : Value) (t : TypeId) : Three (w.alloc (.cells #[x, y, z] t)) w.heap.size x y z := ⟨t, heap_alloc_new w _⟩
/-- the three cells of a box set -/
def set3 (w : World) (b : Nat) (x y z : Value) : World := ((w.setCell ⟨b, 0, none⟩ x).setCell ⟨b, 1, none⟩ y).setCell ⟨b, 2, none⟩ z
/-- the two cells of a box set -/
def set2 (w : World) (b : Nat) (x y : Value) : World := (w.setCell ⟨b, 0, none⟩ x).setCell ⟨b, 1, none⟩ y
theorem Three.set {w : World} {b : Nat} {x y z : Value} (h : Three w b x y z) (u v s : Value) : Three (((w.setCell ⟨b, 0, none⟩ u).setCell ⟨b, 1, none⟩ v).setCell ⟨b, 2, none⟩ s) b u v s := by
  obtain ⟨t, h⟩ := h
  refine ⟨t, ?_⟩
  simp [World.setCell, Array.getElem?_modify, h]

/-- only the block b is another one -/
def Upd (b : Nat) (w w' : World) : Prop := ∀ i, i ≠ b → w'.heap[i]? = w.heap[i]?
theorem upd2 (w : World) (b : Nat) (u v : Value) : Upd b w ((w.setCell ⟨b, 0, none⟩ u).setCell ⟨b, 1, none⟩ v) := fun i hi => by
  rw [Below.heap_setCell _ _ _ _ hi, Below.heap_setCell _ _ _ _ hi]
theorem upd3 (w : World) (b : Nat) (u v s : Value) : Upd b w (((w.setCell ⟨b, 0, none⟩ u).setCell ⟨b, 1, none⟩ v).setCell ⟨b, 2, none⟩ s) := fun i hi => by
  rw [Below.heap_setCell _ _ _ _ hi, Below.heap_setCell _ _ _ _ hi, Below.heap_setCell _ _ _ _ hi]
/-- a block whose cells hold no digit -/
def NoInt (w : World) (b : Nat) : Prop := ∃ (a : Array Value) (t : TypeId), w.heap[b]? = some (.cells a t (0, 0)) ∧ ∀ (i : Nat) (k : IntKind) (z : Int), a[i]? ≠ some (Value.int k z)
theorem Two.noInt {w : World} {b : Nat} {s : Bool} {p : Option Addr} {k c : Nat} (h : Two w b (.bool s) (.slice p k c)) : NoInt w b := by
  obtain ⟨t, h⟩ := h
  refine ⟨_, t, h, fun i k z => ?_⟩
  match i with
  | 0 => simp
  | 1 => simp
  | n + 2 => simp
theorem Three.noInt {w : World} {b : Nat} {s : Bool} {p q : Option Addr} {k c m e : Nat} (h : Three w b (.bool s) (.slice p k c) (.slice q m e)) : NoInt w b := by
  obtain ⟨t, h⟩ := h
  refine ⟨_, t, h, fun i k z => ?_⟩
  match i with
  | 0 => simp
  | 1 => simp
  | 2 => simp
  | n + 3 => simp
theorem NatL.upd {w w' : World} {v : Value} {l : List Nat} {b : Nat} (h : NatL w v l) (hb : NoInt w b) (hu : Upd b w w') : NatL w' v l := by
  obtain ⟨h0, q, d, rfl, h1, h2, h3⟩ := h
  refine ⟨h0, q, d, rfl, h1, h2, ?_⟩
  rcases h3 with h3 | ⟨b', o, rfl, hc⟩
  · exact .inl h3
  · refine .inr ⟨b', o, rfl, fun i hi => ?_⟩
    have hi' := hc i hi
    have hne : b' ≠ b := by
      intro e
      subst e
      obtain ⟨a, ty, t, ha⟩ := hb
      simp only [World.cell?, t] at hi'
      exact ha _ _ _ hi'
    rw [World.cell?_of_block (w := w) (hu b' hne)]
    exact hi'
theorem IntL.upd {w w' : World} {v : Value} {n : Bool} {l : List Nat} {b : Nat} (h : IntL w v n l) (hb : NoInt w b) (hu : Upd b w w') : IntL w' v n l := by
  obtain ⟨p, k, c, rfl, h⟩ := h; exact ⟨p, k, c, rfl, h.upd hb hu⟩
theorem IntC.upd {w w' : World} {v : Value} {z : Int} {b : Nat} (h : IntC w v z) (hb : NoInt w b) (hu : Upd b w w') : IntC w' v z := IntL.upd h hb hu
theorem IntV.upd {w w' : World} {v : Value} {z : Int} {L b : Nat} (h : IntV w v z L) (hb : NoInt w b) (hu : Upd b w w') : IntV w' v z L := by
  obtain ⟨n, l, h1, h2⟩ := h; exact ⟨n, l, h1.upd hb hu, h2⟩
theorem RatL.upd {w w' : World} {v : Value} {n : Bool} {l d : List Nat} {b : Nat} (h : RatL w v n l d) (hb : NoInt w b) (hu : Upd b w w') : RatL w' v n l d := by
  obtain ⟨p, k, c, q, m, e, rfl, h1, h2⟩ := h; exact ⟨p, k, c, q, m, e, rfl, h1.upd hb hu, h2.upd hb hu⟩
theorem RatC.upd {w w' : World} {v : Value} {x : Rat} {b : Nat} (h : RatC w v x) (hb : NoInt w b) (hu : Upd b w w') : RatC w' v x := RatL.upd h hb hu
theorem RatV.upd {w w' : World} {v : Value} {x : Rat} {L b : Nat} (h : RatV w v x L) (hb : NoInt w b) (hu : Upd b w w') : RatV w' v x L := by
  obtain ⟨n, l, d, h1, h2⟩ := h; exact ⟨n, l, d, h1.upd hb hu, h2⟩
theorem Two.upd {w w' : World} {b b' : Nat} {x y : Value} (h : Two w b' x y) (hu : Upd b w w') (hne : b' ≠ b) : Two w' b' x y := by
  obtain ⟨t, h⟩ := h; exact ⟨t, by rw [hu b' hne]; exact h⟩
theorem Three.upd {w w' : World} {b b' : Nat} {x y z : Value} (h : Three w b' x y z) (hu : Upd b w w') (hne : b' ≠ b) : Three w' b' x y z := by
  obtain ⟨t, h⟩ := h; exact ⟨t, by rw [hu b' hne]; exact h⟩
theorem Gr.three {a w : World} (g : Gr a w) {b : Nat} (hb : ¬ b < a.heap.size) (u v s : Value) : Gr a (((w.setCell ⟨b, 0, none⟩ u).setCell ⟨b, 1, none⟩ v).setCell ⟨b, 2, none⟩ s) :=
  Below.setCell (Below.setCell (Below.setCell g (by show a.heap.size ≤ b; omega) u) (by show a.heap.size ≤ b; omega) v) (by show a.heap.size ≤ b; omega) s

/-- the end of a function whose result is a fraction in a box of its own -/
theorem ret_rat {w w3 : World} {x : Rat} {b : Nat} {s sg : Bool} {p p3 q q3 : Option Addr} {k c k3 c3 m e m3 e3 : Nat} (hb : ¬ b < w.heap.size) (g : Gr w w3) (t : Three w3 b (.bool s) (.slice p k c) (.slice q m e))
    (h : RatC w3 (.agg #[.bool sg, .slice p3 k3 c3, .slice q3 m3 e3]) x) :
    Ret w (fun r w' => RatC w' r x) (.returned (.agg #[.bool sg, .slice p3 k3 c3, .slice q3 m3 e3])) (((w3.setCell ⟨b, 0, none⟩ (.bool sg)).setCell ⟨b, 1, none⟩ (.slice p3 k3 c3)).setCell ⟨b, 2, none⟩ (.slice q3 m3 e3)) :=
  ⟨_, rfl, g.three hb _ _ _, h.upd t.noInt (upd3 _ _ _ _ _)⟩

theorem IntV.int {w : World} {v : Value} {z : Int} {L : Nat} (h : IntV w v z L) : ∃ n p k c l, v = .agg #[.bool n, .slice p k c] ∧ NatL w (.slice p k c) l ∧ zval n l = z ∧ l.length ≤ L := by
  obtain ⟨n, l, ⟨p, k, c, rfl, h⟩, h2, h3⟩ := h
  exact ⟨n, p, k, c, l, rfl, h, h2, h3⟩
theorem IntV.mono {w : World} {v : Value} {z : Int} {L M : Nat} (h : IntV w v z L) (hM : L ≤ M) : IntV w v z M := by
  obtain ⟨n, l, h1, h2, h3⟩ := h; exact ⟨n, l, h1, h2, Nat.le_trans h3 hM⟩
theorem IntV.nat {w : World} {p : Option Addr} {k c : Nat} {l : List Nat} {L : Nat} (h : NatL w (.slice p k c) l) (hl : l.length ≤ L) : IntV w (.agg #[.bool false, .slice p k c]) (nval l : Int) L :=
  ⟨false, l, ⟨p, k, c, rfl, h⟩, rfl, hl⟩
theorem len_one (z : Int) (h1 : -4294967296 < z) (h2 : z < 4294967296) : (digs z.natAbs).length ≤ 1 := by
  refine digs_length_le ?_
  rw [Nat.pow_one]
  unfold BB
  omega

theorem e_Fix (w : World) (va : Value) (x : Int) (L : Nat) (hx : IntV w va x L) (hL : L ≤ 1000000) :
    Calls Tryz.prog 56 #[va] w (Ret w fun r w' => ResV w' r x L) := by
  have hl := hx.len
  obtain ⟨n, l, h1, rfl, h3⟩ := hx
  exact v_of hl (ref2_Fix w va n l _ rfl h1 (by omega))
theorem e_Neg (w : World) (va : Value) (x z : Int) (L : Nat) (hx : IntV w va x L) (hz : - x = z) (hL : L ≤ 1000000) :
    Calls Tryz.prog 59 #[va] w (Ret w fun r w' => ResV w' r z L) := by
  have h := hx.len
  rw [show x.natAbs = z.natAbs by omega] at h
  obtain ⟨n, l, h1, rfl, h3⟩ := hx
  exact v_of h (ref2_Neg w va n l z hz h1 (by omega))
theorem e_Mul (w : World) (va vb : Value) (x y z : Int) (L M : Nat) (hx : IntV w va x L) (hy : IntV w vb y M) (hz : x * y = z) (hL : L ≤ 1000000) (hM : M ≤ 1000000) :
    Calls Tryz.prog 76 #[va, vb] w (Ret w fun r w' => ResV w' r z (L + M + 1)) := by
  have h := len_mul hx.len hy.len
  rw [hz] at h
  refine v_of h ?_
  obtain ⟨n, l, h1, rfl, h3⟩ := hx
  obtain ⟨n', l', k1, rfl, k3⟩ := hy
  exact ref2_Mul w va vb n n' l l' z hz h1 k1 (by omega) (by omega)
theorem e_Add (w : World) (va vb : Value) (x y z : Int) (L M : Nat) (hx : IntV w va x L) (hy : IntV w vb y M) (hz : x + y = z) (hL : L ≤ 1000000) (hM : M ≤ 1000000) :
    Calls Tryz.prog 17 #[va, vb] w (Ret w fun r w' => ResV w' r z (L + M + 1)) := by
  have h := len_add hx.len hy.len
  rw [hz] at h
  refine v_of h ?_
  obtain ⟨n, l, h1, rfl, h3⟩ := hx
  obtain ⟨n', l', k1, rfl, k3⟩ := hy
  exact ref2_Add w va vb n n' l l' z hz h1 k1 (by omega) (by omega)
theorem e_Sub (w : World) (va vb : Value) (x y z : Int) (L M : Nat) (hx : IntV w va x L) (hy : IntV w vb y M) (hz : x - y = z) (hL : L ≤ 1000000) (hM : M ≤ 1000000) :
    Calls Tryz.prog 18 #[va, vb] w (Ret w fun r w' => ResV w' r z (L + M + 1)) := by
  have h := len_sub hx.len hy.len
  rw [hz] at h
  refine v_of h ?_
  obtain ⟨n, l, h1, rfl, h3⟩ := hx
  obtain ⟨n', l', k1, rfl, k3⟩ := hy
  exact ref2_Sub w va vb n n' l l' z hz h1 k1 (by omega) (by omega)
theorem e_Sign (w : World) (va : Value) (x z : Int) (L : Nat) (hx : IntV w va x L) (hz : sgn x = z) (hL : L ≤ 1000000) :
    Calls Tryz.prog 84 #[va] w (Ret w fun r w' => r = .int .i64 z) := by
  obtain ⟨n, l, h1, rfl, h3⟩ := hx
  exact ref2_Sign w va n l z hz h1 (by omega)
theorem v_Quo (w : World) (va vb : Value) (x y Q : Int) (L M : Nat) (hx : IntV w va x L) (hy : IntV w vb y M) (h0 : y ≠ 0) (hQ : quoZ false x y = Q) (hL : L ≤ 1000000) (hM : M ≤ 1000000) :
    Calls Tryz.prog 80 #[va, vb] w (Ret w fun r w' => ∃ q s, r = .tuple #[q, s, .int .i64 0] ∧ IntC w' q Q ∧ IntC w' s (x - Q * y)) := by
  obtain ⟨n, l, h1, rfl, h3⟩ := hx
  obtain ⟨n', l', k1, rfl, k3⟩ := hy
  exact int_Quo w va vb n n' l l' _ _ Q _ rfl rfl hQ rfl h1 k1 (by omega) (by omega) h0
theorem v_Floor (w : World) (va vb : Value) (x y Q : Int) (L M : Nat) (hx : IntV w va x L) (hy : IntV w vb y M) (h0 : y ≠ 0) (hQ : quoZ true x y = Q) (hL : L ≤ 1000000) (hM : M ≤ 1000000) :
    Calls Tryz.prog 49 #[va, vb] w (Ret w fun r w' => ∃ q s, r = .tuple #[q, s, .int .i64 0] ∧ IntC w' q Q ∧ IntC w' s (x - Q * y)) := by
  obtain ⟨n, l, h1, rfl, h3⟩ := hx
  obtain ⟨n', l', k1, rfl, k3⟩ := hy
  exact int_Floor w va vb n n' l l' _ _ Q _ rfl rfl hQ rfl h1 k1 (by omega) (by omega) h0
end Go.Proofs.YtmcgkglmlfbijaaGreatDoor

/-
  Integers by value and length: the functions of integer and of its reference, stated so that results feed the next call.
-/
import Derived.Test.YtpjblmedcipopaaLawB
namespace Go.Proofs.Ytpjblmedcipopaa
open Go.RowKit
set_option linter.unusedVariables false
set_option linter.unusedSimpArgs false

/-- v is an integer of value x, in at most L digits (it need not be in its only form) -/
def IntV (w : World) (v : Value) (x : Int) (L : Nat) : Prop := ∃ n l, IntL w v n l ∧ zval n l = x ∧ l.length ≤ L
theorem IntV.grow {w w' : World} {v : Value} {x : Int} {L : Nat} (h : IntV w v x L) (g : Gr w w') : IntV w' v x L := by
  obtain ⟨n, l, h1, h2⟩ := h; exact ⟨n, l, h1.grow g, h2⟩
theorem IntV.len {w : World} {v : Value} {x : Int} {L : Nat} (h : IntV w v x L) : (digs x.natAbs).length ≤ L := by
  obtain ⟨n, l, h1, rfl, h3⟩ := h
  rw [zval_natAbs]
  exact Nat.le_trans (digs_nval_length h1.dig) h3
theorem IntC.v {w : World} {v : Value} {x : Int} {L : Nat} (h : IntC w v x) (hL : (digs x.natAbs).length ≤ L) : IntV w v x L := ⟨_, _, h, zval_digs x, hL⟩

theorem zeroV (w : World) : IntV w (.agg #[.bool false, .slice none 0 0]) 0 0 :=
  ⟨false, [], ⟨none, 0, 0, rfl, fun x hx => (by cases hx), none, 0, rfl, Nat.le_refl _, by omega, .inl ⟨rfl, rfl⟩⟩, rfl, Nat.le_refl _⟩

theorem len_add {x y : Int} {L M : Nat} (hx : (digs x.natAbs).length ≤ L) (hy : (digs y.natAbs).length ≤ M) : (digs (x + y).natAbs).length ≤ L + M + 1 := by
  refine Nat.le_trans (digs_mono_length (b := x.natAbs + y.natAbs) (by omega)) ?_
  exact digs_add_length (k := L + M) (by omega) (by omega)
theorem len_sub {x y : Int} {L M : Nat} (hx : (digs x.natAbs).length ≤ L) (hy : (digs y.natAbs).length ≤ M) : (digs (x - y).natAbs).length ≤ L + M + 1 := by
  refine Nat.le_trans (digs_mono_length (b := x.natAbs + y.natAbs) (by omega)) ?_
  exact digs_add_length (k := L + M) (by omega) (by omega)
theorem len_mul {x y : Int} {L M : Nat} (hx : (digs x.natAbs).length ≤ L) (hy : (digs y.natAbs).length ≤ M) : (digs (x * y).natAbs).length ≤ L + M + 1 := by
  rw [Int.natAbs_mul]
  exact Nat.le_succ_of_le (digs_mul_length hx hy)

/-- what the operations of two integers answer: the value in its only form, of bounded length -/
def ResV (w : World) (v : Value) (x : Int) (L : Nat) : Prop := IntC w v x ∧ IntV w v x L
theorem ResV.grow {w w' : World} {v : Value} {x : Int} {L : Nat} (h : ResV w v x L) (g : Gr w w') : ResV w' v x L := ⟨h.1.grow g, h.2.grow g⟩

theorem v_of {P : Program} {f : FuncId} {args : Array Value} {w : World} {z : Int} {L : Nat} (hL : (digs z.natAbs).length ≤ L) (h : Calls P f args w (Ret w fun r w' => IntC w' r z)) :
    Calls P f args w (Ret w fun r w' => ResV w' r z L) :=
  h.mono fun e w' ⟨v, he, hg, hv⟩ => ⟨v, he, hg, hv, hv.v hL⟩

theorem v_Add (w : World) (va vb : Value) (x y z : Int) (L M : Nat) (hx : IntV w va x L) (hy : IntV w vb y M) (hz : x + y = z) (hL : L ≤ 1000000) (hM : M ≤ 1000000) :
    Calls Try.prog 20 #[va, vb] w (Ret w fun r w' => ResV w' r z (L + M + 1)) := by
  have h := len_add hx.len hy.len
  rw [hz] at h
  refine v_of h ?_
  obtain ⟨n, l, h1, rfl, h3⟩ := hx
  obtain ⟨n', l', k1, rfl, k3⟩ := hy
  exact int_Add w va vb n n' l l' z hz h1 k1 (by omega) (by omega)
theorem v_Sub (w : World) (va vb : Value) (x y z : Int) (L M : Nat) (hx : IntV w va x L) (hy : IntV w vb y M) (hz : x - y = z) (hL : L ≤ 1000000) (hM : M ≤ 1000000) :
    Calls Try.prog 24 #[va, vb] w (Ret w fun r w' => ResV w' r z (L + M + 1)) := by
  have h := len_sub hx.len hy.len
  rw [hz] at h
  refine v_of h ?_
  obtain ⟨n, l, h1, rfl, h3⟩ := hx
  obtain ⟨n', l', k1, rfl, k3⟩ := hy
  exact int_Sub w va vb n n' l l' z hz h1 k1 (by omega) (by omega)
theorem v_Mul (w : World) (va vb : Value) (x y z : Int) (L M : Nat) (hx : IntV w va x L) (hy : IntV w vb y M) (hz : x * y = z) (hL : L ≤ 1000000) (hM : M ≤ 1000000) :
    Calls Try.prog 21 #[va, vb] w (Ret w fun r w' => ResV w' r z (L + M + 1)) := by
  have h := len_mul hx.len hy.len
  rw [hz] at h
  refine v_of h ?_
  obtain ⟨n, l, h1, rfl, h3⟩ := hx
  obtain ⟨n', l', k1, rfl, k3⟩ := hy
  exact int_Mul w va vb n n' l l' z hz h1 k1 (by omega) (by omega)
theorem v_Neg (w : World) (va : Value) (x z : Int) (L : Nat) (hx : IntV w va x L) (hz : - x = z) (hL : L ≤ 1000000) :
    Calls Try.prog 23 #[va] w (Ret w fun r w' => ResV w' r z L) := by
  have h := hx.len
  rw [show x.natAbs = z.natAbs by omega] at h
  refine v_of h ?_
  obtain ⟨n, l, h1, rfl, h3⟩ := hx
  exact int_Neg w va n l z hz h1 (by omega)
theorem v_Sign (w : World) (va : Value) (x z : Int) (L : Nat) (hx : IntV w va x L) (hz : sgn x = z) (hL : L ≤ 1000000) :
    Calls Try.prog 22 #[va] w (Ret w fun r w' => r = .int .i64 z) := by
  obtain ⟨n, l, h1, rfl, h3⟩ := hx
  exact int_Sign w va n l z hz h1 (by omega)
theorem v_Cmp (w : World) (va vb : Value) (x y z : Int) (L M : Nat) (hx : IntV w va x L) (hy : IntV w vb y M) (hz : cmpZ x y = z) (hL : L ≤ 1000000) (hM : M ≤ 1000000) :
    Calls Try.prog 25 #[va, vb] w (Ret w fun r w' => r = .int .i64 z) := by
  obtain ⟨n, l, h1, rfl, h3⟩ := hx
  obtain ⟨n', l', k1, rfl, k3⟩ := hy
  exact int_Cmp w va vb n n' l l' z hz h1 k1 (by omega) (by omega)
theorem v_Same (w : World) (va vb : Value) (x y : Int) (t : Bool) (hx : IntC w va x) (hy : IntC w vb y) (ht : decide (x = y) = t) :
    Calls Try.prog 13 #[va, vb] w (Ret w fun r w' => r = .bool t) :=
  ref2_Same w va vb _ _ _ _ t (by rw [IntC.same]; exact ht) hx hy
theorem v_Same2 (w : World) (va vb : Value) (x y : Int) (L M : Nat) (hx : ResV w va x L) (hy : ResV w vb y M) (h : x = y) :
    Calls Try.prog 13 #[va, vb] w (Ret w fun r w' => r = .bool true) :=
  v_Same w va vb x y true hx.1 hy.1 (decide_eq_true h)
end Go.Proofs.Ytpjblmedcipopaa

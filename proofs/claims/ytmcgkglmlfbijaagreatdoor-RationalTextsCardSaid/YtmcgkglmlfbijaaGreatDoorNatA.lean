/-
  Naturals by value and length: contracts that feed the next call; few; awake.
-/
import Derived.Test.YtmcgkglmlfbijaaGreatDoorNumD
import Derived.Test.YtmcgkglmlfbijaaGreatDoorFast
namespace Go.Proofs.YtmcgkglmlfbijaaGreatDoor
open Go.RowKit Go.Lib
set_option linter.unusedVariables false
set_option linter.unusedSimpArgs false

/-- v is a number of value x, in at most L digits (it need not be in its only form) -/
def NatV (w : World) (v : Value) (x L : Nat) : Prop := ∃ l, NatL w v l ∧ nval l = x ∧ l.length ≤ L
theorem NatV.grow {w w' : World} {v : Value} {x L : Nat} (h : NatV w v x L) (g : Gr w w') : NatV w' v x L := by
  obtain ⟨l, h1, h2⟩ := h; exact ⟨l, h1.grow g, h2⟩
theorem NatV.len {w : World} {v : Value} {x L : Nat} (h : NatV w v x L) : (digs x).length ≤ L := by
  obtain ⟨l, h1, rfl, h3⟩ := h
  exact Nat.le_trans (digs_nval_len h1.dig) h3
/-- a number in its only form, of bounded length -/
def NatR (w : World) (v : Value) (x L : Nat) : Prop := NatL w v (digs x) ∧ NatV w v x L
theorem NatR.grow {w w' : World} {v : Value} {x L : Nat} (h : NatR w v x L) (g : Gr w w') : NatR w' v x L := ⟨h.1.grow g, h.2.grow g⟩
theorem NatR.of {w : World} {v : Value} {x L : Nat} (h : NatL w v (digs x)) (hL : (digs x).length ≤ L) : NatR w v x L := ⟨h, _, h, nval_digs x, hL⟩
theorem nr_of {P : Program} {f : FuncId} {args : Array Value} {w : World} {z L : Nat} (hL : (digs z).length ≤ L) (h : Calls P f args w (Ret w fun r w' => NatL w' r (digs z))) :
    Calls P f args w (Ret w fun r w' => NatR w' r z L) :=
  h.mono fun e w' ⟨v, he, hg, hv⟩ => ⟨v, he, hg, NatR.of hv hL⟩
theorem add_len {x y L M : Nat} (hx : (digs x).length ≤ L) (hy : (digs y).length ≤ M) : (digs (x + y)).length ≤ L + M + 1 := digs_add_len (k := L + M) (by omega) (by omega)

theorem n_Add (w : World) (va vb : Value) (x y z L M : Nat) (hx : NatV w va x L) (hy : NatV w vb y M) (hz : x + y = z) (hL : L ≤ 1000000) (hM : M ≤ 1000000) :
    Calls Tryz.prog 98 #[va, vb] w (Ret w fun r w' => NatR w' r z (L + M + 1)) := by
  subst hz
  refine nr_of (add_len hx.len hy.len) ?_
  obtain ⟨l, h1, rfl, h3⟩ := hx
  obtain ⟨m, k1, rfl, k3⟩ := hy
  exact nat_Add w va vb l m h1 k1 (by omega) (by omega)
theorem r_Add (w : World) (va vb : Value) (x y z L M : Nat) (hx : NatV w va x L) (hy : NatV w vb y M) (hz : x + y = z) (hL : L ≤ 1000000) (hM : M ≤ 1000000) :
    Calls Tryz.prog 53 #[va, vb] w (Ret w fun r w' => NatR w' r z (L + M + 1)) := by
  subst hz
  refine nr_of (add_len hx.len hy.len) ?_
  obtain ⟨l, h1, rfl, h3⟩ := hx
  obtain ⟨m, k1, rfl, k3⟩ := hy
  exact ref_Add w va vb l m h1 k1 (by omega) (by omega)
theorem n_Mul (w : World) (va vb : Value) (x y z L M : Nat) (hx : NatV w va x L) (hy : NatV w vb y M) (hz : x * y = z) (hL : L ≤ 1000000) (hM : M ≤ 1000000) :
    Calls Tryz.prog 106 #[va, vb] w (Ret w fun r w' => NatR w' r z (L + M + 1)) := by
  subst hz
  refine nr_of (Nat.le_succ_of_le (digs_mul_len hx.len hy.len)) ?_
  obtain ⟨l, h1, rfl, h3⟩ := hx
  obtain ⟨m, k1, rfl, k3⟩ := hy
  exact nat_Mul w va vb l m h1 k1 (by omega) (by omega)
theorem r_Mul (w : World) (va vb : Value) (x y z L M : Nat) (hx : NatV w va x L) (hy : NatV w vb y M) (hz : x * y = z) (hL : L ≤ 1000000) (hM : M ≤ 1000000) :
    Calls Tryz.prog 79 #[va, vb] w (Ret w fun r w' => NatR w' r z (L + M + 1)) := by
  subst hz
  refine nr_of (Nat.le_succ_of_le (digs_mul_len hx.len hy.len)) ?_
  obtain ⟨l, h1, rfl, h3⟩ := hx
  obtain ⟨m, k1, rfl, k3⟩ := hy
  exact ref_Mul w va vb l m h1 k1 (by omega) (by omega)
theorem n_Cmp (w : World) (va vb : Value) (x y L M : Nat) (z : Int) (hx : NatV w va x L) (hy : NatV w vb y M) (hz : cmpZ x y = z) (hL : L ≤ 1000000) (hM : M ≤ 1000000) :
    Calls Tryz.prog 65 #[va, vb] w (Ret w fun r w' => r = .int .i64 z) := by
  subst hz
  obtain ⟨l, h1, rfl, h3⟩ := hx
  obtain ⟨m, k1, rfl, k3⟩ := hy
  exact (nat_Cmp w va vb l m h1 k1 (by omega) (by omega)).mono fun e w' ⟨he, hw⟩ => ⟨_, he, hw ▸ Gr.refl _, rfl⟩
theorem r_Cmp (w : World) (va vb : Value) (x y L M : Nat) (z : Int) (hx : NatV w va x L) (hy : NatV w vb y M) (hz : cmpZ x y = z) (hL : L ≤ 1000000) (hM : M ≤ 1000000) :
    Calls Tryz.prog 57 #[va, vb] w (Ret w fun r w' => r = .int .i64 z) := by
  subst hz
  obtain ⟨l, h1, rfl, h3⟩ := hx
  obtain ⟨m, k1, rfl, k3⟩ := hy
  exact ref_Cmp w va vb l m h1 k1 (by omega) (by omega)
theorem n_Same (w : World) (va vb : Value) (x y : Nat) (hx : NatL w va (digs x)) (hy : NatL w vb (digs y)) (h : x = y) :
    Calls Tryz.prog 60 #[va, vb] w (Ret w fun r w' => r = .bool true) := by
  subst h
  refine (ref_Same w va vb _ _ hx hy).mono ?_
  rintro e w' ⟨r, he, g, hr⟩
  exact ⟨r, he, g, by rw [hr]; simp⟩
theorem n_Trim (w : World) (va : Value) (x L : Nat) (hx : NatV w va x L) (hL : L ≤ 1000000) :
    Calls Tryz.prog 99 #[va] w (Ret w fun r w' => NatR w' r x L) := by
  have hl := hx.len
  obtain ⟨l, h1, rfl, h3⟩ := hx
  exact nr_of hl (ref_Trim w va l h1 (by omega))
theorem NatL.slice {w : World} {v : Value} {l : List Nat} (h : NatL w v l) : ∃ p k c, v = .slice p k c ∧ k = l.length := by
  obtain ⟨p, c, rfl, -⟩ := h.parts; exact ⟨p, _, c, rfl, rfl⟩

end Go.Proofs.YtmcgkglmlfbijaaGreatDoor

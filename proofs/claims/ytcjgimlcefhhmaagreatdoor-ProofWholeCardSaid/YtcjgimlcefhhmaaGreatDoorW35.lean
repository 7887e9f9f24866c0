/- Texts: PsP. -/
import Derived.Test.YtcjgimlcefhhmaaGreatDoorW12
import Derived.Test.YtcjgimlcefhhmaaGreatDoorW31
set_option linter.unusedVariables false
set_option linter.unusedSimpArgs false
set_option maxRecDepth 100000
set_option maxHeartbeats 12800000
namespace Go.Proofs.YtcjgimlcefhhmaaGreatDoor
namespace Prf
open Go.RowKit Go.Lib
def ξ7R (w0 w : World) (base : Nat) (q : Prg) (v : Value) : Prop :=
 ∃ a c b d T, v = .agg #[.slice a q.vars.length c, .slice b q.rows.length d] ∧ OwnL w base 62 5 encVar (.slice a q.vars.length c) q.vars ∧ OwnL w base 42 5 encRow (.slice b q.rows.length d) T ∧ T.map RowM.s = q.rows ∧ ∀ y ∈ T, ξ1G w0 y
theorem ξ7R.at {w0 w : World} {base : Nat} {q : Prg} {v : Value} (h : ξ7R w0 w base q v) (g : Gr w0 w) : ξC w v q := by
 obtain ⟨a, c, b, d, T, rfl, h1, h2, h3, h4⟩ := h
 exact ⟨a, c, b, d, rfl, h1.read, T, h2.read, h3, fun y hy => SlL.grow (h4 y hy) g⟩
theorem OwnL.fill {α : Type} {enc : α → List Value} {sz : Nat} {e : TypeId} {w : World} {base b : Nat} {v : Value} {l : List α} (h : OwnL w base e sz enc v l) (hne : v.ownBlock ≠ some b) (u0 u1 : Value) : OwnL ((w.setCell ⟨b, 0, none⟩ u0).setCell ⟨b, 1, none⟩ u1) base e sz enc v l := (h.other hne).other hne
structure ξ4b (w W : World) (b6 b7 b9 b10 n m ga ca ga2 ca2 : Nat) (pb : Option Addr) (cb : Nat) (pb2 : Option Addr) (cb2 : Nat) (A B : List VarM) (T T2 : List RowM) : Prop where
 g : Gr w W
 t6 : ξ0 W b6 #[.slice none 0 0, .slice none 0 0]
 t7 : ξ0 W b7 #[.slice none 0 0, .slice none 0 0]
 t9 : ξ0 W b9 #[.slice (some ⟨ga, 0, none⟩) n ca, .slice pb m cb]
 t10 : ξ0 W b10 #[.slice (some ⟨ga2, 0, none⟩) n ca2, .slice pb2 m cb2]
 oa : OwnL W w.heap.size 62 5 encVar (.slice (some ⟨ga, 0, none⟩) n ca) A
 ob : OwnL W w.heap.size 42 5 encRow (.slice pb m cb) T
 oa2 : OwnL W w.heap.size 62 5 encVar (.slice (some ⟨ga2, 0, none⟩) n ca2) B
 ob2 : OwnL W w.heap.size 42 5 encRow (.slice pb2 m cb2) T2
structure ξd9 (w : World) (b6 b7 b9 b10 ga ga2 : Nat) (v v2 : Value) : Prop where
 a0 : w.heap.size ≤ ga
 a6 : b6 ≠ ga
 a7 : b7 ≠ ga
 a9 : b9 ≠ ga
 a10 : b10 ≠ ga
 c0 : w.heap.size ≤ ga2
 c6 : b6 ≠ ga2
 c7 : b7 ≠ ga2
 c9 : b9 ≠ ga2
 c10 : b10 ≠ ga2
 ac : ga ≠ ga2
 va : v.ownBlock ≠ some ga
 vc : v.ownBlock ≠ some ga2
 ua : v2.ownBlock ≠ some ga
 uc : v2.ownBlock ≠ some ga2
 v6 : v.ownBlock ≠ some b6
 v7 : v.ownBlock ≠ some b7
 u6 : v2.ownBlock ≠ some b6
 u7 : v2.ownBlock ≠ some b7
section
variable {w W W' : World} {b6 b7 b9 b10 n m ga ca ga2 ca2 : Nat} {pb : Option Addr} {cb : Nat} {pb2 : Option Addr} {cb2 : Nat} {A B : List VarM} {T T2 : List RowM}
theorem ξ4b.grow (h : ξ4b w W b6 b7 b9 b10 n m ga ca ga2 ca2 pb cb pb2 cb2 A B T T2) (g : Gr W W') : ξ4b w W' b6 b7 b9 b10 n m ga ca ga2 ca2 pb cb pb2 cb2 A B T T2 :=
 ⟨h.g.trans g, h.t6.grow g, h.t7.grow g, h.t9.grow g, h.t10.grow g, h.oa.grow g, h.ob.grow g, h.oa2.grow g, h.ob2.grow g⟩
theorem ξ4b.putB (h : ξ4b w W b6 b7 b9 b10 n m ga ca ga2 ca2 pb cb pb2 cb2 A B T T2) (k : ξd9 w b6 b7 b9 b10 ga ga2 (.slice pb m cb) (.slice pb2 m cb2)) {i : Nat} {x : VarM} (y : VarM) (j : Nat) (u : Value) (hx : B[i]? = some x) (hj : j < 5) (hy : encVar y = (encVar x).set j u) :
  ξ4b w (W.setCell ⟨ga2, i * 5 + j, none⟩ u) b6 b7 b9 b10 n m ga ca ga2 ca2 pb cb pb2 cb2 A (B.set i y) T T2 :=
 have e := OwnL.putS ξ0D h.oa2 y j u hx hj hy
 have hu := ξx W ga2 (i * 5 + j) u
 ⟨Gr.set h.g (by have := k.c0; omega) _, h.t6.upd hu k.c6, h.t7.upd hu k.c7, h.t9.upd hu k.c9, h.t10.upd hu k.c10, h.oa.other (fun e => k.ac (Option.some.inj e)), h.ob.other k.vc, e.2.2.2.2, h.ob2.other k.uc⟩
end
theorem ξ9N {vs : List VarM} {j : Nat} {x : VarM} {m : Int} (h : vs[j]? = some x) : setUp vs (j : Int) m = vs.set j { x with up := min x.up m } := by
 refine List.ext_getElem? fun i => ?_
 rw [ξ68]
 by_cases e : i = j
 ·subst e
  rw [h, List.getElem?_set_self (List.getElem?_eq_some_iff.1 h).1]
  simp
 ·rw [List.getElem?_set_ne (by omega)]
  cases vs[i]? with
  | none => rfl
  | some u => simp; omega
theorem ξ9e {vs : List VarM} {j : Nat} {x : VarM} {m : Int} (h : vs[j]? = some x) : setLo vs (j : Int) m = vs.set j { x with lo := max x.lo m } := by
 refine List.ext_getElem? fun i => ?_
 rw [ξ5Y]
 by_cases e : i = j
 ·subst e
  rw [h, List.getElem?_set_self (List.getElem?_eq_some_iff.1 h).1]
  simp
 ·rw [List.getElem?_set_ne (by omega)]
  cases vs[i]? with
  | none => rfl
  | some u => simp; omega
end Prf
end Go.Proofs.YtcjgimlcefhhmaaGreatDoor

/- Texts: PsI. -/
import Derived.Test.YtcjgimlcefhhmaaGreatDoorW26
set_option linter.unusedVariables false
set_option linter.unusedSimpArgs false
set_option maxRecDepth 100000
set_option maxHeartbeats 12800000
namespace Go.Proofs.YtcjgimlcefhhmaaGreatDoor
namespace Prf
open Go.RowKit Go.Lib
def ξ4u (p : Prg) (y : List Rat) (base : Nat) (r : Value) (w : World) : Prop :=
 (ξ2u p y ∧ ∃ x : RowM, r = .tuple #[rowV x, .int .i64 0] ∧ x.s = roundRow p y ∧ ξn w base (.slice x.tp x.terms.length x.tc) x.terms) ∨ (¬ ξ2u p y ∧ ∃ e : Int, e ≠ 0 ∧ r = .tuple #[.agg rowZ, .int .i64 e])
section
variable {ops : Array Oper} {rest : List Oper} {o : Oper} {a : Act} {Q : Exit → Act → World → Prop} {w : World}
theorem ξ3f (hgd : o.guard = none) (s x : Operand) (ho : o.op = .call { callee := .builtin .append, args := #[s, x], argTypes := #[40, 40] }) (base : Nat) (v vx : Value) (l : List ξ8) (t : ξ8)
  (hs : a.eval s = v) (hown : ξn w base v l) (hx : a.eval x = vx) (hm : ξ0s w vx [t]) (hlen : l.length ≤ 1000000) (hbase : base ≤ w.heap.size)
  (h : ∀ v' w', ξn w' base v' (l ++ [t]) → w.grownBy w' v.ownBlock → Dk w w' → (v'.ownBlock = v.ownBlock ∨ v'.ownBlock = some w.heap.size) → wpList Tryz.prog ops Q rest (a.put o.dst v') w') : wpList Tryz.prog ops Q (o :: rest) a w := by
 obtain ⟨v', w', hr, h1, h2, h3, h4⟩ := ξ7G w base v vx l t o.type hown hm hlen hbase
 refine wpList_plain hgd (fun K hK => ?_)
 unfold Oper.wp execOp
 simp only [ho, resolve, invoke, builtin, Sem.run_bind, Sem.run_pure, Result.andThen_ok, List.map_toArray, List.map_cons, List.map_nil, hs, hx, hr]
 exact hK _ _ (h v' w' h1 h2 h3 h4)
end
theorem ξ4z {x : Rat} {L : Nat} (h : Sz L x) : (digs (ceilQ x).natAbs).length ≤ L + 1 := by
 have := ξ5R (ξ42 h)
 unfold ceilQ
 rwa [Int.natAbs_neg]
end Prf
end Go.Proofs.YtcjgimlcefhhmaaGreatDoor

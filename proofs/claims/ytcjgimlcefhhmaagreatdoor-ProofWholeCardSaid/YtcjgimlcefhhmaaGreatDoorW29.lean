/- Texts: PsL PsM. -/
import Derived.Test.YtcjgimlcefhhmaaGreatDoorW12
import Derived.Test.YtcjgimlcefhhmaaGreatDoorW26
import Derived.Test.YtcjgimlcefhhmaaGreatDoorW28
set_option linter.unusedVariables false
set_option linter.unusedSimpArgs false
set_option maxRecDepth 100000
set_option maxHeartbeats 12800000
namespace Go.Proofs.YtcjgimlcefhhmaaGreatDoor
open Go.RowKit Go.Lib
section
variable {α : Type} {enc : α → List Value} {sz : Nat} {P : Program} {a : Act} {o : Oper} {K : Act → World → Prop} {Q : Exit → Act → World → Prop} {w : World}
theorem OwnL.ofFresh {b base : Nat} {e : TypeId} (h : ξo #[] e b w) (hb : base ≤ b) : OwnL w base e sz enc (.slice (some ⟨b, 0, none⟩) 0 0) [] :=
 ⟨by simp, .inr ⟨b, 0, #[], rfl, hb, h, Nat.zero_le _, by simp [maxLen], by simp, by simp⟩⟩
theorem OwnL.ofFresh1 {b base : Nat} {e : TypeId} {Z : Array Value} {x : α} (h : ξo Z e b w) (hb : base ≤ b) (hz : Z.toList = enc x) (hl : (enc x).length = sz) : OwnL w base e sz enc (.slice (some ⟨b, 0, none⟩) 1 1) [x] := by
 have hs : Z.size = sz := by rw [← hl, ← hz]; simp
 refine ⟨by simp [hl], .inr ⟨b, 1, Z, rfl, hb, h, Nat.le_refl _, by simp [maxLen], by simp [hs], ?_⟩⟩
 rw [hz]
 simp [← hl]
theorem ξ05 (s x : Operand) (t e : TypeId) (z : Value) (bytes : Nat) (ho : o.op = .call { callee := .builtin .append, args := #[s, x], argTypes := #[t, t] })
  (ht : P.underlying t = some (.slice e)) (hinfo : (P.info? e).map (fun i => (i.zero, i.size, i.bytes)) = some (some z, sz, bytes)) (hzs : z.cells.size = sz) (hsz : 0 < sz) (he : ∀ x, (enc x).length = sz) (h1 : ∀ x, ∀ u ∈ enc x, u.oneCell' = true)
  (base : Nat) (v vx : Value) (l m : List α) (hs : a.eval s = v) (hown : OwnL w base e sz enc v l) (hx : a.eval x = vx) (hm : SlL w sz enc vx m)
  (hlen : (l.length + m.length) * bytes ≤ 140737488355328) (hlen2 : l.length + m.length ≤ 1000000000000) (hbase : base ≤ w.heap.size) (hpos : 0 < m.length)
  (h : ∀ v' w', OwnL w' base e sz enc v' (l ++ m) → w.grownBy w' v.ownBlock → (v'.ownBlock = v.ownBlock ∨ v'.ownBlock = some w.heap.size) → K (a.put o.dst v') w') : Oper.wp P o a w K Q := by
 obtain ⟨v', w', hr, h2, h3, h4⟩ := ξ1E (ty := o.type) t e z bytes ht hinfo hzs hsz he h1 base v vx l m hown hm hlen hlen2 hbase hpos
 unfold Oper.wp execOp
 simp only [ho, resolve, invoke, builtin, Sem.run_bind, Sem.run_pure, Result.andThen_ok, List.map_toArray, List.map_cons, List.map_nil, hs, hx, hr]
 exact h v' w' h2 h3 h4
theorem ξ1O (s x : Operand) (t e : TypeId) (z : Value) (bytes : Nat) (ho : o.op = .call { callee := .builtin .append, args := #[s, x], argTypes := #[t, t] })
  (ht : P.underlying t = some (.slice e)) (hinfo : (P.info? e).map (fun i => (i.zero, i.size, i.bytes)) = some (some z, sz, bytes)) (hzs : z.cells.size = sz) (hsz : 0 < sz) (he : ∀ x, (enc x).length = sz) (h1 : ∀ x, ∀ u ∈ enc x, u.oneCell' = true)
  (base b : Nat) (vx : Value) (m : List α) (hs : a.eval s = .slice (some ⟨b, 0, none⟩) 0 0) (hf : ξo #[] e b w) (hb : base ≤ b) (hx : a.eval x = vx) (hm : SlL w sz enc vx m)
  (hlen : m.length * bytes ≤ 140737488355328) (hlen2 : m.length ≤ 1000000000000)
  (h : ∀ v' w', OwnL w' base e sz enc v' m → Gr w w' → (v'.ownBlock = some b ∨ v'.ownBlock = some w.heap.size) → K (a.put o.dst v') w') : Oper.wp P o a w K Q := by
 have hown : OwnL w base e sz enc (.slice (some ⟨b, 0, none⟩) ([] : List α).length ([] : List α).length) [] := OwnL.ofFresh hf hb
 have hbase : base ≤ w.heap.size := Nat.le_trans hb (Nat.le_of_lt hf.lt)
 cases m with
 | nil =>
  obtain ⟨q, d, rfl, _, _⟩ := hm.parts
  exact ξ8N s x t e z bytes ho ht hinfo (some ⟨b, 0, none⟩) q 0 0 d hs (Nat.le_refl _) (.inl (by simp)) hx (h _ _ hown (Gr.refl w) (.inl rfl))
 | cons y m =>
  obtain ⟨v', w', hr, h2, h3⟩ := ξ3V (ty := o.type) t e z bytes ht hinfo hzs hsz he h1 base (some ⟨b, 0, none⟩) vx [] (y :: m) hown hm (by simpa using hlen) (by simpa using hlen2) hbase
  obtain ⟨v2, w2, hr2, k2, k3, k4⟩ := ξ1E (ty := o.type) t e z bytes ht hinfo hzs hsz he h1 base _ vx [] (y :: m) hown hm (by simpa using hlen) (by simpa using hlen2) hbase (by simp)
  have e1 := hr.symm.trans hr2
  injection e1 with e2 e3
  subst e2 e3
  unfold Oper.wp execOp
  simp only [List.length_nil] at hr
  simp only [ho, resolve, invoke, builtin, Sem.run_bind, Sem.run_pure, Result.andThen_ok, List.map_toArray, List.map_cons, List.map_nil, hs, hx, hr]
  exact h _ _ (by simpa using h2) h3 k4
end
namespace Prf
theorem ξ0Q : (Tryz.prog.info? 42).map (fun i => (i.zero, i.size, i.bytes)) = some (some (.agg rowZ), 5, 64) := by kernel_rfl
theorem ξ0j : ∀ x, ∀ u ∈ encRow x, u.oneCell' = true := fun x u hu => by
 simp [encRow] at hu
 rcases hu with rfl | rfl | rfl | rfl | rfl <;> rfl
structure ξ8q (w W : World) (base bp b4 b6 : Nat) (u0 u1 : Value) (x : RowM) : Prop where
 g : Gr w W
 tp : ξ0 W bp #[u0, u1]
 t4 : ξ0 W b4 #[.slice none 0 0, .slice none 0 0]
 t6 : ξ0 W b6 #[.string ⟨x.name.toArray⟩, .int .i64 x.group, .int .i64 x.kind, .slice x.tp x.terms.length x.tc, .int .i64 x.bound]
 tx : ξn W base (.slice x.tp x.terms.length x.tc) x.terms
theorem ξ8q.grow {w W W' : World} {base bp b4 b6 : Nat} {u0 u1 : Value} {x : RowM} (h : ξ8q w W base bp b4 b6 u0 u1 x) (g : Gr W W') : ξ8q w W' base bp b4 b6 u0 u1 x :=
 ⟨h.g.trans g, h.tp.grow g, h.t4.grow g, h.t6.grow g, h.tx.grow g⟩
theorem OwnL.low {α : Type} {enc : α → List Value} {sz : Nat} {e : TypeId} {w : World} {base base' : Nat} {v : Value} {l : List α} (h : OwnL w base e sz enc v l) (hb : base' ≤ base) : OwnL w base' e sz enc v l := by
 obtain ⟨h1, h2⟩ := h
 refine ⟨h1, ?_⟩
 rcases h2 with h2 | ⟨g, cap, cur, hv, hbg, r⟩
 ·exact .inl h2
 ·exact .inr ⟨g, cap, cur, hv, Nat.le_trans hb hbg, r⟩
theorem fill2 {a w : World} {b : Nat} {x0 x1 : Value} (u0 u1 : Value) (h : ξ0 w b #[x0, x1]) (g : Gr a w) (hb : a.heap.size ≤ b) :
  Gr a ((w.setCell ⟨b, 0, none⟩ u0).setCell ⟨b, 1, none⟩ u1) ∧ ξ0 ((w.setCell ⟨b, 0, none⟩ u0).setCell ⟨b, 1, none⟩ u1) b #[u0, u1] ∧ Upd b w ((w.setCell ⟨b, 0, none⟩ u0).setCell ⟨b, 1, none⟩ u1) := by
 have hb' : ¬ b < a.heap.size := by omega
 refine ⟨Gr.set (Gr.set g hb' _) hb' _, ?_, fun i hi => ?_⟩
 ·have := (h.set 0 u0).set 1 u1
  simpa using this
 ·rw [Below.heap_setCell _ _ _ _ hi, Below.heap_setCell _ _ _ _ hi]
end Prf
end Go.Proofs.YtcjgimlcefhhmaaGreatDoor
namespace Go.Proofs.YtcjgimlcefhhmaaGreatDoor
namespace Prf
open Go.RowKit Go.Lib
end Prf
end Go.Proofs.YtcjgimlcefhhmaaGreatDoor

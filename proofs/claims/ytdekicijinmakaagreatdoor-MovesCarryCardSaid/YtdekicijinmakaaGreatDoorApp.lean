/-
  append to a row of the call's own: where the grown row lies.
-/
import Derived.Test.YtdekicijinmakaaGreatDoorSlc
namespace Go.Proofs.YtdekicijinmakaaGreatDoor
open Go.RowKit
set_option linter.unusedVariables false
set_option linter.unusedSimpArgs false

section append
variable {α : Type} {enc : α → List Value} {sz : Nat} {P : Program} {ops : Array Oper} {rest : List Oper} {o : Oper} {a : Act} {Q : Exit → Act → World → Prop} {w : World}
/-- the row that append hands back lies where the old one lay, or in a new block -/
theorem append_block (t ty e : TypeId) (z : Value) (bytes : Nat) (ht : P.underlying t = some (.slice e)) (hinfo : (P.info? e).map (fun i => (i.zero, i.size, i.bytes)) = some (some z, sz, bytes)) (hzs : z.cells.size = sz) (hsz : 0 < sz) (he : ∀ x, (enc x).length = sz) (h1 : ∀ x, ∀ u ∈ enc x, u.oneCell' = true)
    (base : Nat) (v vx : Value) (l m : List α) (hown : OwnL w base e sz enc v l) (hm : SlL w sz enc vx m)
    (hlen : (l.length + m.length) * bytes ≤ 140737488355328) (hlen2 : l.length + m.length ≤ 1000000000000) (hbase : base ≤ w.heap.size) (hpos : 0 < m.length) :
    ∃ v' w', (Builtin.append_ #[t, t] ty #[v, vx]).run P w = .ok v' w' ∧ OwnL w' base e sz enc v' (l ++ m) ∧ w.grownBy w' v.ownBlock ∧ (v'.ownBlock = v.ownBlock ∨ v'.ownBlock = some w.heap.size) := by
  obtain ⟨i0, hi, hz0, hz1, hz2⟩ := info_parts hinfo
  obtain ⟨hd, p, c, rfl, k1, k2, k3⟩ := hm
  rcases k3 with rfl | ⟨b, off, rfl, hc⟩
  · omega
  · have hnews : ∀ j u, (m.flatMap enc)[j]? = some u → w.cell? ((⟨b, off, none⟩ : Addr).add j) = some u := fun j u hu => by rw [addr_add0]; exact hc j u hu
    have hone : ∀ u ∈ m.flatMap enc, u.oneCell' = true := fun u hu => by
      obtain ⟨y, _, hy⟩ := List.mem_flatMap.1 hu
      exact h1 y u hy
    have hml := flat_len he m
    obtain ⟨v', w', hr, h2, h3, _⟩ := run_append_own (P := P) w base t ty e i0 z sz bytes ht hi hz0 hz1 hz2 hzs hsz v l.length (l.flatMap enc) hown ⟨b, off, none⟩ m.length c (m.flatMap enc) hml hnews hone (by unfold maxLen; omega) hlen hbase
    have hblk : v'.ownBlock = v.ownBlock ∨ v'.ownBlock = some w.heap.size := by
      subst hz1
      subst hz2
      have hown2 := hown.2
      rcases hown2 with ⟨rfl, h0⟩ | ⟨g, cap, cur, rfl, hbg, hg, hnc, hcm, hcs, htake⟩
      · have hr2 := run_append_nil (P := P) w t ty e i0 z ht hi hz0 ⟨b, off, none⟩ m.length c (m.flatMap enc) hml hnews hpos (by omega) (by have := hlen; rw [h0] at this; simp only [Nat.zero_add] at this; omega)
        have e1 := hr.symm.trans hr2
        injection e1 with e2 e3
        subst e2
        exact .inr rfl
      · by_cases hroom : l.length + m.length ≤ cap
        · have hfit : l.length * i0.size + (m.flatMap enc).length ≤ cur.size := by rw [hml, hcs, ← Nat.add_mul]; exact Nat.mul_le_mul_right _ hroom
          have hr2 := run_append_room (P := P) w t ty e i0 ht hi g l.length cap cur hg ⟨b, off, none⟩ m.length c (m.flatMap enc) hml hnews hone hroom hfit
          have e1 := hr.symm.trans hr2
          injection e1 with e2 e3
          subst e2
          exact .inl rfl
        · have holds : ∀ j u, (l.flatMap enc)[j]? = some u → w.cell? ((⟨g, 0, none⟩ : Addr).add j) = some u := World.ownsRow.cells (show w.ownsRow base e i0.size _ l.length (l.flatMap enc) from hown) (g := g) rfl
          have hr2 := run_append_grow (P := P) w t ty e i0 z ht hi hz0 ⟨g, 0, none⟩ l.length cap (l.flatMap enc) hown.1 holds ⟨b, off, none⟩ m.length c (m.flatMap enc) hml hnews (by omega) (by omega) (growslice_fits (by omega) hlen)
          have e1 := hr.symm.trans hr2
          injection e1 with e2 e3
          subst e2
          exact .inr rfl
    refine ⟨v', w', hr, ?_, h3, hblk⟩
    unfold OwnL
    rw [List.flatMap_append, List.length_append]
    exact h2
/-- append at the operation, with the place of the grown row -/
theorem wpList_appendB (hgd : o.guard = none) (s x : Operand) (t e : TypeId) (z : Value) (bytes : Nat) (ho : o.op = .call { callee := .builtin .append, args := #[s, x], argTypes := #[t, t] })
    (ht : P.underlying t = some (.slice e)) (hinfo : (P.info? e).map (fun i => (i.zero, i.size, i.bytes)) = some (some z, sz, bytes)) (hzs : z.cells.size = sz) (hsz : 0 < sz) (he : ∀ x, (enc x).length = sz) (h1 : ∀ x, ∀ u ∈ enc x, u.oneCell' = true)
    (base : Nat) (v vx : Value) (l m : List α) (hs : a.eval s = v) (hown : OwnL w base e sz enc v l) (hx : a.eval x = vx) (hm : SlL w sz enc vx m)
    (hlen : (l.length + m.length) * bytes ≤ 140737488355328) (hlen2 : l.length + m.length ≤ 1000000000000) (hbase : base ≤ w.heap.size) (hpos : 0 < m.length)
    (h : ∀ v' w', OwnL w' base e sz enc v' (l ++ m) → w.grownBy w' v.ownBlock → (v'.ownBlock = v.ownBlock ∨ v'.ownBlock = some w.heap.size) → wpList P ops Q rest (a.put o.dst v') w') : wpList P ops Q (o :: rest) a w := by
  obtain ⟨v', w', hr, h2, h3, h4⟩ := append_block (ty := o.type) t e z bytes ht hinfo hzs hsz he h1 base v vx l m hown hm hlen hlen2 hbase hpos
  refine wpList_plain hgd (fun K hK => ?_)
  unfold Oper.wp execOp
  simp only [ho, resolve, invoke, builtin, Sem.run_bind, Sem.run_pure, Result.andThen_ok, List.map_toArray, List.map_cons, List.map_nil, hs, hx, hr]
  exact hK _ _ (h v' w' h2 h3 h4)
end append
end Go.Proofs.YtdekicijinmakaaGreatDoor

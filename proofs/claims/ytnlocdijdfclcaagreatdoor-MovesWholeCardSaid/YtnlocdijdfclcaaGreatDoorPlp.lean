/-
  Plain laws of placements.
  The index of the first element with a property; the map of kinds of domains.
  append to a full row of the call's own: a new block, nothing old changed.
  A store into an element of a row of the call's own.
  Placements in memory; units, Units, index, find, State.
-/
import Derived.Test.YtnlocdijdfclcaaGreatDoorPln
import Derived.Test.YtnlocdijdfclcaaGreatDoorSiteA
import Derived.Test.YtnlocdijdfclcaaGreatDoorApp
import Derived.Test.YtnlocdijdfclcaaGreatDoorSlc
namespace Go.Proofs.YtnlocdijdfclcaaGreatDoor
open Go.RowKit Lex
set_option linter.unusedVariables false
set_option linter.unusedSimpArgs false

structure UnitM where
 mach : Int
 st : Int
abbrev Plc := List (List UnitM)
def onMach (m : Int) (u : UnitM) : Bool := u.mach == m
def past (m : Int) (u : UnitM) : Bool := decide (m < u.mach)
def unitsP (X : Plc) (item : Int) : List UnitM := if 1 ≤ item ∧ item ≤ (X.length : Int) then X.getD (item - 1).toNat [] else []
def idxP (X : Plc) (item m : Int) : Int := firstAt (onMach m) (unitsP X item)
def stateP (X : Plc) (item m : Int) : Int × Bool := match (unitsP X item).find? (onMach m) with
 | some u => (u.st, true)
 | none => (0, false)
def spotL (l : List UnitM) (m : Int) : Nat := match l.findIdx? (past m) with
 | some i => i
 | none => l.length
def putL (l : List UnitM) (u : UnitM) : List UnitM := match l.findIdx? (onMach u.mach) with
 | some i => l.set i u
 | none => l.take (spotL l u.mach) ++ u :: l.drop (spotL l u.mach)
def dropL (l : List UnitM) (m : Int) : List UnitM := match l.findIdx? (onMach m) with
 | some i => l.take i ++ l.drop (i + 1)
 | none => l
def withP (X : Plc) (item : Int) (l : List UnitM) : Plc := if 1 ≤ item ∧ item ≤ (X.length : Int) then X.set (item - 1).toNat l else X
def putP (X : Plc) (item m s : Int) : Plc := withP X item (putL (unitsP X item) ⟨m, s⟩)
def dropP (X : Plc) (item m : Int) : Plc := withP X item (dropL (unitsP X item) m)
def UnitOK (M : Mdl) (it : ItemM) (u : UnitM) : Prop := (1 ≤ u.mach ∧ u.mach ≤ (M.machs.length : Int)) ∧ (u.st = 0 ∨ u.st = 1 ∨ (u.st = 2 ∧ it.kind = 2))
def Rise (l : List UnitM) : Prop := ∀ (i j : Nat) (x y : UnitM), i < j → l[i]? = some x → l[j]? = some y → x.mach < y.mach
def PlcOK (M : Mdl) (X : Plc) : Prop := MdlOK M ∧ X.length = M.items.length ∧ ∀ (i : Nat) (l : List UnitM) (it : ItemM), X[i]? = some l → M.items[i]? = some it → Rise l ∧ ∀ u ∈ l, UnitOK M it u
def FewP (X : Plc) : Prop := X.length ≤ 24 ∧ ∀ l ∈ X, l.length ≤ 24
def FewK (X : Plc) : Prop := X.length ≤ 1000 ∧ ∀ l ∈ X, l.length ≤ 1000
theorem FewP.k {X : Plc} (h : FewP X) : FewK X := ⟨by have := h.1; omega, fun l hl => by have := h.2 l hl; omega⟩
end Go.Proofs.YtnlocdijdfclcaaGreatDoor
namespace Go.Proofs.YtnlocdijdfclcaaGreatDoor
open Go.RowKit Go.Lib Lex
set_option linter.unusedVariables false
set_option linter.unusedSimpArgs false

def PrdB {α : Type} (w : World) (v : Value) (enc : α → List Value) (ok : α → Bool) : Prop := ∃ (f : Nat) (caps : Array Value), v = .func (.func f) #[] caps ∧ (∀ args w, (callFunc f args).run Tryz.prog w = .ok (.enter f args) w) ∧
 ∀ w', Gr w w' → ∀ x : α, Calls Tryz.prog f (#[.agg (enc x).toArray] ++ caps) w' (Ret w' fun r _ => r = .bool (ok x))
set_option maxRecDepth 100000 in
theorem link_indexB (w : World) (p : Option Addr) (n c : Nat) (l : List LinkM) (v : Value) (ok : LinkM → Bool) (hl : SlL w 3 encLink (.slice p n c) l) (hn : l.length = n) (hb : n ≤ 1000000) (hv : PrdB w v encLink ok) :
  Calls Tryz.prog 129 #[.slice p n c, v] w (Ret w fun r _ => r = .int .i64 (firstAt ok l)) := by
 obtain ⟨f, caps, rfl, he, h5⟩ := hv
 have H5 := Lib.hid h5
 have HL := Lib.hid hl
 have HN := Lib.hid hn
 clear h5 hl hn
 go_enter Tryz.func129, Tryz.ntmps129
 go_wp2_with fail
 go_loopw [8] (fun i w1 => ∃ k : Nat, i = .int .i64 k ∧ k ≤ n ∧ (∀ (j : Nat) (x : LinkM), j < k → l[j]? = some x → ok x = false) ∧ Gr w w1) (fun i _ => n - (RowKit.intOf i).toNat)
 case atStart => exact ⟨0, rfl, Nat.zero_le _, fun j x hj => by omega, Gr.refl _⟩
 case round =>
  obtain ⟨k, rfl, hk, hp, hg⟩ := hrel
  have Hp := Lib.hid hp
  have G := Lib.hid hg
  clear hp hg
  by_cases hlt : k < n
  ·have hlt' : (k : Int) < (n : Int) := by omega
   obtain ⟨b, o, x, rfl, hx, hc⟩ := link_at HL.out HN.out hlt
   have HX := Lib.hid hx
   obtain ⟨c0, c1, c2⟩ := hc wr G.out
   clear hc hx
   go_wp2_with fail
   refine (H5.out wr G.out x).mono ?_
   rintro _ w2 ⟨r2, rfl, g2, rfl⟩
   have G := Lib.hid (G.out.trans g2)
   obtain ⟨t, ht⟩ : ∃ t, ok x = t := ⟨_, rfl⟩
   rw [ht]
   have Ht := Lib.hid ht
   clear g2 ht
   cases t
   ·go_wp2_with fail
    refine ⟨⟨k + 1, by go_num, by omega, fun j y hj hy => ?_, G.out⟩, by simp [RowKit.intOf]; omega⟩
    by_cases e : j = k
    ·subst e
     obtain rfl : y = x := Option.some.inj (hy.symm.trans HX.out)
     exact Ht.out
    ·exact Hp.out j y (by omega) hy
   ·go_wp2_with fail
    go_ret
    exact ⟨_, rfl, G.out, by rw [firstAt_some HX.out Ht.out Hp.out]; rfl⟩
  ·obtain rfl : n = k := by omega
   go_wp2_with fail
   go_ret
   exact ⟨_, rfl, G.out, by rw [firstAt_none (fun j x hj => Hp.out j x (by rw [HN.out] at hj; exact hj))]; rfl⟩
end Go.Proofs.YtnlocdijdfclcaaGreatDoor
namespace Go.Proofs.YtnlocdijdfclcaaGreatDoor
open Go.RowKit
set_option linter.unusedVariables false
set_option linter.unusedSimpArgs false

section append
variable {α : Type} {enc : α → List Value} {sz : Nat} {P : Program} {o : Oper} {a : Act} {K : Act → World → Prop} {Q : Exit → Act → World → Prop} {w : World}
theorem append_fresh (t ty e : TypeId) (z : Value) (bytes : Nat) (ht : P.underlying t = some (.slice e)) (hinfo : (P.info? e).map (fun i => (i.zero, i.size, i.bytes)) = some (some z, sz, bytes)) (hzs : z.cells.size = sz) (hsz : 0 < sz) (he : ∀ x, (enc x).length = sz) (h1 : ∀ x, ∀ u ∈ enc x, u.oneCell' = true)
  (base : Nat) (p : Option Addr) (vx : Value) (l m : List α) (hown : OwnL w base e sz enc (.slice p l.length l.length) l) (hm : SlL w sz enc vx m)
  (hlen : (l.length + m.length) * bytes ≤ 140737488355328) (hlen2 : l.length + m.length ≤ 1000000000000) (hbase : base ≤ w.heap.size) :
  ∃ v' w', (Builtin.append_ #[t, t] ty #[.slice p l.length l.length, vx]).run P w = .ok v' w' ∧ OwnL w' base e sz enc v' (l ++ m) ∧ Gr w w' := by
 obtain ⟨i0, hi, hz0, hz1, hz2⟩ := info_parts hinfo
 obtain ⟨hd, q, c, rfl, k1, k2, k3⟩ := hm
 by_cases hpos : 0 < m.length
 ·rcases k3 with rfl | ⟨b, off, rfl, hc⟩
  ·omega
  ·have hnews : ∀ j u, (m.flatMap enc)[j]? = some u → w.cell? ((⟨b, off, none⟩ : Addr).add j) = some u := fun j u hu => by rw [addr_add0]; exact hc j u hu
   have hone : ∀ u ∈ m.flatMap enc, u.oneCell' = true := fun u hu => by
    obtain ⟨y, _, hy⟩ := List.mem_flatMap.1 hu
    exact h1 y u hy
   have hml := flat_len he m
   obtain ⟨v', w', hr, h2, h3, _⟩ := run_append_own (P := P) w base t ty e i0 z sz bytes ht hi hz0 hz1 hz2 hzs hsz _ l.length (l.flatMap enc) hown ⟨b, off, none⟩ m.length c (m.flatMap enc) hml hnews hone (by unfold maxLen; omega) hlen hbase
   have hg : Gr w w' := by
    subst hz1
    subst hz2
    have hown2 := hown.2
    rcases hown2 with ⟨hv, h0⟩ | ⟨g, cap, cur, hv, hbg, hg, hnc, hcm, hcs, htake⟩
    ·injection hv with hv1 hv2 hv3
     subst hv1
     rw [hv2] at hr
     have hr2 := run_append_nil (P := P) w t ty e i0 z ht hi hz0 ⟨b, off, none⟩ m.length c (m.flatMap enc) hml hnews hpos (by omega) (by have := hlen; rw [h0] at this; simp only [Nat.zero_add] at this; omega)
     have e1 := hr.symm.trans hr2
     injection e1 with e2 e3
     subst e3
     exact (Gr.refl w).drew.alloc _
    ·injection hv with hv1 hv2 hv3
     subst hv1
     have holds : ∀ j u, (l.flatMap enc)[j]? = some u → w.cell? ((⟨g, 0, none⟩ : Addr).add j) = some u := World.ownsRow.cells (show w.ownsRow base e i0.size _ l.length (l.flatMap enc) from hown) (g := g) rfl
     have hr2 := run_append_grow (P := P) w t ty e i0 z ht hi hz0 ⟨g, 0, none⟩ l.length l.length (l.flatMap enc) hown.1 holds ⟨b, off, none⟩ m.length c (m.flatMap enc) hml hnews (by omega) (by omega) (growslice_fits (by omega) hlen)
     have e1 := hr.symm.trans hr2
     injection e1 with e2 e3
     subst e3
     exact (Gr.refl w).drew.alloc _
   refine ⟨v', w', hr, ?_, hg⟩
   unfold OwnL
   rw [List.flatMap_append, List.length_append]
   exact h2
 ·have hm0 : m = [] := List.eq_nil_of_length_eq_zero (by omega)
  subst hm0
  refine ⟨_, w, ?_, by rw [List.append_nil]; exact hown, Gr.refl w⟩
  cases p <;> cases q <;> simp [Builtin.append_, run_underlying ht, sizeOf, typeInfo, hi, Builtin.lenOf, Builtin.firstCells, loadCells, loadCellsFrom, storeCells]
theorem wp_appendF (s x : Operand) (t e : TypeId) (z : Value) (bytes : Nat) (ho : o.op = .call { callee := .builtin .append, args := #[s, x], argTypes := #[t, t] })
  (ht : P.underlying t = some (.slice e)) (hinfo : (P.info? e).map (fun i => (i.zero, i.size, i.bytes)) = some (some z, sz, bytes)) (hzs : z.cells.size = sz) (hsz : 0 < sz) (he : ∀ x, (enc x).length = sz) (h1 : ∀ x, ∀ u ∈ enc x, u.oneCell' = true)
  (base : Nat) (p : Option Addr) (vx : Value) (l m : List α) (hs : a.eval s = .slice p l.length l.length) (hown : OwnL w base e sz enc (.slice p l.length l.length) l) (hx : a.eval x = vx) (hm : SlL w sz enc vx m)
  (hlen : (l.length + m.length) * bytes ≤ 140737488355328) (hlen2 : l.length + m.length ≤ 1000000000000) (hbase : base ≤ w.heap.size)
  (h : ∀ v' w', OwnL w' base e sz enc v' (l ++ m) → Gr w w' → K (a.put o.dst v') w') : Oper.wp P o a w K Q := by
 obtain ⟨v', w', hr, h2, h3⟩ := append_fresh (ty := o.type) t e z bytes ht hinfo hzs hsz he h1 base p vx l m hown hm hlen hlen2 hbase
 unfold Oper.wp execOp
 simp only [ho, resolve, invoke, builtin, Sem.run_bind, Sem.run_pure, Result.andThen_ok, List.map_toArray, List.map_cons, List.map_nil, hs, hx, hr]
 exact h v' w' h2 h3
theorem append_slF (t ty e : TypeId) (z : Value) (bytes : Nat) (ht : P.underlying t = some (.slice e)) (hinfo : (P.info? e).map (fun i => (i.zero, i.size, i.bytes)) = some (some z, sz, bytes)) (hzs : z.cells.size = sz) (hsz : 0 < sz) (he : ∀ x, (enc x).length = sz)
  (p : Option Addr) (vx : Value) (l m : List α) (hs : SlL w sz enc (.slice p l.length l.length) l) (hm : SlL w sz enc vx m) (hpos : 0 < m.length)
  (hlen : (l.length + m.length) * bytes ≤ 140737488355328) (hlen2 : l.length + m.length ≤ 1000000000000) :
  ∃ v' w', (Builtin.append_ #[t, t] ty #[.slice p l.length l.length, vx]).run P w = .ok v' w' ∧ OwnL w' w.heap.size e sz enc v' (l ++ m) ∧ Gr w w' ∧ v'.ownBlock = some w.heap.size := by
 obtain ⟨i0, hi, hz0, hz1, hz2⟩ := info_parts hinfo
 obtain ⟨hd, q, c, rfl, k1, k2, k3⟩ := hm
 rcases k3 with rfl | ⟨b, off, rfl, hc⟩
 ·omega
 ·have hnews : ∀ j u, (m.flatMap enc)[j]? = some u → w.cell? ((⟨b, off, none⟩ : Addr).add j) = some u := fun j u hu => by rw [addr_add0]; exact hc j u hu
  have hml := flat_len he m
  have hll := flat_len he l
  subst hz1
  subst hz2
  have fin : ∀ old, (w.drew.alloc (.cells ((l.flatMap enc).toArray ++ (m.flatMap enc).toArray ++ Builtin.zeroCells z.cells (grownCap w (l.length + m.length) old e - (l.length + m.length))) e)).ownsRow w.heap.size e i0.size
    (.slice (some ⟨w.heap.size, 0, none⟩) (l.length + m.length) (grownCap w (l.length + m.length) old e)) (l.length + m.length) (l.flatMap enc ++ m.flatMap enc) := fun old => by
   have hge := grownCap_ge w (l.length + m.length) old e
   have hcm : grownCap w (l.length + m.length) old e ≤ maxLen := grownCap_le_maxLen w (l.length + m.length) old e (by unfold maxLen; omega)
   have hlen : (l.flatMap enc ++ m.flatMap enc).length = (l.length + m.length) * i0.size := by rw [List.length_append, hll, hml, Nat.add_mul]
   refine ⟨hlen, .inr ⟨w.heap.size, _, _, rfl, Nat.le_refl _, heap_alloc_new w.drew _, hge, hcm, ?_, ?_⟩⟩
   ·simp only [Array.size_append, List.size_toArray, size_zeroCells, hzs, hll, hml, ← Nat.add_mul]
    congr 1
    omega
   ·simp only [Array.toList_append, List.append_assoc]
    rw [← List.append_assoc, ← hlen]
    exact List.take_left
  have own : ∀ W v, World.ownsRow W w.heap.size e i0.size v (l.length + m.length) (l.flatMap enc ++ m.flatMap enc) → OwnL W w.heap.size e i0.size enc v (l ++ m) := fun W v h => by
   unfold OwnL
   rw [List.flatMap_append, List.length_append]
   exact h
  obtain ⟨hd2, q2, c2, hv, j1, j2, j3⟩ := hs
  injection hv with hv1 hv2 hv3
  subst hv1
  cases p with
  | none =>
   have hl0 : l = [] := by
    rcases j3 with j3 | ⟨b, o, h, _⟩
    ·exact List.eq_nil_of_length_eq_zero (by omega)
    ·cases h
   subst hl0
   have hr := run_append_nil (P := P) w t ty e i0 z ht hi hz0 ⟨b, off, none⟩ m.length c (m.flatMap enc) hml hnews hpos (by omega) (by have := hlen; simp only [List.length_nil, Nat.zero_add] at this; omega)
   refine ⟨_, _, hr, own _ _ ?_, (Gr.refl w).drew.alloc _, rfl⟩
   have := fin 0
   simpa using this
  | some a =>
   have holds : ∀ j u, (l.flatMap enc)[j]? = some u → w.cell? (a.add j) = some u := by
    rcases j3 with j3 | ⟨b, o, h, hc⟩
    ·have hl0 : l = [] := List.eq_nil_of_length_eq_zero (by omega)
     subst hl0
     intro j u hu
     simp at hu
    ·injection h with h
     subst h
     intro j u hu
     rw [addr_add0]
     exact hc j u hu
   have hr := run_append_grow (P := P) w t ty e i0 z ht hi hz0 a l.length l.length (l.flatMap enc) hll holds ⟨b, off, none⟩ m.length c (m.flatMap enc) hml hnews (by omega) (by omega) (growslice_fits (by omega) hlen)
   exact ⟨_, _, hr, own _ _ (fin _), (Gr.refl w).drew.alloc _, rfl⟩
theorem wp_appendS (s x : Operand) (t e : TypeId) (z : Value) (bytes : Nat) (ho : o.op = .call { callee := .builtin .append, args := #[s, x], argTypes := #[t, t] })
  (ht : P.underlying t = some (.slice e)) (hinfo : (P.info? e).map (fun i => (i.zero, i.size, i.bytes)) = some (some z, sz, bytes)) (hzs : z.cells.size = sz) (hsz : 0 < sz) (he : ∀ x, (enc x).length = sz)
  (p : Option Addr) (vx : Value) (l m : List α) (hs : a.eval s = .slice p l.length l.length) (hown : SlL w sz enc (.slice p l.length l.length) l) (hx : a.eval x = vx) (hm : SlL w sz enc vx m) (hpos : 0 < m.length)
  (hlen : (l.length + m.length) * bytes ≤ 140737488355328) (hlen2 : l.length + m.length ≤ 1000000000000)
  (h : ∀ v' w', OwnL w' w.heap.size e sz enc v' (l ++ m) → Gr w w' → v'.ownBlock = some w.heap.size → K (a.put o.dst v') w') : Oper.wp P o a w K Q := by
 obtain ⟨v', w', hr, h2, h3, h4⟩ := append_slF (ty := o.type) t e z bytes ht hinfo hzs hsz he p vx l m hown hm hpos hlen hlen2
 unfold Oper.wp execOp
 simp only [ho, resolve, invoke, builtin, Sem.run_bind, Sem.run_pure, Result.andThen_ok, List.map_toArray, List.map_cons, List.map_nil, hs, hx, hr]
 exact h v' w' h2 h3 h4
theorem wp_append0 (s x : Operand) (t e : TypeId) (z : Value) (bytes : Nat) (ho : o.op = .call { callee := .builtin .append, args := #[s, x], argTypes := #[t, t] })
  (ht : P.underlying t = some (.slice e)) (hinfo : (P.info? e).map (fun i => (i.zero, i.size, i.bytes)) = some (some z, sz, bytes))
  (p q : Option Addr) (n c d : Nat) (hs : a.eval s = .slice p n c) (hn : n ≤ c) (hp : p ≠ none ∨ c = 0) (hx : a.eval x = .slice q 0 d)
  (h : K (a.put o.dst (.slice p n c)) w) : Oper.wp P o a w K Q := by
 obtain ⟨i0, hi, hz0, hz1, hz2⟩ := info_parts hinfo
 have hr : (Builtin.append_ #[t, t] o.type #[.slice p n c, .slice q 0 d]).run P w = .ok (.slice p n c) w := by
  cases p with
  | none =>
   have hc : c = 0 := hp.resolve_left (fun h => h rfl)
   have hn0 : n = 0 := by omega
   subst hc hn0
   cases q <;> simp [Builtin.append_, run_underlying ht, sizeOf, typeInfo, hi, Builtin.lenOf, Builtin.firstCells, loadCells, loadCellsFrom]
  | some p => cases q <;> simp [Builtin.append_, run_underlying ht, sizeOf, typeInfo, hi, Builtin.lenOf, Builtin.firstCells, loadCells, loadCellsFrom, hn, storeCells]
 unfold Oper.wp execOp
 simp only [ho, resolve, invoke, builtin, Sem.run_bind, Sem.run_pure, Result.andThen_ok, List.map_toArray, List.map_cons, List.map_nil, hs, hx, hr]
 exact h
end append
end Go.Proofs.YtnlocdijdfclcaaGreatDoor
namespace Go.Proofs.YtnlocdijdfclcaaGreatDoor
open Go.RowKit
set_option linter.unusedVariables false
set_option linter.unusedSimpArgs false

section put
variable {α : Type} {enc : α → List Value} {sz : Nat}
theorem flat_set (he : ∀ x, (enc x).length = sz) : ∀ (l : List α) (k : Nat) (x y : α) (j : Nat) (u : Value), l[k]? = some x → j < sz → enc y = (enc x).set j u → (l.set k y).flatMap enc = (l.flatMap enc).set (k * sz + j) u
 | [], k, x, y, j, u, h, _, _ => by simp at h
 | z :: l, 0, x, y, j, u, h, hj, hy => by
  simp at h; subst h
  rw [List.set_cons_zero, List.flatMap_cons, List.flatMap_cons, hy, List.set_append_left _ _ (by rw [he]; omega)]
  simp
 | z :: l, k + 1, x, y, j, u, h, hj, hy => by
  have ih := flat_set he l k x y j u (by simpa using h) hj hy
  rw [List.set_cons_succ, List.flatMap_cons, List.flatMap_cons, ih, List.set_append_right _ _ (by rw [he, Nat.add_mul]; omega), he]
  congr 2
  rw [Nat.add_mul]; omega
theorem OwnL.put {w : World} {base : Nat} {e : TypeId} {v : Value} {l : List α} (he : ∀ x, (enc x).length = sz) (h : OwnL w base e sz enc v l) {k : Nat} {x y : α} {j : Nat} {u : Value} (hx : l[k]? = some x) (hj : j < sz) (hy : enc y = (enc x).set j u) :
  ∃ g cap, v = .slice (some ⟨g, 0, none⟩) l.length cap ∧ base ≤ g ∧ g < w.heap.size ∧ w.cell? ⟨g, k * sz + j, none⟩ = (enc x)[j]? ∧ w.frozen? ⟨g, k * sz + j, none⟩ = false ∧ OwnL (w.setCell ⟨g, k * sz + j, none⟩ u) base e sz enc v (l.set k y) := by
 have hk : k < l.length := (List.getElem?_eq_some_iff.1 hx).1
 have hfl := flat_len he l
 have hks : k * sz + j < l.length * sz := by
  have : (k + 1) * sz ≤ l.length * sz := Nat.mul_le_mul_right _ hk
  rw [Nat.add_mul] at this; omega
 obtain ⟨h1, h2⟩ := h
 rcases h2 with ⟨rfl, h0⟩ | ⟨g, cap, cur, rfl, hb, hh, hn, hm, hs, ht⟩
 ·omega
 ·have hcur : k * sz + j < cur.size := by rw [hs]; exact Nat.lt_of_lt_of_le hks (Nat.mul_le_mul_right _ hn)
  have hg := (Array.getElem?_eq_some_iff.1 hh).1
  have hcell : cur[k * sz + j]? = (enc x)[j]? := by
   rw [← flat_get he l k x j hx hj, ← ht, List.getElem?_take_of_lt (by omega)]
   simp
  refine ⟨g, cap, rfl, hb, hg, ?_, ?_, ?_, ?_⟩
  ·unfold World.cell?
   rw [show (⟨g, k * sz + j, none⟩ : Addr).block = g from rfl, hh]
   exact hcell
  ·unfold World.frozen?
   rw [show (⟨g, k * sz + j, none⟩ : Addr).block = g from rfl, hh]
   simp
  ·rw [flat_set he l k x y j u hx hj hy, List.length_set, List.length_set]; exact h1
  ·rw [List.length_set]
   refine .inr ⟨g, cap, cur.setIfInBounds (k * sz + j) u, rfl, hb, ?_, hn, hm, by simpa using hs, ?_⟩
   ·simp [World.setCell, Array.getElem?_modify, hh]
   ·rw [flat_set he l k x y j u hx hj hy, ← ht]
    simp [List.take_set]
theorem OwnL.putS {w : World} {base : Nat} {e : TypeId} {g n cap : Nat} {l : List α} (he : ∀ x, (enc x).length = sz) (h : OwnL w base e sz enc (.slice (some ⟨g, 0, none⟩) n cap) l) {k : Nat} {x : α} (y : α) (j : Nat) (u : Value) (hx : l[k]? = some x) (hj : j < sz) (hy : enc y = (enc x).set j u) :
  base ≤ g ∧ g < w.heap.size ∧ w.cell? ⟨g, k * sz + j, none⟩ = (enc x)[j]? ∧ w.frozen? ⟨g, k * sz + j, none⟩ = false ∧ OwnL (w.setCell ⟨g, k * sz + j, none⟩ u) base e sz enc (.slice (some ⟨g, 0, none⟩) n cap) (l.set k y) := by
 obtain ⟨g', cap', hv, h1, h2, h3, h4, h5⟩ := OwnL.put he h hx hj hy
 injection hv with hv _ _
 injection hv with hv
 injection hv with hv
 subst hv
 exact ⟨h1, h2, h3, h4, h5⟩
theorem OwnL.made {w : World} {base : Nat} {e : TypeId} {v : Value} {l : List α} (h : OwnL w base e sz enc v l) (hl : 0 < l.length) : ∃ g cap, v = .slice (some ⟨g, 0, none⟩) l.length cap ∧ base ≤ g ∧ g < w.heap.size ∧ l.length ≤ cap ∧ cap ≤ 9223372036854775807 := by
 obtain ⟨h1, h2⟩ := h
 rcases h2 with ⟨rfl, h0⟩ | ⟨g, cap, cur, rfl, hb, hh, hn, hm, hs, ht⟩
 ·omega
 ·exact ⟨g, cap, rfl, hb, (Array.getElem?_eq_some_iff.1 hh).1, hn, by simpa [maxLen] using hm⟩
theorem OwnL.other {w : World} {base : Nat} {e : TypeId} {v u : Value} {l : List α} {b i : Nat} (h : OwnL w base e sz enc v l) (hne : v.ownBlock ≠ some b) : OwnL (w.setCell ⟨b, i, none⟩ u) base e sz enc v l := by
 refine World.ownsRow.kept (row := some b) h ⟨rfl, rfl, rfl, ?_, fun k hk hn => Below.heap_setCell _ _ _ _ (fun e => hn (congrArg some e))⟩ (.inr hne)
 simp [World.setCell]
end put
end Go.Proofs.YtnlocdijdfclcaaGreatDoor
namespace Go.Proofs.YtnlocdijdfclcaaGreatDoor
open Go.RowKit Go.Lib Lex
set_option linter.unusedVariables false
set_option linter.unusedSimpArgs false

structure RowU where
 p : Option Addr
 c : Nat
 us : List UnitM
def encU (u : UnitM) : List Value := [.int .i64 u.mach, .int .i64 u.st]
def rowV (x : RowU) : Value := .slice x.p x.us.length x.c
def encRU (x : RowU) : List Value := [.slice x.p x.us.length x.c]
theorem encU_len (u : UnitM) : (encU u).length = 2 := rfl
theorem encRU_len (x : RowU) : (encRU x).length = 1 := rfl
theorem encU_one : ∀ x, ∀ u ∈ encU x, u.oneCell' = true := fun x u hu => by
 unfold encU at hu
 simp only [List.mem_cons, List.not_mem_nil, or_false] at hu
 rcases hu with rfl | rfl <;> rfl
theorem encRU_one : ∀ x, ∀ u ∈ encRU x, u.oneCell' = true := fun x u hu => by
 unfold encRU at hu
 simp only [List.mem_cons, List.not_mem_nil, or_false] at hu
 subst hu; rfl
theorem unit_info : (Tryz.prog.info? 69).map (fun i => (i.zero, i.size, i.bytes)) = some (some (.agg #[.int .i64 0, .int .i64 0]), 2, 16) := by kernel_rfl
theorem urow_info : (Tryz.prog.info? 64).map (fun i => (i.zero, i.size, i.bytes)) = some (some (.slice none 0 0), 1, 24) := by kernel_rfl
abbrev UnL (w : World) (v : Value) (l : List UnitM) : Prop := SlL w 2 encU v l
abbrev OwnU (w : World) (base : Nat) (v : Value) (l : List UnitM) : Prop := OwnL w base 69 2 encU v l
abbrev RowL (w : World) (v : Value) (L : List RowU) : Prop := SlL w 1 encRU v L
abbrev OwnR (w : World) (base : Nat) (v : Value) (L : List RowU) : Prop := OwnL w base 64 1 encRU v L
def RowOn (w : World) (x : RowU) : Prop := UnL w (.slice x.p x.us.length x.c) x.us
theorem RowOn.grow {w w' : World} {x : RowU} (h : RowOn w x) (g : Gr w w') : RowOn w' x := SlL.grow h g
def usOf (L : List RowU) : Plc := L.map RowU.us
def plcV (p : Option Addr) (c : Nat) (L : List RowU) : Value := .agg #[.slice p L.length c]
structure PlcAt (w : World) (p : Option Addr) (c : Nat) (L : List RowU) : Prop where
 rows : RowL w (.slice p L.length c) L
 uns : ∀ x ∈ L, RowOn w x
 big : L.length ≤ 17592186044416
 ubig : ∀ x ∈ L, x.us.length ≤ 17592186044416
theorem PlcAt.grow {w w' : World} {p : Option Addr} {c : Nat} {L : List RowU} (h : PlcAt w p c L) (g : Gr w w') : PlcAt w' p c L :=
 ⟨h.rows.grow g, fun x hx => (h.uns x hx).grow g, h.big, h.ubig⟩
def UnitCell (w : World) (b o : Nat) (x : UnitM) : Prop := w.cell? ⟨b, o, none⟩ = some (.int .i64 x.mach) ∧ w.cell? ⟨b, o + 1, none⟩ = some (.int .i64 x.st)
theorem unit_at {w : World} {p : Option Addr} {n c : Nat} {l : List UnitM} (h : UnL w (.slice p n c) l) (hn : l.length = n) {k : Nat} (hk : k < n) : ∃ b o x, p = some ⟨b, o, none⟩ ∧ l[k]? = some x ∧ ∀ w', Gr w w' → UnitCell w' b (o + k * 2) x := by
 obtain ⟨b, o, x, hp, hx, hc⟩ := SlL.at encU_len h hn hk
 exact ⟨b, o, x, hp, hx, fun w' g => ⟨hc 0 _ rfl w' g, hc 1 _ rfl w' g⟩⟩
theorem row_at {w : World} {p : Option Addr} {n c : Nat} {l : List RowU} (h : RowL w (.slice p n c) l) (hn : l.length = n) {k : Nat} (hk : k < n) : ∃ b o x, p = some ⟨b, o, none⟩ ∧ l[k]? = some x ∧ ∀ w', Gr w w' → w'.cell? ⟨b, o + k, none⟩ = some (.slice x.p x.us.length x.c) := by
 obtain ⟨b, o, x, hp, hx, hc⟩ := h.at1 encRU_len hn hk
 exact ⟨b, o, x, hp, hx, fun w' g => hc _ rfl w' g⟩
theorem row_cell {w : World} {b o n c : Nat} {L : List RowU} (h : RowL w (.slice (some ⟨b, o, none⟩) n c) L) {k : Nat} {x : RowU} (hx : L[k]? = some x) : ∀ w', Gr w w' → w'.cell? ⟨b, o + k, none⟩ = some (.slice x.p x.us.length x.c) := by
 have hn : L.length = n := by
  obtain ⟨p, c', hv, _⟩ := h.parts
  injection hv with _ h2 _
  exact h2.symm
 obtain ⟨b', o', y, hp, hy, hc⟩ := row_at h hn (show k < n from hn ▸ (List.getElem?_eq_some_iff.1 hx).1)
 injection hp with hp
 injection hp with e1 e2 _
 subst e1 e2
 obtain rfl : x = y := Option.some.inj (hx.symm.trans hy)
 exact hc
theorem unit_cell {w : World} {b o n c : Nat} {l : List UnitM} (h : UnL w (.slice (some ⟨b, o, none⟩) n c) l) {k : Nat} {x : UnitM} (hx : l[k]? = some x) : ∀ w', Gr w w' → UnitCell w' b (o + k * 2) x := by
 have hn : l.length = n := by
  obtain ⟨p, c', hv, _⟩ := h.parts
  injection hv with _ h2 _
  exact h2.symm
 obtain ⟨b', o', y, hp, hy, hc⟩ := unit_at h hn (show k < n from hn ▸ (List.getElem?_eq_some_iff.1 hx).1)
 injection hp with hp
 injection hp with e1 e2 _
 subst e1 e2
 obtain rfl : x = y := Option.some.inj (hx.symm.trans hy)
 exact hc
theorem usOf_at {L : List RowU} {k : Nat} {x : RowU} (h : L[k]? = some x) : (usOf L)[k]? = some x.us := by
 unfold usOf
 rw [List.getElem?_map, h]; rfl
theorem usOf_len (L : List RowU) : (usOf L).length = L.length := by unfold usOf; simp
theorem unitsP_at {L : List RowU} {k : Nat} {x : RowU} (h : L[k]? = some x) : unitsP (usOf L) ((k : Int) + 1) = x.us := by
 have hk := (List.getElem?_eq_some_iff.1 h).1
 unfold unitsP
 rw [if_pos ⟨by omega, by rw [usOf_len]; omega⟩, show ((k : Int) + 1 - 1).toNat = k by omega, List.getD_eq_getElem?_getD, usOf_at h]; rfl
theorem unitsP_out {L : List RowU} {item : Int} (h : ¬ (1 ≤ item ∧ item ≤ (L.length : Int))) : unitsP (usOf L) item = [] := by
 unfold unitsP
 rw [usOf_len, if_neg h]
def nilRow : RowU := ⟨none, 0, []⟩
theorem nilRow_on (w : World) : RowOn w nilRow := SlL.nil w
set_option maxRecDepth 100000 in
theorem unit_indexB (w : World) (p : Option Addr) (n c : Nat) (l : List UnitM) (v : Value) (ok : UnitM → Bool) (hl : SlL w 2 encU (.slice p n c) l) (hn : l.length = n) (hb : n ≤ 1000000) (hv : PrdB w v encU ok) :
  Calls Tryz.prog 54 #[.slice p n c, v] w (Ret w fun r _ => r = .int .i64 (firstAt ok l)) := by
 obtain ⟨f, caps, rfl, he, h5⟩ := hv
 have H5 := Lib.hid h5
 have HL := Lib.hid hl
 have HN := Lib.hid hn
 clear h5 hl hn
 go_enter Tryz.func54, Tryz.ntmps54
 go_wp2_with fail
 go_loopw [8] (fun i w1 => ∃ k : Nat, i = .int .i64 k ∧ k ≤ n ∧ (∀ (j : Nat) (x : UnitM), j < k → l[j]? = some x → ok x = false) ∧ Gr w w1) (fun i _ => n - (RowKit.intOf i).toNat)
 case atStart => exact ⟨0, rfl, Nat.zero_le _, fun j x hj => by omega, Gr.refl _⟩
 case round =>
  obtain ⟨k, rfl, hk, hp, hg⟩ := hrel
  have Hp := Lib.hid hp
  have G := Lib.hid hg
  clear hp hg
  by_cases hlt : k < n
  ·have hlt' : (k : Int) < (n : Int) := by omega
   obtain ⟨b, o, x, rfl, hx, hc⟩ := unit_at HL.out HN.out hlt
   have HX := Lib.hid hx
   obtain ⟨c0, c1⟩ := hc wr G.out
   clear hc hx
   go_wp2_with fail
   refine (H5.out wr G.out x).mono ?_
   rintro _ w2 ⟨r2, rfl, g2, rfl⟩
   have G := Lib.hid (G.out.trans g2)
   obtain ⟨t, ht⟩ : ∃ t, ok x = t := ⟨_, rfl⟩
   rw [ht]
   have Ht := Lib.hid ht
   clear g2 ht
   cases t
   ·go_wp2_with fail
    refine ⟨⟨k + 1, by go_num, by omega, fun j y hj hy => ?_, G.out⟩, by simp [RowKit.intOf]; omega⟩
    by_cases e : j = k
    ·subst e
     obtain rfl : y = x := Option.some.inj (hy.symm.trans HX.out)
     exact Ht.out
    ·exact Hp.out j y (by omega) hy
   ·go_wp2_with fail
    go_ret
    exact ⟨_, rfl, G.out, by rw [firstAt_some HX.out Ht.out Hp.out]; rfl⟩
  ·obtain rfl : n = k := by omega
   go_wp2_with fail
   go_ret
   exact ⟨_, rfl, G.out, by rw [firstAt_none (fun j x hj => Hp.out j x (by rw [HN.out] at hj; exact hj))]; rfl⟩
set_option maxRecDepth 100000 in
theorem plc_units (w : World) (p : Option Addr) (c : Nat) (L : List RowU) (item : Int) (hp : PlcAt w p c L) :
  Calls Tryz.prog 38 #[plcV p c L, .int .i64 item] w (Ret w fun r w' => ∃ x : RowU, r = rowV x ∧ x.us = unitsP (usOf L) item ∧ RowOn w' x ∧ x.us.length ≤ 17592186044416) := by
 have B := Cells.new w #[.slice p L.length c] 32
 have HB := Lib.hid B
 have HP := Lib.hid (hp.grow B.1)
 have hbig := hp.big
 have p0 := B.2.at 0 rfl
 clear B hp
 unfold plcV
 by_cases hin : 1 ≤ item ∧ item ≤ (L.length : Int)
 ·obtain ⟨k, rfl⟩ : ∃ k : Nat, item = (k : Int) + 1 := ⟨(item - 1).toNat, by omega⟩
  obtain ⟨b, o, x, rfl, hx, hc⟩ := row_at HP.out.rows rfl (show k < L.length by omega)
  have HX := Lib.hid hx
  have c0 := hc _ (Gr.refl _)
  have h1 : ¬ (k : Int) + 1 < 1 := by omega
  have h2 : (k : Int) + 1 ≤ (L.length : Int) := hin.2
  have hlt' : (k : Int) < (L.length : Int) := by omega
  have hw1 : IntKind.i64.wrap ((k : Int) + 1 - 1) = (k : Int) := by rw [IntKind.wrap_i64]; omega
  clear hx hc hin
  go_enter Tryz.func38, Tryz.ntmps38
  go_wp2_with fail
  go_ret
  exact ⟨_, rfl, HB.out.1, x, rfl, (unitsP_at HX.out).symm, HP.out.uns x (List.mem_of_getElem? HX.out), HP.out.ubig x (List.mem_of_getElem? HX.out)⟩
 ·have HR := Lib.hid (unitsP_out (L := L) hin)
  by_cases h1 : item < 1
  ·go_enter Tryz.func38, Tryz.ntmps38
   go_wp2_with fail
   try rw [Exit.noGoto_ret]
   go_ret
   exact ⟨_, rfl, HB.out.1, nilRow, rfl, HR.out.symm, nilRow_on _, by simp [nilRow]⟩
  ·have h1' : 1 ≤ item := by omega
   have h2' : (L.length : Int) < item := by omega
   clear h1 hin
   go_enter Tryz.func38, Tryz.ntmps38
   go_wp2_with fail
   try rw [Exit.noGoto_ret]
   go_ret
   exact ⟨_, rfl, HB.out.1, nilRow, rfl, HR.out.symm, nilRow_on _, by simp [nilRow]⟩
set_option maxRecDepth 100000 in
theorem ref_Units (w : World) (p : Option Addr) (c : Nat) (L : List RowU) (item : Int) (hp : PlcAt w p c L) :
  Calls Tryz.prog 58 #[plcV p c L, .int .i64 item] w (Ret w fun r w' => ∃ x : RowU, r = rowV x ∧ x.us = unitsP (usOf L) item ∧ RowOn w' x ∧ x.us.length ≤ 17592186044416) := by
 have B := Cells.new w #[.slice p L.length c] 32
 have HB := Lib.hid B
 have HP := Lib.hid (hp.grow B.1)
 have hbig := hp.big
 have p0 := B.2.at 0 rfl
 clear B hp
 unfold plcV
 go_enter Tryz.func58, Tryz.ntmps58
 go_wp2_with fail
 refine (ref_Exists _ _ _).mono ?_
 rintro _ _ ⟨⟨r1, rfl, h1⟩, rfl⟩
 rcases h1.cases with ⟨rfl, k1⟩ | ⟨rfl, k1⟩
 ·obtain ⟨k, rfl⟩ : ∃ k : Nat, item = (k : Int) + 1 := ⟨(item - 1).toNat, by omega⟩
  obtain ⟨b, o, x, rfl, hx, hc⟩ := row_at HP.out.rows rfl (show k < L.length by omega)
  have HX := Lib.hid hx
  have c0 := hc _ (Gr.refl _)
  have hlt' : (k : Int) < (L.length : Int) := by omega
  have hw1 : IntKind.i64.wrap ((k : Int) + 1 - 1) = (k : Int) := by rw [IntKind.wrap_i64]; omega
  clear hx hc h1 k1
  go_wp2_with fail
  go_ret
  exact ⟨_, rfl, HB.out.1, x, rfl, (unitsP_at HX.out).symm, HP.out.uns x (List.mem_of_getElem? HX.out), HP.out.ubig x (List.mem_of_getElem? HX.out)⟩
 ·have HR := Lib.hid (unitsP_out (L := L) k1)
  clear h1 k1
  go_wp2_with fail
  try rw [Exit.noGoto_ret]
  go_ret
  exact ⟨_, rfl, HB.out.1, nilRow, rfl, HR.out.symm, nilRow_on _, by simp [nilRow]⟩
theorem ref_index (w : World) (x : RowU) (m : Int) (hx : RowOn w x) (hb : x.us.length ≤ 1000000) :
  Calls Tryz.prog 59 #[rowV x, .int .i64 m] w (Ret w fun r w' => r = .int .i64 (firstAt (onMach m) x.us) ∧ w' = w) := by
 obtain ⟨p, c, l⟩ := x
 have HL := Lib.hid (show UnL w (.slice p l.length c) l from hx)
 dsimp only at hb
 clear hx
 show Calls _ _ #[.slice p l.length c, .int .i64 m] _ _
 go_enter Tryz.func59, Tryz.ntmps59
 go_wp2_with fail
 go_loopw [5] (fun i w9 => ∃ k : Nat, i = .int .i64 (k : Int) ∧ k ≤ l.length ∧ (∀ (j : Nat) (x : UnitM), j < k → l[j]? = some x → onMach m x = false) ∧ w9 = w) (fun i _ => l.length - (RowKit.intOf i).toNat)
 case atStart => exact ⟨0, rfl, Nat.zero_le _, fun j x hj => by omega, rfl⟩
 case round =>
  obtain ⟨k, rfl, hk, hp, rfl⟩ := hrel
  have HP := Lib.hid hp
  clear hp
  by_cases hlt : k < l.length
  ·have hlt' : (k : Int) < (l.length : Int) := by omega
   obtain ⟨b, o, x, rfl, hx, hc⟩ := unit_at HL.out rfl hlt
   have HX := Lib.hid hx
   obtain ⟨c0, c1⟩ := hc _ (Gr.refl _)
   clear hx hc
   by_cases e : x.mach = m
   ·have e0 : (x.mach == m) = true := by simpa using e
    have E := Lib.hid (show onMach m x = true from e0)
    clear e
    go_wp2_with fail
    try rw [Exit.noGoto_ret]
    go_ret
    exact ⟨_, rfl, Gr.refl _, by rw [firstAt_some HX.out E.out HP.out]; rfl, rfl⟩
   ·have e0 : (x.mach == m) = false := by simpa using e
    have E := Lib.hid (show onMach m x = false from e0)
    clear e
    go_wp2_with fail
    refine ⟨⟨k + 1, by go_num, by omega, fun j y hj hy => ?_, by first | rfl | trivial⟩, by simp [RowKit.intOf]; omega⟩
    by_cases h : j = k
    ·subst h
     obtain rfl : y = x := Option.some.inj (hy.symm.trans HX.out)
     exact E.out
    ·exact HP.out j y (by omega) hy
  ·obtain rfl : k = l.length := by omega
   go_wp2_with fail
   try rw [Exit.noGoto_ret]
   go_ret
   exact ⟨_, rfl, Gr.refl _, by rw [firstAt_none HP.out]; rfl, rfl⟩
theorem find_prd (w : World) (b : Nat) (m : Int) (hb : Cells w b #[.int .i64 m]) : PrdB w (.func (.func 76) #[] #[.pointer (some ⟨b, 0, none⟩)]) encU (onMach m) := by
 refine ⟨_, _, rfl, enters_of Tryz.func76 (by kernel_rfl) rfl, fun w' g x => ?_⟩
 have B := Cells.new w' #[.int .i64 x.mach, .int .i64 x.st] 69
 have u0 := B.2.at 0 rfl
 have d0 := (hb.grow (g.trans B.1)).at 0 rfl
 have G := Lib.hid B.1
 clear B g hb
 show Calls _ _ #[.agg #[.int .i64 x.mach, .int .i64 x.st], .pointer (some ⟨b, 0, none⟩)] _ _
 go_enter Tryz.func76, Tryz.ntmps76
 go_wp2_with fail
 go_ret
 exact ⟨_, rfl, G.out, rfl⟩
set_option maxRecDepth 100000 in
theorem plc_find (w : World) (p : Option Addr) (c : Nat) (L : List RowU) (item m : Int) (hp : PlcAt w p c L) (hf : FewK (usOf L)) :
  Calls Tryz.prog 37 #[plcV p c L, .int .i64 item, .int .i64 m] w (Ret w fun r _ => r = .int .i64 (idxP (usOf L) item m)) := by
 have HF := Lib.hid hf
 have B0 := Cells.new w #[.slice p L.length c] 32
 have B1 := Cells.new (w.alloc (.cells #[.slice p L.length c] 32)) #[.int .i64 m] 3
 simp only [World.size_alloc] at B1
 have p0 := (B0.2.grow B1.1).at 0 rfl
 have H := Lib.hid (show _ ∧ _ ∧ _ from ⟨B0.1.trans B1.1, B0.2.grow B1.1, B1.2⟩)
 have HP := Lib.hid (hp.grow (B0.1.trans B1.1))
 clear B0 B1 hp hf
 unfold plcV
 go_enter Tryz.func37, Tryz.ntmps37
 go_wp2_with fail
 clear p0
 generalize w.heap.size + 1 = bm at H ⊢
 generalize w.heap.size = bp at H ⊢
 generalize (w.alloc _).alloc _ = W at H HP ⊢
 have G := Lib.hid H.out.1
 have TM := Lib.hid H.out.2.2
 clear H
 refine (plc_units W p c L item HP.out).mono ?_
 rintro _ w1 ⟨_, rfl, g1, x, rfl, hx, hon, hxb⟩
 have HX := Lib.hid hx
 have HON := Lib.hid hon
 have G := Lib.hid (G.out.trans g1)
 have TM := Lib.hid (TM.out.grow g1)
 have HP := Lib.hid (HP.out.grow g1)
 clear g1
 clear hx hon
 have hlen : x.us.length ≤ 1000000 := by
  rw [HX.out]
  unfold unitsP
  split
  ·rw [List.getD_eq_getElem?_getD]
   cases h : (usOf L)[(item - 1).toNat]? with
   | none => simp
   | some l => have := HF.out.2 l (List.mem_of_getElem? h); simp; omega
  ·simp
 unfold rowV
 go_wp2_with fail
 refine (unit_indexB w1 x.p x.us.length x.c x.us _ (onMach m) HON.out rfl hlen (find_prd w1 bm m TM.out)).mono ?_
 rintro _ w2 ⟨_, rfl, g2, rfl⟩
 have G := Lib.hid (G.out.trans g2)
 go_wp2_with fail
 go_ret
 exact ⟨_, rfl, G.out, by unfold idxP; rw [← HX.out]; rfl⟩
end Go.Proofs.YtnlocdijdfclcaaGreatDoor

/-
 Plain laws of a move's effects on a placement.
-/
import Derived.Test.YtnlocdijdfclcaaGreatDoorPlq
import Derived.Test.YtnlocdijdfclcaaGreatDoorPln
namespace Go.Proofs.YtnlocdijdfclcaaGreatDoor
open Go.RowKit Lex
set_option linter.unusedVariables false
set_option linter.unusedSimpArgs false

def hasP (X : Plc) (i m s : Int) : Bool := m == 0 || ((stateP X i m).2 && (stateP X i m).1 == s)
def kindI (M : Mdl) (i : Int) : Int := match M.items[(i - 1).toNat]? with
 | some it => it.kind
 | none => 0
def begin1 (X : Plc) (x : MvM) : Plc := if x.to ≠ 0 then putP X x.item x.to 1 else X
def beginX (M : Mdl) (X : Plc) (x : MvM) : Plc := if kindI M x.item = 2 then putP (begin1 X x) x.item x.frm 2 else begin1 X x
def finish1 (X : Plc) (x : MvM) : Plc := if x.frm ≠ 0 then dropP X x.item x.frm else X
def finishX (X : Plc) (x : MvM) : Plc := if x.to ≠ 0 then putP (finish1 X x) x.item x.to 0 else finish1 X x
def stuckB (X : Plc) (x : MvM) : Bool := !hasP X x.item x.frm 0 || (x.to != 0 && (stateP X x.item x.to).2)
def wantM (M : Mdl) (x : MvM) : Int := if kindI M x.item = 2 then 2 else 0
def stuckF (M : Mdl) (X : Plc) (x : MvM) : Bool := !hasP X x.item x.to 1 || !hasP X x.item x.frm (wantM M x)
def BegS (M : Mdl) (X : Plc) (x : MvM) (e : Int) (Y : Plc) : Prop :=
 (¬ (MoveOK M x ∧ PlcOK M X) ∧ e = 1 ∧ Y = []) ∨ ((MoveOK M x ∧ PlcOK M X) ∧ stuckB X x = true ∧ e = 9 ∧ Y = []) ∨ ((MoveOK M x ∧ PlcOK M X) ∧ stuckB X x = false ∧ e = 0 ∧ Y = beginX M X x)
def FinS (M : Mdl) (X : Plc) (x : MvM) (e : Int) (Y : Plc) : Prop :=
 (¬ (MoveOK M x ∧ PlcOK M X) ∧ e = 1 ∧ Y = []) ∨ ((MoveOK M x ∧ PlcOK M X) ∧ stuckF M X x = true ∧ e = 9 ∧ Y = []) ∨ ((MoveOK M x ∧ PlcOK M X) ∧ stuckF M X x = false ∧ e = 0 ∧ Y = finishX X x)
theorem begS_one {M : Mdl} {X : Plc} {x : MvM} {e f : Int} {Y Z : Plc} (h : BegS M X x e Y) (k : BegS M X x f Z) : e = f ∧ Y = Z := by
 rcases h with ⟨h1, rfl, rfl⟩ | ⟨h1, h2, rfl, rfl⟩ | ⟨h1, h2, rfl, rfl⟩ <;> rcases k with ⟨k1, rfl, rfl⟩ | ⟨k1, k2, rfl, rfl⟩ | ⟨k1, k2, rfl, rfl⟩ <;> first | exact ⟨rfl, rfl⟩ | exact absurd k1 h1 | exact absurd h1 k1 | (rw [h2] at k2; cases k2)
theorem finS_one {M : Mdl} {X : Plc} {x : MvM} {e f : Int} {Y Z : Plc} (h : FinS M X x e Y) (k : FinS M X x f Z) : e = f ∧ Y = Z := by
 rcases h with ⟨h1, rfl, rfl⟩ | ⟨h1, h2, rfl, rfl⟩ | ⟨h1, h2, rfl, rfl⟩ <;> rcases k with ⟨k1, rfl, rfl⟩ | ⟨k1, k2, rfl, rfl⟩ | ⟨k1, k2, rfl, rfl⟩ <;> first | exact ⟨rfl, rfl⟩ | exact absurd k1 h1 | exact absurd h1 k1 | (rw [h2] at k2; cases k2)
theorem dropL_no {l : List UnitM} {m : Int} (h : ∀ u ∈ l, u.mach ≠ m) : dropL l m = l := by
 unfold dropL
 rw [List.findIdx?_eq_none_iff.2 (fun u hu => by have := h u hu; simpa [onMach] using this)]
theorem withP_self (X : Plc) (i : Int) : withP X i (unitsP X i) = X := by
 unfold withP unitsP
 split
 ·next h =>
  apply List.ext_getElem? fun j => ?_
  rw [List.getElem?_set]
  split
  ·next e =>
   subst e
   rw [List.getD_eq_getElem?_getD, List.getElem?_eq_getElem (by omega)]
   simp
   omega
  ·rfl
 ·rfl
theorem drop_zero {M : Mdl} {X : Plc} (h : PlcOK M X) (i : Int) : dropP X i 0 = X := by
 unfold dropP
 rw [dropL_no]
 ·exact withP_self X i
 ·intro u hu
  unfold unitsP at hu
  split at hu
  ·next hi =>
   rw [List.getD_eq_getElem?_getD, List.getElem?_eq_getElem (by omega)] at hu
   have hlt : (i - 1).toNat < M.items.length := by have := h.2.1; omega
   have := ((h.2.2 (i - 1).toNat _ _ (List.getElem?_eq_getElem (by omega)) (List.getElem?_eq_getElem hlt)).2 u hu).1
   omega
  ·cases hu
theorem move_facts {M : Mdl} {x : MvM} (h : MoveOK M x) : ∃ (k : Nat) (it : ItemM), x.item = (k : Int) + 1 ∧ M.items[k]? = some it ∧ kindI M x.item = it.kind ∧ (x.to ≠ 0 → 1 ≤ x.to ∧ x.to ≤ (M.machs.length : Int)) ∧ (x.frm ≠ 0 → 1 ≤ x.frm ∧ x.frm ≤ (M.machs.length : Int)) ∧ (x.to ≠ 0 → x.frm ≠ x.to) ∧ (it.kind = 2 → x.frm ≠ 0) := by
 obtain ⟨h1, h2, it, hit, hf, hok⟩ := h.item
 refine ⟨(x.item - 1).toNat, it, by omega, hit, by unfold kindI; rw [hit], ?_⟩
 unfold fitsI at hf
 rw [Bool.and_eq_true] at hf
 have hs := hf.1
 have hon : ∀ n ∈ it.on, 1 ≤ n ∧ n ≤ (M.machs.length : Int) := fun n hn => by
  obtain ⟨i, hi⟩ := List.getElem?_of_mem hn
  exact (hok.2.1.2 i n hi).1
 have hfree : ∀ n, freeI M it n = true → (1 ≤ n ∧ n ≤ (M.machs.length : Int)) ∧ n ∉ it.on := fun n hn => by
  unfold freeI at hn
  simp only [Bool.and_eq_true, decide_eq_true_eq, Bool.not_eq_true', List.contains_eq_mem, decide_eq_false_iff_not] at hn
  exact ⟨⟨hn.1.1.1, hn.1.1.2⟩, hn.1.2⟩
 unfold shapeB at hs
 by_cases hk : it.kind = 1
 ·rw [if_pos hk] at hs
  simp only [Bool.or_eq_true, Bool.and_eq_true, beq_iff_eq, List.contains_eq_mem, decide_eq_true_eq] at hs
  rcases hs with ⟨e, hs⟩ | ⟨hs, e⟩
  ·exact ⟨fun _ => (hfree _ hs).1, fun k => absurd e k, fun _ => by have := (hfree _ hs).1; omega, fun k => by omega⟩
  ·have := hon _ hs
   exact ⟨fun k => absurd e k, fun _ => this, fun k => absurd e k, fun k => by omega⟩
 ·rw [if_neg hk] at hs
  simp only [Bool.and_eq_true, List.contains_eq_mem, decide_eq_true_eq] at hs
  have h3 := hon _ hs.1
  have h4 := hfree _ hs.2
  exact ⟨fun _ => h4.1, fun _ => h3, fun _ e => h4.2 (e ▸ hs.1), fun _ => by omega⟩
theorem begin1_ok {M : Mdl} {X : Plc} {x : MvM} (h : MoveOK M x) (hp : PlcOK M X) : PlcOK M (begin1 X x) := by
 obtain ⟨k, it, hk, hit, hkd, ht, hf, hne, hjob⟩ := move_facts h
 unfold begin1
 split
 ·next h0 => exact PlcOK.chg (m := x.to) (o := some 1) hp hk hit fun s hs => by cases hs; exact ⟨ht h0, .inr (.inl rfl)⟩
 ·exact hp
theorem begin_ok {M : Mdl} {X : Plc} {x : MvM} (h : MoveOK M x) (hp : PlcOK M X) : PlcOK M (beginX M X x) := by
 obtain ⟨k, it, hk, hit, hkd, ht, hf, hne, hjob⟩ := move_facts h
 unfold beginX
 split
 ·next h0 => exact PlcOK.chg (m := x.frm) (o := some 2) (begin1_ok h hp) hk hit fun s hs => by cases hs; exact ⟨hf (hjob (hkd ▸ h0)), .inr (.inr ⟨rfl, hkd ▸ h0⟩)⟩
 ·exact begin1_ok h hp
theorem finish1_ok {M : Mdl} {X : Plc} {x : MvM} (h : MoveOK M x) (hp : PlcOK M X) : PlcOK M (finish1 X x) := by
 obtain ⟨k, it, hk, hit, hkd, ht, hf, hne, hjob⟩ := move_facts h
 unfold finish1
 split
 ·exact PlcOK.chg (m := x.frm) (o := none) hp hk hit fun s hs => by cases hs
 ·exact hp
theorem finish_ok {M : Mdl} {X : Plc} {x : MvM} (h : MoveOK M x) (hp : PlcOK M X) : PlcOK M (finishX X x) := by
 obtain ⟨k, it, hk, hit, hkd, ht, hf, hne, hjob⟩ := move_facts h
 unfold finishX
 split
 ·next h0 => exact PlcOK.chg (m := x.to) (o := some 0) (finish1_ok h hp) hk hit fun s hs => by cases hs; exact ⟨ht h0, .inl rfl⟩
 ·exact finish1_ok h hp
theorem state_put {X : Plc} (h : RiseP X) (i m s j n : Int) : stateP (putP X i m s) j n = if j = i ∧ n = m ∧ InP X i then (s, true) else stateP X j n := by
 rw [putP_chg, stateP_chg h]
theorem state_drop {X : Plc} (h : RiseP X) (i m j n : Int) : stateP (dropP X i m) j n = if j = i ∧ n = m ∧ InP X i then (0, false) else stateP X j n := by
 rw [dropP_chg, stateP_chg h]
theorem item_in {M : Mdl} {X : Plc} {x : MvM} (h : MoveOK M x) (hp : PlcOK M X) : InP X x.item := by
 obtain ⟨k, it, hk, hit, _⟩ := move_facts h
 have := (List.getElem?_eq_some_iff.1 hit).1
 have := hp.2.1
 unfold InP
 omega
theorem state_begin {M : Mdl} {X : Plc} {x : MvM} (h : MoveOK M x) (hp : PlcOK M X) (j n : Int) : stateP (beginX M X x) j n = if kindI M x.item = 2 ∧ j = x.item ∧ n = x.frm then (2, true) else if x.to ≠ 0 ∧ j = x.item ∧ n = x.to then (1, true) else stateP X j n := by
 have hin := item_in h hp
 have hin1 := item_in h (begin1_ok h hp)
 have e1 : ∀ j n, stateP (begin1 X x) j n = if x.to ≠ 0 ∧ j = x.item ∧ n = x.to then (1, true) else stateP X j n := fun j n => by
  unfold begin1
  by_cases h0 : x.to ≠ 0
  ·rw [if_pos h0, state_put hp.rise]
   simp [h0, hin]
  ·rw [if_neg h0]
   simp [h0]
 unfold beginX
 by_cases hk : kindI M x.item = 2
 ·rw [if_pos hk, state_put (begin1_ok h hp).rise, e1]
  simp [hk, hin1]
 ·rw [if_neg hk, e1]
  simp [hk]
theorem state_finish {M : Mdl} {X : Plc} {x : MvM} (h : MoveOK M x) (hp : PlcOK M X) (j n : Int) : stateP (finishX X x) j n = if x.to ≠ 0 ∧ j = x.item ∧ n = x.to then (0, true) else if x.frm ≠ 0 ∧ j = x.item ∧ n = x.frm then (0, false) else stateP X j n := by
 have hin := item_in h hp
 have hin1 := item_in h (finish1_ok h hp)
 have e1 : ∀ j n, stateP (finish1 X x) j n = if x.frm ≠ 0 ∧ j = x.item ∧ n = x.frm then (0, false) else stateP X j n := fun j n => by
  unfold finish1
  by_cases h0 : x.frm ≠ 0
  ·rw [if_pos h0, state_drop hp.rise]
   simp [h0, hin]
  ·rw [if_neg h0]
   simp [h0]
 unfold finishX
 by_cases hk : x.to ≠ 0
 ·rw [if_pos hk, state_put (finish1_ok h hp).rise, e1]
  simp [hk, hin1]
 ·rw [if_neg hk, e1]
  simp [hk]
theorem begin_finish {M : Mdl} {X : Plc} {x : MvM} (h : MoveOK M x) (hp : PlcOK M X) (hs : stuckB X x = false) : stuckF M (beginX M X x) x = false := by
 obtain ⟨k, it, hk, hit, hkd, ht, hf, hne, hjob⟩ := move_facts h
 unfold stuckB hasP at hs
 unfold stuckF hasP wantM
 rw [state_begin h hp, state_begin h hp]
 by_cases h0 : x.to = 0
 ·by_cases h1 : x.frm = 0
  ·simp [h0, h1]
  ·by_cases h2 : kindI M x.item = 2
   ·simp [h0, h1, h2]
   ·simp [h0, h1, h2] at hs ⊢
    exact hs
 ·have h3 := hne h0
  by_cases h1 : x.frm = 0
  ·by_cases h2 : kindI M x.item = 2
   ·exact absurd h1 (hjob (hkd ▸ h2))
   ·simp [h0, h1, h2]
  ·by_cases h2 : kindI M x.item = 2
   ·simp [h0, h1, h2, Ne.symm h3]
   ·simp [h0, h1, h2, h3] at hs ⊢
    exact hs.1
theorem whole_from {M : Mdl} {X : Plc} {x : MvM} (h : MoveOK M x) (hp : PlcOK M X) {n : Int} (hn : 1 ≤ n) (e : n = x.frm) : (stateP (finishX (beginX M X x) x) x.item n).2 = false := by
 obtain ⟨k, it, hk, hit, hkd, ht, hf, hne, hjob⟩ := move_facts h
 rw [state_finish h (begin_ok h hp), if_neg (fun k => hne k.1 (e ▸ k.2.2)), if_pos ⟨by omega, rfl, e⟩]
theorem whole_to {M : Mdl} {X : Plc} {x : MvM} (h : MoveOK M x) (hp : PlcOK M X) {n : Int} (hn : 1 ≤ n) (e : n = x.to) : stateP (finishX (beginX M X x) x) x.item n = (0, true) := by
 rw [state_finish h (begin_ok h hp), if_pos ⟨by omega, rfl, e⟩]
theorem whole_else {M : Mdl} {X : Plc} {x : MvM} (h : MoveOK M x) (hp : PlcOK M X) {i n : Int} (h1 : ¬ (i = x.item ∧ n = x.frm)) (h2 : ¬ (i = x.item ∧ n = x.to)) : stateP (finishX (beginX M X x) x) i n = stateP X i n := by
 rw [state_finish h (begin_ok h hp), if_neg (fun k => h2 k.2), if_neg (fun k => h1 k.2), state_begin h hp, if_neg (fun k => h1 k.2), if_neg (fun k => h2 k.2)]
end Go.Proofs.YtnlocdijdfclcaaGreatDoor

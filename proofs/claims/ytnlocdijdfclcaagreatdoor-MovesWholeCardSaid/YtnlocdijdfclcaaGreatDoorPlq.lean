/-
  Plain laws of placements: what Put and Drop do to a list, and in which order.
  Plain laws of placements: counts and sums.
-/
import Derived.Test.YtnlocdijdfclcaaGreatDoorPlp
namespace Go.Proofs.YtnlocdijdfclcaaGreatDoor
open Go.RowKit Lex
set_option linter.unusedVariables false
set_option linter.unusedSimpArgs false

theorem rise_iff {l : List UnitM} : Rise l ↔ l.Pairwise (fun x y => x.mach < y.mach) := by
 rw [List.pairwise_iff_getElem]
 unfold Rise
 constructor
 ·intro h i j hi hj hij
  exact h i j _ _ hij (List.getElem?_eq_getElem hi) (List.getElem?_eq_getElem hj)
 ·intro h i j x y hij hx hy
  obtain ⟨hi, rfl⟩ := List.getElem?_eq_some_iff.1 hx
  obtain ⟨hj, rfl⟩ := List.getElem?_eq_some_iff.1 hy
  exact h i j hi hj hij
theorem Rise.tail {x : UnitM} {l : List UnitM} (h : Rise (x :: l)) : Rise l ∧ ∀ y ∈ l, x.mach < y.mach := by
 rw [rise_iff, List.pairwise_cons] at h
 exact ⟨rise_iff.2 h.2, h.1⟩
theorem Rise.cons {x : UnitM} {l : List UnitM} (h : Rise l) (k : ∀ y ∈ l, x.mach < y.mach) : Rise (x :: l) := by
 rw [rise_iff, List.pairwise_cons]
 exact ⟨k, rise_iff.1 h⟩
theorem rise_nil : Rise [] := by rw [rise_iff]; exact .nil
theorem putL_nil (u : UnitM) : putL [] u = [u] := rfl
theorem putL_eq {x u : UnitM} {l : List UnitM} (h : x.mach = u.mach) : putL (x :: l) u = u :: l := by
 unfold putL
 rw [List.findIdx?_cons, if_pos (by simp [onMach, h])]
 rfl
theorem putL_lt {x u : UnitM} {l : List UnitM} (h : x.mach < u.mach) : putL (x :: l) u = x :: putL l u := by
 have h1 : onMach u.mach x = false := by simp [onMach]; omega
 have h2 : past u.mach x = false := by simp [past]; omega
 unfold putL spotL
 rw [List.findIdx?_cons, List.findIdx?_cons, h1, h2]
 simp only [Bool.false_eq_true, if_false]
 cases l.findIdx? (onMach u.mach) with
 | some i => simp
 | none =>
  cases l.findIdx? (past u.mach) with
  | some i => simp
  | none => simp
theorem putL_gt {x u : UnitM} {l : List UnitM} (h : u.mach < x.mach) (hr : Rise (x :: l)) : putL (x :: l) u = u :: x :: l := by
 have h1 : (x :: l).findIdx? (onMach u.mach) = none := by
  rw [List.findIdx?_eq_none_iff]
  intro y hy
  rcases List.mem_cons.1 hy with rfl | hy
  ·simp [onMach]; omega
  ·have := hr.tail.2 y hy
   simp [onMach]; omega
 have h2 : (x :: l).findIdx? (past u.mach) = some 0 := by
  rw [List.findIdx?_cons, if_pos (by simp [past, h])]
 unfold putL spotL
 rw [h1, h2]
 rfl
theorem dropL_nil (m : Int) : dropL [] m = [] := rfl
theorem dropL_eq {x : UnitM} {m : Int} {l : List UnitM} (h : x.mach = m) : dropL (x :: l) m = l := by
 unfold dropL
 rw [List.findIdx?_cons, if_pos (by simp [onMach, h])]
 rfl
theorem dropL_ne {x : UnitM} {m : Int} {l : List UnitM} (h : x.mach ≠ m) : dropL (x :: l) m = x :: dropL l m := by
 unfold dropL
 rw [List.findIdx?_cons, if_neg (by simp [onMach, h])]
 cases l.findIdx? (onMach m) with
 | some i => simp
 | none => simp
theorem putL_mem {l : List UnitM} {u y : UnitM} (h : y ∈ putL l u) : y = u ∨ y ∈ l := by
 unfold putL at h
 split at h
 ·rcases List.mem_or_eq_of_mem_set h with h | h
  ·exact .inr h
  ·exact .inl h
 ·rcases List.mem_append.1 h with h | h
  ·exact .inr (List.mem_of_mem_take h)
  ·rcases List.mem_cons.1 h with h | h
   ·exact .inl h
   ·exact .inr (List.mem_of_mem_drop h)
theorem dropL_mem {l : List UnitM} {m : Int} {y : UnitM} (h : y ∈ dropL l m) : y ∈ l := by
 unfold dropL at h
 split at h
 ·rcases List.mem_append.1 h with h | h
  ·exact List.mem_of_mem_take h
  ·exact List.mem_of_mem_drop h
 ·exact h
theorem putL_rise {u : UnitM} : ∀ {l : List UnitM}, Rise l → Rise (putL l u)
 | [], _ => by rw [putL_nil]; exact rise_nil.cons (by simp)
 | x :: l, h => by
  obtain ⟨h1, h2⟩ := h.tail
  by_cases e : x.mach = u.mach
  ·rw [putL_eq e]; exact h1.cons (fun y hy => by have := h2 y hy; omega)
  ·by_cases k : x.mach < u.mach
   ·rw [putL_lt k]
    refine (putL_rise h1).cons fun y hy => ?_
    rcases putL_mem hy with rfl | hy
    ·exact k
    ·exact h2 y hy
   ·rw [putL_gt (by omega) h]
    refine h.cons fun y hy => ?_
    rcases List.mem_cons.1 hy with rfl | hy
    ·omega
    ·have := h2 y hy; omega
theorem dropL_rise {m : Int} : ∀ {l : List UnitM}, Rise l → Rise (dropL l m)
 | [], _ => rise_nil
 | x :: l, h => by
  obtain ⟨h1, h2⟩ := h.tail
  by_cases e : x.mach = m
  ·rw [dropL_eq e]; exact h1
  ·rw [dropL_ne e]
   exact (dropL_rise h1).cons fun y hy => h2 y (dropL_mem hy)
def findU (l : List UnitM) (m : Int) : Option UnitM := l.find? (onMach m)
theorem findU_nil (m : Int) : findU [] m = none := rfl
theorem findU_eq {x : UnitM} {l : List UnitM} {m : Int} (h : x.mach = m) : findU (x :: l) m = some x := by
 unfold findU; rw [List.find?_cons_of_pos (by simp [onMach, h])]
theorem findU_ne {x : UnitM} {l : List UnitM} {m : Int} (h : x.mach ≠ m) : findU (x :: l) m = findU l m := by
 unfold findU; rw [List.find?_cons_of_neg (by simp [onMach, h])]
theorem findU_none {l : List UnitM} {m : Int} (h : ∀ y ∈ l, y.mach ≠ m) : findU l m = none := by
 unfold findU
 rw [List.find?_eq_none]
 intro y hy
 simp [onMach, h y hy]
theorem findU_put {u : UnitM} (m : Int) : ∀ {l : List UnitM}, Rise l → findU (putL l u) m = if m = u.mach then some u else findU l m
 | [], _ => by
  rw [putL_nil]
  split
  ·next h => exact findU_eq h.symm
  ·next h => rw [findU_ne (fun e => h e.symm)]
 | x :: l, h => by
  obtain ⟨h1, h2⟩ := h.tail
  by_cases e : x.mach = u.mach
  ·rw [putL_eq e]
   split
   ·next k => exact findU_eq k.symm
   ·next k => rw [findU_ne (fun e => k e.symm), findU_ne (by omega)]
  ·by_cases k : x.mach < u.mach
   ·rw [putL_lt k]
    by_cases q : x.mach = m
    ·rw [findU_eq q, if_neg (by omega), findU_eq q]
    ·rw [findU_ne q, findU_ne q]; exact findU_put m h1
   ·rw [putL_gt (by omega) h]
    split
    ·next k => exact findU_eq k.symm
    ·next k => rw [findU_ne (fun e => k e.symm)]
theorem findU_drop {d : Int} (m : Int) : ∀ {l : List UnitM}, Rise l → findU (dropL l d) m = if m = d then none else findU l m
 | [], _ => by rw [dropL_nil, findU_nil]; split <;> rfl
 | x :: l, h => by
  obtain ⟨h1, h2⟩ := h.tail
  by_cases e : x.mach = d
  ·rw [dropL_eq e]
   split
   ·next k => exact findU_none fun y hy => by have := h2 y hy; omega
   ·next k => rw [findU_ne (by omega)]
  ·rw [dropL_ne e]
   by_cases q : x.mach = m
   ·rw [findU_eq q, if_neg (by omega), findU_eq q]
   ·rw [findU_ne q, findU_ne q]; exact findU_drop m h1
def InP (X : Plc) (i : Int) : Prop := 1 ≤ i ∧ i ≤ (X.length : Int)
instance (X : Plc) (i : Int) : Decidable (InP X i) := inferInstanceAs (Decidable (_ ∧ _))
theorem withI {X : Plc} {i : Int} (h : InP X i) (l : List UnitM) : withP X i l = X.set (i - 1).toNat l := if_pos h
theorem withO {X : Plc} {i : Int} (h : ¬ InP X i) (l : List UnitM) : withP X i l = X := if_neg h
theorem unitsI {X : Plc} {i : Int} (h : InP X i) : unitsP X i = X.getD (i - 1).toNat [] := if_pos h
theorem unitsO {X : Plc} {i : Int} (h : ¬ InP X i) : unitsP X i = [] := if_neg h
theorem withP_length (X : Plc) (i : Int) (l : List UnitM) : (withP X i l).length = X.length := by
 by_cases h : InP X i
 ·rw [withI h, List.length_set]
 ·rw [withO h]
theorem inP_with (X : Plc) (i j : Int) (l : List UnitM) : InP (withP X i l) j ↔ InP X j := by unfold InP; rw [withP_length]
theorem unitsP_with (X : Plc) (i j : Int) (l : List UnitM) : unitsP (withP X i l) j = if j = i ∧ InP X i then l else unitsP X j := by
 by_cases hi : InP X i
 ·by_cases hj : j = i
  ·subst hj
   rw [if_pos ⟨rfl, hi⟩, unitsI ((inP_with X j j l).2 hi), withI hi, List.getD_eq_getElem?_getD, List.getElem?_set_self (by have := hi.1; have := hi.2; omega)]
   rfl
  ·rw [if_neg (fun h => hj h.1)]
   by_cases hin : InP X j
   ·rw [unitsI ((inP_with X i j l).2 hin), unitsI hin, withI hi, List.getD_eq_getElem?_getD, List.getD_eq_getElem?_getD, List.getElem?_set_ne (by have := hi.1; have := hin.1; omega)]
   ·rw [unitsO (fun h => hin ((inP_with X i j l).1 h)), unitsO hin]
 ·rw [if_neg (fun h => hi h.2), withO hi]
def updP (X : Plc) (i : Int) (f : List UnitM → List UnitM) : Plc := withP X i (f (unitsP X i))
theorem updP_len (X : Plc) (i : Int) (f : List UnitM → List UnitM) : (updP X i f).length = X.length := withP_length _ _ _
theorem unitsP_upd (X : Plc) (i j : Int) (f : List UnitM → List UnitM) : unitsP (updP X i f) j = if j = i ∧ InP X i then f (unitsP X i) else unitsP X j := unitsP_with _ _ _ _
def RiseP (X : Plc) : Prop := ∀ l ∈ X, Rise l
theorem RiseP.units {X : Plc} (h : RiseP X) (i : Int) : Rise (unitsP X i) := by
 unfold unitsP
 split
 ·rw [List.getD_eq_getElem?_getD]
  cases hx : X[(i - 1).toNat]? with
  | none => exact rise_nil
  | some l => exact h l (List.mem_of_getElem? hx)
 ·exact rise_nil
theorem updP_mem {X : Plc} {i : Int} {f : List UnitM → List UnitM} {l : List UnitM} (h : l ∈ updP X i f) : l ∈ X ∨ (InP X i ∧ l = f (unitsP X i)) := by
 unfold updP at h
 by_cases hi : InP X i
 ·rw [withI hi] at h
  rcases List.mem_or_eq_of_mem_set h with h | h
  ·exact .inl h
  ·exact .inr ⟨hi, h⟩
 ·rw [withO hi] at h
  exact .inl h
theorem RiseP.upd {X : Plc} (h : RiseP X) {i : Int} {f : List UnitM → List UnitM} (hf : Rise (unitsP X i) → Rise (f (unitsP X i))) : RiseP (updP X i f) := fun l hl => by
 rcases updP_mem hl with hl | ⟨_, rfl⟩
 ·exact h l hl
 ·exact hf (h.units i)
def chg (m : Int) : Option Int → List UnitM → List UnitM
 | some s, l => putL l ⟨m, s⟩
 | none, l => dropL l m
theorem chg_rise {m : Int} (o : Option Int) {l : List UnitM} (h : Rise l) : Rise (chg m o l) := by
 cases o with
 | some s => exact putL_rise h
 | none => exact dropL_rise h
theorem findU_chg {m d : Int} (o : Option Int) {l : List UnitM} (h : Rise l) : findU (chg d o l) m = if m = d then o.map (fun s => ⟨d, s⟩) else findU l m := by
 cases o with
 | some s => exact findU_put m h
 | none => exact findU_drop m h
def chgP (X : Plc) (i m : Int) (o : Option Int) : Plc := updP X i (chg m o)
theorem putP_chg (X : Plc) (i m s : Int) : putP X i m s = chgP X i m (some s) := rfl
theorem dropP_chg (X : Plc) (i m : Int) : dropP X i m = chgP X i m none := rfl
theorem RiseP.chg {X : Plc} (h : RiseP X) (i m : Int) (o : Option Int) : RiseP (chgP X i m o) := h.upd (chg_rise o)
theorem stateP_find (X : Plc) (i m : Int) : stateP X i m = match findU (unitsP X i) m with
 | some u => (u.st, true)
 | none => (0, false) := rfl
theorem stateP_chg {X : Plc} (h : RiseP X) (i m j n : Int) (o : Option Int) : stateP (chgP X i m o) j n = if j = i ∧ n = m ∧ InP X i then (match o with | some s => (s, true) | none => (0, false)) else stateP X j n := by
 rw [stateP_find, stateP_find]
 unfold chgP
 rw [unitsP_upd]
 by_cases h1 : j = i ∧ InP X i
 ·rw [if_pos h1, findU_chg _ (h.units i)]
  by_cases h2 : n = m
  ·rw [if_pos h2, if_pos ⟨h1.1, h2, h1.2⟩]
   cases o <;> rfl
  ·rw [if_neg h2, if_neg (fun k => h2 k.2.1), h1.1]
 ·rw [if_neg h1, if_neg (fun k => h1 ⟨k.1, k.2.2⟩)]
theorem PlcOK.rise {M : Mdl} {X : Plc} (h : PlcOK M X) : RiseP X := fun l hl => by
 obtain ⟨i, hi⟩ := List.getElem?_of_mem hl
 have hlt : i < M.items.length := by rw [← h.2.1]; exact (List.getElem?_eq_some_iff.1 hi).1
 exact (h.2.2 i l _ hi (List.getElem?_eq_getElem hlt)).1
theorem PlcOK.chg {M : Mdl} {X : Plc} (h : PlcOK M X) {i m : Int} {o : Option Int} {k : Nat} {it : ItemM} (hi : i = (k : Int) + 1) (hit : M.items[k]? = some it) (ho : ∀ s, o = some s → UnitOK M it ⟨m, s⟩) : PlcOK M (chgP X i m o) := by
 refine ⟨h.1, by unfold chgP; rw [updP_len]; exact h.2.1, fun j l it' hl hit' => ?_⟩
 have hk := (List.getElem?_eq_some_iff.1 hit).1
 have hlen := h.2.1
 unfold chgP updP withP at hl
 rw [if_pos (by omega), List.getElem?_set] at hl
 have hun : X[k]? = some (unitsP X i) := by
  unfold unitsP
  rw [if_pos (by omega), show (i - 1).toNat = k by omega, List.getD_eq_getElem?_getD, List.getElem?_eq_getElem (by omega)]
  rfl
 split at hl
 ·next e =>
  rw [if_pos (by omega)] at hl
  injection hl with hl
  subst hl
  obtain rfl : j = k := by omega
  obtain rfl : it = it' := Option.some.inj (hit.symm.trans hit')
  obtain ⟨h1, h2⟩ := h.2.2 j _ it hun hit
  refine ⟨chg_rise _ h1, fun u hu => ?_⟩
  cases o with
  | none => exact h2 u (dropL_mem hu)
  | some s =>
   rcases putL_mem hu with rfl | hu
   ·exact ho s rfl
   ·exact h2 u hu
 ·exact h.2.2 j l it' hl hit'
end Go.Proofs.YtnlocdijdfclcaaGreatDoor
namespace Go.Proofs.YtnlocdijdfclcaaGreatDoor
open Go.RowKit Lex
set_option linter.unusedVariables false
set_option linter.unusedSimpArgs false

theorem rise_len {K : Nat} {l : List UnitM} (hr : Rise l) (hb : ∀ u ∈ l, 1 ≤ u.mach ∧ u.mach ≤ (K : Int)) : l.length ≤ K := by
 have key : ∀ (i : Nat) (u : UnitM), l[i]? = some u → (i : Int) + 1 ≤ u.mach := by
  intro i
  induction i with
  | zero => intro u hu; have := hb u (List.mem_of_getElem? hu); omega
  | succ i ih =>
   intro u hu
   have hlt := (List.getElem?_eq_some_iff.1 hu).1
   have h1 := ih _ (List.getElem?_eq_getElem (by omega))
   have h2 := hr i (i + 1) _ u (by omega) (List.getElem?_eq_getElem (by omega)) hu
   omega
 rcases Nat.eq_zero_or_pos l.length with h | h
 ·omega
 ·have hx := List.getElem?_eq_getElem (l := l) (i := l.length - 1) (by omega)
  have h1 := key _ _ hx
  have h2 := hb _ (List.mem_of_getElem? hx)
  omega
theorem PlcOK.units {M : Mdl} {X : Plc} (h : PlcOK M X) {k : Nat} {it : ItemM} (hit : M.items[k]? = some it) : Rise (unitsP X ((k : Int) + 1)) ∧ (∀ u ∈ unitsP X ((k : Int) + 1), UnitOK M it u) ∧ (unitsP X ((k : Int) + 1)).length ≤ 16 := by
 have hk := (List.getElem?_eq_some_iff.1 hit).1
 have hlen := h.2.1
 have hun : X[k]? = some (unitsP X ((k : Int) + 1)) := by
  unfold unitsP
  rw [if_pos (by omega), show ((k : Int) + 1 - 1).toNat = k by omega, List.getD_eq_getElem?_getD, List.getElem?_eq_getElem (by omega)]
  rfl
 obtain ⟨h1, h2⟩ := h.2.2 k _ it hun hit
 refine ⟨h1, h2, ?_⟩
 have := rise_len h1 (fun u hu => (h2 u hu).1)
 have := h.1.1.2.2.2.1
 omega
theorem PlcOK.fewP {M : Mdl} {X : Plc} (h : PlcOK M X) : FewP X := by
 refine ⟨by have := h.2.1; have := h.1.2.1; omega, fun l hl => ?_⟩
 obtain ⟨k, hk⟩ := List.getElem?_of_mem hl
 have hlt : k < M.items.length := by rw [← h.2.1]; exact (List.getElem?_eq_some_iff.1 hk).1
 have h1 := h.2.2 k l _ hk (List.getElem?_eq_getElem hlt)
 have := rise_len h1.1 (fun u hu => (h1.2 u hu).1)
 have := h.1.1.2.2.2.1
 omega
end Go.Proofs.YtnlocdijdfclcaaGreatDoor

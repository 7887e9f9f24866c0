/- Texts: PrA PrB Rat NumH NumL NumK IntL RatA PrS RatB PrT. -/
import Derived.Laws.IdiomStrings
import Derived.Laws.Concat
import Derived.Test.YtcjgimlcefhhmaaGreatDoorW1
import Derived.Test.YtcjgimlcefhhmaaGreatDoorW13
set_option linter.unusedVariables false
set_option linter.unusedSimpArgs false
set_option maxRecDepth 100000
set_option maxHeartbeats 12800000
namespace Go.Proofs.YtcjgimlcefhhmaaGreatDoor
namespace Prf
structure ξ8 where
 v : Int
 c : Int
structure RowS where
 name : List UInt8
 group : Int
 kind : Int
 terms : List ξ8
 bound : Int
structure VarM where
 lo : Int
 up : Int
 op : Bool
 ig : Bool
 cost : Int
structure Prg where
 vars : List VarM
 rows : List RowS
structure CutS where
 kind : Int
 mult : List Rat
 row : Int
 vars : List Int
structure ξ6 where
 kind : Int
 mult : List Rat
 var : Int
 pos : Int
 cut : CutS
def sumQ (f : Nat → Rat) : Nat → Rat
 | 0 => 0
 | k + 1 => sumQ f k + f k
theorem ξ0Y (f : Nat → Rat) (n : Nat) : sumQ f (n + 1) = sumQ f n + f n := rfl
theorem ξ1z {f g : Nat → Rat} : ∀ {n : Nat}, (∀ k, k < n → f k = g k) → sumQ f n = sumQ g n
 | 0, _ => rfl
 | n + 1, h => by
  simp only [ξ0Y]
  rw [ξ1z (fun k hk => h k (by omega)), h n (by omega)]
def atQ (y : List Rat) (i : Nat) : Rat := (y[i]?).getD 0
def rowCoef (l : List ξ8) (j : Nat) : Int := (l.map fun t => if t.v = (j : Int) then t.c else 0).sum
def cA (p : Prg) (y : List Rat) (j i : Nat) : Rat := match p.rows[i]? with
 | some r => (rowCoef r.terms j : Rat) * atQ y i
 | none => 0
def cB (p : Prg) (y : List Rat) (i : Nat) : Rat := match p.rows[i]? with
 | some r => (r.bound : Rat) * atQ y i
 | none => 0
def combA (p : Prg) (y : List Rat) (j : Nat) : Rat := sumQ (cA p y j) p.rows.length
def combB (p : Prg) (y : List Rat) : Rat := sumQ (cB p y) p.rows.length
def lTerm (vs : List VarM) (a : Nat → Rat) (j : Nat) : Rat := match vs[j]? with
 | some v => (((if a j < 0 then v.up else v.lo) : Int) : Rat) * a j
 | none => 0
def leastS (vs : List VarM) (a : Nat → Rat) : Rat := sumQ (lTerm vs a) vs.length
def ξ1B (vs : List VarM) : Prop := ∃ v ∈ vs, v.up < v.lo
def ξ5e (k : Int) (x : Rat) : Prop := ¬ (k = 1 ∧ x < 0) ∧ ¬ (k = 0 ∧ 0 < x)
def ξ23 (p : Prg) (y : List Rat) : Prop := ∀ i r, p.rows[i]? = some r → ξ5e r.kind (atQ y i)
def ξ27 (p : Prg) (y : List Rat) : Prop := ξ23 p y ∧ (ξ1B p.vars ∨ 0 < combB p y + leastS p.vars (fun j => - combA p y j))
def In (n : Int) : Prop := -1099511627776 ≤ n ∧ n ≤ 1099511627776
def ξ1I (v : VarM) : Prop := In v.lo ∧ In v.up ∧ In v.cost ∧ ¬ (v.op = true ∧ v.up ≠ 0)
def Inc (n : Nat) : Int → List ξ8 → Prop
 | _, [] => True
 | last, t :: l => (last < t.v ∧ t.v < (n : Int) ∧ t.c ≠ 0 ∧ In t.c) ∧ Inc n t.v l
def ξI (n : Nat) (r : RowS) : Prop := (0 ≤ r.kind ∧ r.kind ≤ 2) ∧ (0 ≤ r.group ∧ r.group ≤ 60) ∧ r.name.length ≤ 80 ∧ In r.bound ∧ (∀ b ∈ r.name, 32 ≤ b ∧ b ≤ 126) ∧ Inc n (-1) r.terms
def ξr (p : Prg) : Prop := p.vars.length ≤ 400 ∧ p.rows.length ≤ 4000 ∧ (∀ v ∈ p.vars, ξ1I v) ∧ ∀ r ∈ p.rows, ξI p.vars.length r
def Whole (p : Prg) : Prop := ∀ v ∈ p.vars, v.ig = true ∧ v.op = false
def setLow (vs : List VarM) (j : Int) : List VarM := vs.mapIdx fun i v => if (i : Int) = j then { v with lo := 1 } else v
def lowAll (vs : List VarM) (l : List Int) : List VarM := l.foldl setLow vs
def sgnR (r : RowS) : Int := if r.kind = 1 then -1 else 1
def ξ2a (vs : List VarM) (r : RowS) (l : List Int) : Prop := ¬ ξ1B (lowAll vs l) ∧ ((sgnR r * r.bound : Int) : Rat) < leastS (lowAll vs l) (fun j => ((sgnR r * rowCoef r.terms j : Int) : Rat))
def ξ0n (p : Prg) (v : Int) : Prop := ∃ x, 0 ≤ v ∧ p.vars[v.toNat]? = some x ∧ x.ig = true ∧ x.op = false ∧ x.lo = 0 ∧ x.up = 1
def IncI : Int → List Int → Prop
 | _, [] => True
 | last, v :: l => last < v ∧ IncI v l
def ξ0X (p : Prg) (c : CutS) : Prop := (c.kind = 0 ∧ c.row = 0 ∧ c.vars = [] ∧ c.mult.length ≤ p.rows.length) ∨
 (c.kind = 1 ∧ c.mult = [] ∧ 0 ≤ c.row ∧ c.row < (p.rows.length : Int) ∧ c.vars ≠ [] ∧ IncI (-1) c.vars ∧ ∀ v ∈ c.vars, ξ0n p v)
def ceilQ (x : Rat) : Int := -(-x).floor
def loT (vs : List VarM) (a : Nat → Rat) (j : Nat) : Rat := match vs[j]? with
 | some v => a j * (v.lo : Rat)
 | none => 0
def cutTerms (a : Nat → Rat) : Nat → List ξ8
 | 0 => []
 | k + 1 => cutTerms a k ++ (if ceilQ (a k) = 0 then [] else [⟨(k : Int), ceilQ (a k)⟩])
def cutBound (p : Prg) (y : List Rat) : Int :=
 ceilQ (combB p y - sumQ (loT p.vars (combA p y)) p.vars.length) + (sumQ (loT p.vars (fun j => ((ceilQ (combA p y j) : Int) : Rat))) p.vars.length).floor
def cutName : List UInt8 := [99, 117, 116]
def ξ2u (p : Prg) (y : List Rat) : Prop := ξ23 p y ∧ (∀ j, j < p.vars.length → In (ceilQ (combA p y j))) ∧ In (cutBound p y)
def roundRow (p : Prg) (y : List Rat) : RowS := ⟨cutName, 0, 1, cutTerms (combA p y) p.vars.length, cutBound p y⟩
def coverRow (l : List Int) : RowS := ⟨cutName, 0, 0, l.map fun v => ⟨v, 1⟩, (l.length : Int) - 1⟩
def ξ0m (p : Prg) (c : CutS) (r : RowS) : Prop := ξ0X p c ∧
 ((c.kind = 0 ∧ ξ2u p c.mult ∧ r = roundRow p c.mult) ∨ (c.kind = 1 ∧ (∃ x, p.rows[c.row.toNat]? = some x ∧ ξ2a p.vars x c.vars) ∧ r = coverRow c.vars))
theorem ξ4j {p : Prg} {c : CutS} {r s : RowS} (h : ξ0m p c r) (k : ξ0m p c s) : r = s := by
 rcases h.2 with ⟨h1, _, h2⟩ | ⟨h1, _, h2⟩ <;> rcases k.2 with ⟨k1, _, k2⟩ | ⟨k1, _, k2⟩
 ·rw [h2, k2]
 ·omega
 ·omega
 ·rw [h2, k2]
def addRow (p : Prg) (r : RowS) : Prg := ⟨p.vars, p.rows ++ [r]⟩
def setUp (vs : List VarM) (j : Int) (m : Int) : List VarM := vs.mapIdx fun i v => if (i : Int) = j then { v with up := min v.up m } else v
def setLo (vs : List VarM) (j : Int) (m : Int) : List VarM := vs.mapIdx fun i v => if (i : Int) = j then { v with lo := max v.lo m } else v
def ξ0e (c : CutS) : Prop := c.kind = 0 ∧ c.mult = [] ∧ c.row = 0 ∧ c.vars = []
def lowPart (p : Prg) (v m : Int) : Prg := ⟨setUp p.vars v m, p.rows⟩
def highPart (p : Prg) (v m : Int) : Prg := ⟨setLo p.vars v (m + 1), p.rows⟩
inductive ξa : Prg → List ξ6 → List ξ6 → Prop
 | farkas {p : Prg} {n : ξ6} {t : List ξ6} (h0 : n.kind = 0) (h1 : ξ0e n.cut ∧ n.var = 0 ∧ n.pos = 0) (h2 : n.mult.length ≤ p.rows.length) (h3 : ξ27 p n.mult) : ξa p (n :: t) t
 | empty {p : Prg} {n : ξ6} {t : List ξ6} {v : VarM} (h0 : n.kind = 1) (h1 : ξ0e n.cut ∧ n.mult = [] ∧ n.pos = 0) (h2 : 0 ≤ n.var) (h3 : p.vars[n.var.toNat]? = some v) (h4 : v.up < v.lo) : ξa p (n :: t) t
 | split {p : Prg} {n : ξ6} {t r s : List ξ6} (h0 : n.kind = 2) (h1 : ξ0e n.cut ∧ n.mult = []) (h2 : 0 ≤ n.var ∧ n.var < (p.vars.length : Int)) (h3 : -1099511627776 ≤ n.pos ∧ n.pos < 1099511627776)
   (h4 : ξa (lowPart p n.var n.pos) t r) (h5 : ξa (highPart p n.var n.pos) r s) : ξa p (n :: t) s
 | cut {p : Prg} {n : ξ6} {t s : List ξ6} {r : RowS} (h0 : n.kind = 3) (h1 : n.mult = [] ∧ n.var = 0 ∧ n.pos = 0) (h2 : ξ0m p n.cut r) (h4 : ξa (addRow p r) t s) : ξa p (n :: t) s
theorem ξ2m {p : Prg} {t r : List ξ6} (h : ξa p t r) : ∀ {s : List ξ6}, ξa p t s → r = s := by
 induction h with
 | farkas h0 _ _ _ => intro s k; cases k <;> first | rfl | omega
 | empty h0 _ _ _ _ => intro s k; cases k <;> first | rfl | omega
 | split h0 _ _ _ _ _ i4 i5 =>
  intro s k
  cases k with
  | split _ _ _ _ k4 k5 => cases i4 k4; exact i5 k5
  | _ => omega
 | cut h0 _ h2 _ i4 =>
  intro s k
  cases k with
  | cut _ _ k2 k4 => cases ξ4j h2 k2; exact i4 k4
  | _ => omega
theorem ξ1y {p : Prg} {t r : List ξ6} (h : ξa p t r) : ∃ u, u ≠ [] ∧ t = u ++ r ∧ ∀ s, ξa p (u ++ s) s := by
 induction h with
 | @farkas p n t h0 h1 h2 h3 => exact ⟨[n], by simp, rfl, fun s => .farkas h0 h1 h2 h3⟩
 | @empty p n t v h0 h1 h2 h3 h4 => exact ⟨[n], by simp, rfl, fun s => .empty h0 h1 h2 h3 h4⟩
 | @split p n t r s h0 h1 h2 h3 h4 h5 i4 i5 =>
  obtain ⟨u, _, rfl, hu⟩ := i4
  obtain ⟨u', _, rfl, hu'⟩ := i5
  exact ⟨n :: (u ++ u'), by simp, by simp, fun s => by
   simp only [List.cons_append, List.append_assoc]
   exact .split h0 h1 h2 h3 (hu _) (hu' s)⟩
 | @cut p n t s r h0 h1 h2 h4 i4 =>
  obtain ⟨u, _, rfl, hu⟩ := i4
  exact ⟨n :: u, by simp, by simp, fun s => .cut h0 h1 h2 (hu s)⟩
theorem ξ3U {p : Prg} {t : List ξ6} {k : Nat} (h : ξa p t []) (hk : k < t.length) : ¬ ξa p (t.take k) [] := fun h' => by
 obtain ⟨u, _, hu, hl⟩ := ξ1y h'
 have h2 := hl (t.drop k)
 rw [List.append_nil] at hu
 rw [← hu, List.take_append_drop] at h2
 have := congrArg List.length (ξ2m h h2)
 simp at this
 omega
theorem ξ3b {p : Prg} {t : List ξ6} {x : ξ6} (h : ξa p t []) : ¬ ξa p (t ++ [x]) [] := fun h' => by
 obtain ⟨u, _, hu, hl⟩ := ξ1y h
 rw [List.append_nil] at hu
 subst hu
 have := ξ2m h' (hl [x])
 cases this
theorem ξ9b {p : Prg} {t r : List ξ6} (h : ξa p t r) : t ≠ [] := by cases h <;> simp
theorem ξ3K {n : Nat} : ∀ {l : List ξ8} {last : Int}, -1 ≤ last → Inc n last l → ∀ t ∈ l, 0 ≤ t.v ∧ t.v < (n : Int)
 | [], _, _, _, t, ht => by cases ht
 | x :: l, last, hl, h, t, ht => by
  obtain ⟨h1, h2⟩ := h
  rcases List.mem_cons.1 ht with rfl | ht
  ·exact ⟨by omega, h1.2.1⟩
  ·exact ξ3K (by omega) h2 t ht
theorem ξ6U (t : ξ8) (l : List ξ8) (j : Nat) : rowCoef (t :: l) j = (if t.v = (j : Int) then t.c else 0) + rowCoef l j := by simp [rowCoef]
theorem ξ88 {p : Prg} {i : Nat} (h : i < p.rows.length) : ∃ r, p.rows[i]? = some r ∧ r ∈ p.rows := ⟨_, List.getElem?_eq_getElem h, List.getElem_mem h⟩
theorem ξbZ {vs : List VarM} {i : Nat} (h : i < vs.length) : ∃ r, vs[i]? = some r ∧ r ∈ vs := ⟨_, List.getElem?_eq_getElem h, List.getElem_mem h⟩
theorem ξ2q (a : Nat → Rat) (k : Nat) : cutTerms a (k + 1) = cutTerms a k ++ (if ceilQ (a k) = 0 then [] else [⟨(k : Int), ceilQ (a k)⟩]) := rfl
theorem ξ4S (vs : List VarM) (j : Int) (i : Nat) : (setLow vs j)[i]? = (vs[i]?).map fun v => if (i : Int) = j then { v with lo := 1 } else v := by
 simp [setLow, List.getElem?_mapIdx]
theorem ξ8w (vs : List VarM) (j : Int) : (setLow vs j).length = vs.length := by simp [setLow]
theorem ξ0O : ∀ (l : List Int) (vs : List VarM), (lowAll vs l).length = vs.length
 | [], vs => rfl
 | j :: l, vs => by unfold lowAll; rw [List.foldl_cons]; exact (ξ0O l _).trans (ξ8w vs j)
theorem ξ59 : ∀ (l : List Int) (vs : List VarM) (i : Nat), (lowAll vs l)[i]? = (vs[i]?).map fun v => if (i : Int) ∈ l then { v with lo := 1 } else v
 | [], vs, i => by simp [lowAll]
 | j :: l, vs, i => by
  have := ξ59 l (setLow vs j) i
  unfold lowAll at this ⊢
  rw [List.foldl_cons, this, ξ4S]
  cases vs[i]? with
  | none => rfl
  | some v =>
   simp only [Option.map_some, List.mem_cons]
   by_cases h1 : (i : Int) ∈ l <;> by_cases h2 : (i : Int) = j <;> simp [h1, h2]
theorem ξ68 (vs : List VarM) (j m : Int) (i : Nat) : (setUp vs j m)[i]? = (vs[i]?).map fun v => if (i : Int) = j then { v with up := min v.up m } else v := by simp [setUp, List.getElem?_mapIdx]
theorem ξ5Y (vs : List VarM) (j m : Int) (i : Nat) : (setLo vs j m)[i]? = (vs[i]?).map fun v => if (i : Int) = j then { v with lo := max v.lo m } else v := by simp [setLo, List.getElem?_mapIdx]
theorem ξ30 (vs : List VarM) (j m : Int) : (setUp vs j m).length = vs.length := by simp [setUp]
theorem ξ37 (vs : List VarM) (j m : Int) : (setLo vs j m).length = vs.length := by simp [setLo]
theorem ξ4i (a : Nat → Rat) : ∀ k, ∀ t ∈ cutTerms a k, 0 ≤ t.v ∧ t.v < (k : Int)
 | 0, t, h => by cases h
 | k + 1, t, h => by
  unfold cutTerms at h
  rcases List.mem_append.1 h with h | h
  ·have := ξ4i a k t h; omega
  ·split at h
   ·cases h
   ·obtain rfl := List.mem_singleton.1 h
    exact ⟨by simp only []; omega, by simp only []; omega⟩
theorem ξ2F {y : List Rat} {i : Nat} (h : y.length ≤ i) : atQ y i = 0 := by unfold atQ; rw [List.getElem?_eq_none h]; rfl
theorem ξ9u {p : Prg} {y : List Rat} (h : y.length ≤ p.rows.length) (r : RowS) (j : Nat) : combA (addRow p r) y j = combA p y j := by
 unfold combA addRow
 simp only [List.length_append, List.length_singleton, ξ0Y]
 have e : sumQ (cA ⟨p.vars, p.rows ++ [r]⟩ y j) p.rows.length = sumQ (cA p y j) p.rows.length := ξ1z fun i hi => by
  unfold cA; simp only [List.getElem?_append_left hi]
 rw [e]
 unfold cA
 rw [ξ2F h]
 simp
 grind
theorem ξ94 {p : Prg} {y : List Rat} (h : y.length ≤ p.rows.length) (r : RowS) : combB (addRow p r) y = combB p y := by
 unfold combB addRow
 simp only [List.length_append, List.length_singleton, ξ0Y]
 have e : sumQ (cB ⟨p.vars, p.rows ++ [r]⟩ y) p.rows.length = sumQ (cB p y) p.rows.length := ξ1z fun i hi => by
  unfold cB; simp only [List.getElem?_append_left hi]
 rw [e]
 unfold cB
 rw [ξ2F h]
 simp
 grind
theorem ξ8Y {p : Prg} {y : List Rat} (h : y.length ≤ p.rows.length) (r : RowS) (hs : ξ23 p y) : ξ23 (addRow p r) y := fun i x hx => by
 by_cases hi : i < p.rows.length
 ·exact hs i x (by simpa [addRow, List.getElem?_append_left hi] using hx)
 ·rw [ξ2F (by omega)]
  exact ⟨fun h => absurd h.2 (by decide), fun h => absurd h.2 (by decide)⟩
theorem ξ3x {p : Prg} {t s : List ξ6} (h : ξa p t s) : (∀ n ∈ t, n.kind ≠ 3) → ∀ r, ξa (addRow p r) t s := by
 induction h with
 | @farkas p n t h0 h1 h2 h3 =>
  intro _ r
  refine .farkas h0 h1 (by simp [addRow]; omega) ⟨ξ8Y h2 r h3.1, ?_⟩
  rcases h3.2 with h | h
  ·exact .inl h
  ·refine .inr ?_
   rw [ξ94 h2, show (fun j => - combA (addRow p r) n.mult j) = fun j => - combA p n.mult j from by funext j; rw [ξ9u h2]]
   exact h
 | @empty p n t v h0 h1 h2 h3 h4 => exact fun _ r => .empty h0 h1 h2 h3 h4
 | @split p n t r s h0 h1 h2 h3 h4 h5 i4 i5 =>
  intro hk x
  obtain ⟨u, _, hu, _⟩ := ξ1y h4
  exact .split h0 h1 h2 h3 (i4 (fun m hm => hk m (List.mem_cons_of_mem _ hm)) x) (i5 (fun m hm => hk m (List.mem_cons_of_mem _ (by rw [hu]; exact List.mem_append_right _ hm))) x)
 | @cut p n t s r h0 h1 h2 h4 i4 => exact fun hk => absurd h0 (hk n (List.mem_cons_self ..))
end Prf
end Go.Proofs.YtcjgimlcefhhmaaGreatDoor
namespace Go.Proofs.YtcjgimlcefhhmaaGreatDoor
open Go.RowKit
def denV (d : List Nat) : Nat := if nval d = 0 then 1 else nval d
def dd (k : Nat) : List Nat := if k = 1 then [] else digs k
def ratv (n : Bool) (l d : List Nat) : Rat := mkRat (zval n l) (denV d)
def cmpQ (x y : Rat) : Int := if x < y then -1 else if x = y then 0 else 1
def Sz (L : Nat) (x : Rat) : Prop := (digs x.num.natAbs).length ≤ L ∧ (digs x.den).length ≤ L
theorem ξ5k (d : List Nat) : denV d ≠ 0 := by unfold denV; split <;> omega
theorem ξah : denV [] = 1 := rfl
theorem ξ5o {k : Nat} (h : k ≠ 0) : denV (dd k) = k := by
 unfold dd
 by_cases h1 : k = 1
 ·rw [if_pos h1, h1]; rfl
 ·rw [if_neg h1]
  unfold denV
  rw [ξ4, if_neg h]
theorem ξct {j k : Nat} (hj : j ≠ 0) (hk : k ≠ 0) (h : dd j = dd k) : j = k := by
 rw [← ξ5o hj, ← ξ5o hk, h]
theorem ξ4U (z : Int) : zval (decide (z < 0)) (digs z.natAbs) = z := by
 unfold zval
 rw [ξ4]
 split <;> rename_i h <;> simp at h <;> omega
theorem ξ6w (x : Rat) : ratv (decide (x.num < 0)) (digs x.num.natAbs) (dd x.den) = x := by
 unfold ratv
 rw [ξ4U, ξ5o x.den_nz, Rat.mkRat_self]
theorem ξ92 {k L : Nat} (h : (digs k).length ≤ L) : (dd k).length ≤ L := by
 unfold dd
 split
 ·exact Nat.zero_le _
 ·exact h
theorem ξci (k : Nat) : Dig (dd k) := by
 unfold dd
 split
 ·exact fun x hx => by cases hx
 ·exact Dig.digs k
theorem ξ3p (z : Int) (d : Nat) (hd : d ≠ 0) : (mkRat z d).num = z / (Nat.gcd z.natAbs d : Nat) := by
 rw [Rat.num_mkRat, if_neg hd, Nat.gcd_comm]
theorem ξ2w (z : Int) (d : Nat) (hd : d ≠ 0) : (mkRat z d).den = d / Nat.gcd z.natAbs d := by
 rw [Rat.den_mkRat, if_neg hd, Nat.gcd_comm]
theorem ξ58 (z : Int) (d : Nat) (hd : d ≠ 0) : (mkRat z d).num.natAbs = z.natAbs / Nat.gcd z.natAbs d := by
 rw [ξ3p z d hd]
 have h1 : Nat.gcd z.natAbs d ∣ z.natAbs := Nat.gcd_dvd_left _ _
 have hg : 0 < Nat.gcd z.natAbs d := Nat.gcd_pos_of_pos_right _ (by omega)
 obtain ⟨k, hk⟩ := h1
 generalize Nat.gcd z.natAbs d = g at hk hg ⊢
 rw [hk, Nat.mul_div_cancel_left _ hg]
 have h2 : z = g * (if z < 0 then -(k : Int) else k) := by
  split
  ·have : z = -(z.natAbs : Int) := by omega
   rw [this, hk]; simp [Int.mul_neg]
  ·have : z = (z.natAbs : Int) := by omega
   rw [this, hk]; simp
 have h3 : z / (g : Int) = if z < 0 then -(k : Int) else k := by
  conv => lhs; rw [h2]
  exact Int.mul_ediv_cancel_left _ (by omega)
 rw [h3]
 split <;> omega
theorem ξ8h (z : Int) (d : Nat) (hd : d ≠ 0) : ((mkRat z d).num < 0) ↔ z < 0 := by
 have hg : 0 < Nat.gcd z.natAbs d := Nat.gcd_pos_of_pos_right _ (by omega)
 obtain ⟨k, hk⟩ : (Nat.gcd z.natAbs d : Int) ∣ z := Int.ofNat_dvd_left.2 (Nat.gcd_dvd_left _ _)
 rw [ξ3p z d hd]
 generalize Nat.gcd z.natAbs d = g at hk hg ⊢
 subst hk
 rw [Int.mul_ediv_cancel_left _ (by omega)]
 constructor
 ·intro h
  exact Int.mul_neg_of_pos_of_neg (by omega) h
 ·intro h
  by_cases hk : k < 0
  ·exact hk
  ·have := Int.mul_nonneg (a := (g : Int)) (b := k) (by omega) (by omega)
   omega
theorem ξ7L (z : Int) (d : Nat) (hd : d ≠ 0) : quoZ false z (Nat.gcd z.natAbs d : Nat) = (mkRat z d).num := by
 have hg : 0 < Nat.gcd z.natAbs d := Nat.gcd_pos_of_pos_right _ (by omega)
 have h1 := ξ58 z d hd
 have h2 := ξ8h z d hd
 have h3 : Nat.gcd z.natAbs d ∣ z.natAbs := Nat.gcd_dvd_left _ _
 generalize Nat.gcd z.natAbs d = g at h1 hg h3 ⊢
 unfold quoZ
 have hs : (sgn z * sgn (g : Int) < 0) ↔ z < 0 := by
  have : sgn (g : Int) = 1 := by unfold sgn; rw [if_neg (by omega), if_neg (by omega)]
  rw [this]
  unfold sgn
  split
  ·simp; omega
  ·split <;> simp <;> omega
 simp only [Bool.false_and, Int.natAbs_natCast, Bool.false_eq_true, if_false, Nat.add_zero]
 rw [← h1]
 by_cases hz : z < 0
 ·rw [if_pos (hs.2 hz)]
  have := h2.2 hz
  omega
 ·rw [if_neg (fun h => hz (hs.1 h))]
  have := fun h => hz (h2.1 h)
  omega
theorem ξ6Q (z : Int) (d : Nat) (hd : d ≠ 0) : quoZ false (d : Int) (Nat.gcd z.natAbs d : Nat) = ((mkRat z d).den : Int) := by
 have hg : 0 < Nat.gcd z.natAbs d := Nat.gcd_pos_of_pos_right _ (by omega)
 rw [ξ2w z d hd]
 generalize Nat.gcd z.natAbs d = g at hg ⊢
 unfold quoZ
 have hs : ¬ (sgn (d : Int) * sgn (g : Int) < 0) := by
  have h1 : sgn (g : Int) = 1 := by unfold sgn; rw [if_neg (by omega), if_neg (by omega)]
  have h2 : sgn (d : Int) = 1 := by unfold sgn; rw [if_neg (by omega), if_neg (by omega)]
  rw [h1, h2]; decide
 simp only [Bool.false_and, Int.natAbs_natCast, Bool.false_eq_true, if_false, Nat.add_zero]
 rw [if_neg hs]
theorem ξcC (z : Int) (d : Nat) : mkRat (-z) d = -mkRat z d := (Rat.neg_mkRat z d).symm
theorem ξ8O {a b : Int} (h : 0 < b) : Rat.divInt a b = mkRat a b.natAbs := by
 rw [← Rat.divInt_ofNat]
 congr 1
 omega
theorem ξ8G {a b : Int} (h : b < 0) : Rat.divInt a b = mkRat (-a) b.natAbs := by
 rw [← Rat.divInt_ofNat, ← Rat.neg_divInt_neg]
 congr 1
 omega
theorem ξck (p r : Int) {q s : Nat} (hq : q ≠ 0) (hs : s ≠ 0) : mkRat p q + mkRat r s = mkRat (p * s + r * q) (q * s) := Rat.mkRat_add_mkRat p r hq hs
theorem ξcy (p r : Int) (q s : Nat) : mkRat p q * mkRat r s = mkRat (p * r) (q * s) := Rat.mkRat_mul_mkRat p r q s
theorem ξcU (p r : Int) {q s : Nat} (hq : q ≠ 0) (hs : s ≠ 0) : mkRat p q < mkRat r s ↔ p * s < r * q := by
 rw [Rat.mkRat_eq_div, Rat.mkRat_eq_div]
 have h1 : (0 : Rat) < (q : Rat) := Rat.natCast_pos.2 (by omega)
 have h2 : (0 : Rat) < (s : Rat) := Rat.natCast_pos.2 (by omega)
 rw [Rat.div_lt_iff h1, show (r : Rat) / s * q = (r * q) / s by grind, Rat.lt_div_iff h2]
 rw [← Rat.intCast_natCast s, ← Rat.intCast_natCast q, ← Rat.intCast_mul, ← Rat.intCast_mul, Rat.intCast_lt_intCast]
theorem ξcV (p r : Int) {q s : Nat} (hq : q ≠ 0) (hs : s ≠ 0) : mkRat p q = mkRat r s ↔ p * s = r * q := Rat.mkRat_eq_iff hq hs
theorem ξcg (p r : Int) {q s : Nat} (hq : q ≠ 0) (hs : s ≠ 0) : cmpZ (p * s) (r * q) = cmpQ (mkRat p q) (mkRat r s) := by
 unfold cmpZ cmpQ
 simp only [ξcU p r hq hs, ξcV p r hq hs]
theorem ξcF (p : Int) {q : Nat} (hq : q ≠ 0) : sgn p = sgn (mkRat p q).num := by
 have h := ξ8h p q hq
 have h2 : (mkRat p q).num = 0 ↔ p = 0 := by rw [Rat.num_eq_zero, Rat.mkRat_eq_zero hq]
 unfold sgn
 simp only [h, h2]
theorem ξc9 (x y : Rat) : sgn (x - y).num = cmpQ x y := by
 unfold sgn cmpQ
 have h1 : (x - y).num < 0 ↔ x < y := by
  rw [← Int.not_le, Rat.num_nonneg, ← Rat.le_iff_sub_nonneg, Rat.not_le]
 have h2 : (x - y).num = 0 ↔ x = y := by
  rw [Rat.num_eq_zero]
  constructor
  ·intro h; grind
  ·intro h; subst h; grind
 simp only [h1, h2]
theorem ξaE (p : Int) {q : Nat} (hq : q ≠ 0) : p / (q : Int) = (mkRat p q).floor := by
 rw [Rat.floor_def]
 obtain ⟨g, hg, h1, h2⟩ : ∃ g : Nat, g ≠ 0 ∧ p = (mkRat p q).num * g ∧ q = (mkRat p q).den * g := by
  rw [← Rat.normalize_eq_mkRat hq]
  exact Rat.normalize_num_den' p q hq
 generalize mkRat p q = x at h1 h2 ⊢
 rw [h1, h2, Int.natCast_mul, Int.mul_ediv_mul_of_pos_left _ _ (by omega)]
theorem ξ71 (p : Int) {q : Nat} (hq : q ≠ 0) : (mkRat p q).num.natAbs ≤ p.natAbs ∧ (mkRat p q).den ≤ q := by
 rw [ξ58 p q hq, ξ2w p q hq]
 exact ⟨Nat.div_le_self _ _, Nat.div_le_self _ _⟩
theorem ξbg {p : Int} {q L : Nat} (hq : q ≠ 0) (h1 : (digs p.natAbs).length ≤ L) (h2 : (digs q).length ≤ L) : Sz L (mkRat p q) := by
 obtain ⟨k1, k2⟩ := ξ71 p hq
 exact ⟨Nat.le_trans (ξl k1) h1, Nat.le_trans (ξl k2) h2⟩
theorem Sz.mono {L M : Nat} {x : Rat} (h : Sz L x) (hM : L ≤ M) : Sz M x := ⟨Nat.le_trans h.1 hM, Nat.le_trans h.2 hM⟩
theorem ξ42 {L : Nat} {x : Rat} (h : Sz L x) : Sz L (-x) := by
 refine ⟨?_, h.2⟩
 rw [show (-x).num = -x.num from rfl, Int.natAbs_neg]
 exact h.1
theorem ξ7D {k L : Nat} (hk : k ≠ 0) (h : (digs k).length ≤ L) : 1 ≤ L := by
 cases L with
 | zero => exact absurd (ξs.1 (List.eq_nil_of_length_eq_zero (Nat.le_zero.1 h))) hk
 | succ n => omega
theorem ξ2B {L : Nat} {z : Int} (h : (digs z.natAbs).length ≤ L) (hL : 1 ≤ L) : Sz L (z : Rat) := by
 refine ⟨h, ?_⟩
 rw [Rat.den_intCast]
 exact Nat.le_trans (by decide +kernel) hL
theorem ξ4O (z : Int) : mkRat z 1 = (z : Rat) := by
 rw [Rat.mkRat_eq_div]
 grind
end Go.Proofs.YtcjgimlcefhhmaaGreatDoor
namespace Go.Proofs.YtcjgimlcefhhmaaGreatDoor
open Go.RowKit Go.Lib
def ξ3q (N m : Nat) (s : List UInt8) : Prop := (N = 0 → m = 0 ∧ s = []) ∧ (0 < N → decDigits N = (if m = 0 then [] else decDigits m) ++ s)
theorem ξ3q.start (N : Nat) : ξ3q N N [] := ⟨fun h => ⟨h, rfl⟩, fun h => by rw [if_neg (by omega)]; simp⟩
theorem ξ3q.step {N m : Nat} {s : List UInt8} (h : ξ3q N m s) (hm : 0 < m) : ξ3q N (m / 10) (UInt8.ofNat (48 + m % 10) :: s) := by
 have hN : 0 < N := Nat.pos_of_ne_zero fun e => by have := (h.1 e).1; omega
 refine ⟨fun e => by omega, fun _ => ?_⟩
 rw [h.2 hN, if_neg (by omega)]
 by_cases h10 : m < 10
 ·rw [ξ17 h10, if_pos (by omega), Nat.mod_eq_of_lt h10]; rfl
 ·rw [ξ4c h10, if_neg (by omega), List.append_assoc]; rfl
theorem ξ3q.stop {N : Nat} {s : List UInt8} (h : ξ3q N 0 s) : (s = [] ∧ N = 0) ∨ (s ≠ [] ∧ decDigits N = s) := by
 by_cases hN : N = 0
 ·exact .inl ⟨(h.1 hN).2, hN⟩
 ·have h2 := h.2 (by omega)
  rw [if_pos rfl, List.nil_append] at h2
  refine .inr ⟨fun e => ?_, h2⟩
  have := nDigits_pos N
  rw [← decDigits_length, h2, e] at this
  simp at this
theorem ξ62 (w : World) (v : Value) (l : List Nat) (h : NatL w v l) (hlen : l.length ≤ 17592186044416) :
  Calls Tryz.prog 179 #[v] w fun e w' => e = .returned (.bool (decide (trimL l = l))) ∧ w = w' := by
 have HA := ξ h
 have HT := ξ (ξ4f l h.dig)
 obtain ⟨p, c, rfl, h1, h2, h0⟩ := h.parts
 obtain ⟨n, hn⟩ : ∃ n, l.length = n := ⟨_, rfl⟩
 rw [hn] at h1 hlen ⊢
 rw [hn] at HA HT
 have Hn := ξ hn
 clear hn h0 h
 by_cases h0 : n = 0
 ·obtain rfl := h0
  have Hd := ξ (show decide (trimL l = l) = true by simp; exact HT.out.2 (.inl (List.eq_nil_of_length_eq_zero Hn.out)))
  go_enter Tryz.func179, Tryz.ntmps179
  go_wp2_with fail
  go_ret
  rw [Hd.out]
  exact ⟨rfl, rfl⟩
 ·obtain ⟨j, rfl⟩ : ∃ j, n = j + 1 := ⟨n - 1, by omega⟩
  obtain ⟨b, o, rfl, hc⟩ := HA.out.at j (by rw [Hn.out]; omega)
  rw [Nat.add_sub_cancel] at HT
  have t1 : (((j + 1 : Nat) : Int) == 0) = false := by simp; omega
  have Hd := ξ (show decide (trimL l = l) = ((gd l j : Int) != 0) by
   rw [Bool.eq_iff_iff, decide_eq_true_iff, HT.out]
   have : l ≠ [] := fun e => by have := Hn.out; rw [e] at this; simp at this
   simp [this])
  go_enter Tryz.func179, Tryz.ntmps179
  go_wp2_with fail
  go_ret
  rw [Hd.out]
  exact ⟨rfl, rfl⟩
theorem ξ5U (a b : Nat) : Nat.gcd b (a % b) = Nat.gcd a b := by
 rw [Nat.gcd_comm b, ← Nat.gcd_rec, Nat.gcd_comm]
theorem ξ9t (w : World) (va vb : Value) (x y : Nat) (ha : NatL w va (digs x)) (hb : NatL w vb (digs y)) (hx : x < 18446744073709551616) (hy : y < 18446744073709551616) :
  Calls Tryz.prog 232 #[va, vb] w (Ret w fun r w' => NatL w' r (digs (Nat.gcd x y))) := by
 have HA := ξ ha
 have HB := ξ hb
 clear ha hb
 go_enter Tryz.func232, Tryz.ntmps232
 go_wp2_with fail
 refine (ξ4y w va _ true HA.out (decide_eq_true (by rw [ξ4]; exact ξ1o.2 hx))).mono ?_
 rintro _ _ ⟨rfl, rfl⟩
 rw [ξ4]
 go_wp2_with fail
 refine (ξ4y w vb _ true HB.out (decide_eq_true (by rw [ξ4]; exact ξ1o.2 hy))).mono ?_
 rintro _ _ ⟨rfl, rfl⟩
 rw [ξ4]
 go_wp2_with fail
 go_loopw [5, 7] (fun u v w1 => ∃ a b : Nat, u = .int .u64 a ∧ v = .int .u64 b ∧ a < 18446744073709551616 ∧ b < 18446744073709551616 ∧ Nat.gcd a b = Nat.gcd x y ∧ Gr w w1) (fun _ v _ => (RowKit.intOf v).toNat)
 case atStart => exact ⟨x, y, by simp, by simp, hx, hy, rfl, Gr.refl _⟩
 case round =>
  obtain ⟨a, b, rfl, rfl, ha, hb, hg, hgr⟩ := hrel
  have Hg := ξ hg
  have Hgr := ξ hgr
  clear hg hgr
  by_cases h0 : b = 0
  ·subst h0
   go_wp2_with fail
   refine (ξ0q _ a ha).mono ?_
   rintro _ w2 ⟨r2, rfl, g2, h2⟩
   have H2 := ξ h2
   have G2 := ξ g2
   clear h2 g2
   go_wp2_with fail
   go_ret
   refine ⟨_, rfl, Hgr.out.trans G2.out, ?_⟩
   rw [← Hg.out, Nat.gcd_zero_right]
   exact H2.out
  ·have hmod := Nat.mod_lt a (show 0 < b by omega)
   obtain ⟨r, hr⟩ : ∃ r, a % b = r := ⟨_, rfl⟩
   have E1 : (a : Int) % (b : Int) = (r : Int) := by rw [← hr]; simp
   have E2 : (a : Int).tmod (b : Int) = (r : Int) := by rw [Int.tmod_eq_emod_of_nonneg (by omega)]; exact E1
   rw [hr] at hmod
   have hbI : (b : Int) ≠ 0 := by omega
   have Hr := ξ hr
   clear hr
   go_wp2_with fail
   refine ξ3 [(0, true), (1, true), (2, true), (3, true), (4, true), (5, true)] (by kernel_rfl) (by kernel_rfl) rfl (by kernel_rfl) (fun _ _ d _ _ h => by cases d <;> exact h) ?_
   have g0 : Gr wr wr.drew := (Gr.refl _).drew
   repeat (refine ξ2 (v := ?_) g0 rfl rfl (fun w' hg => ?_) (fun K hK => ?_); rotate_left; (go_simp; rfl); go_simp; refine hK _ _ ?_; clear hK K)
   refine ξ9 ?_
   go_wp2_with fail
   refine ⟨⟨b, r, rfl, by first | rfl | simp [E1, E2], hb, by omega, ?_, Hgr.out.trans g0⟩, by simp [RowKit.intOf]; omega⟩
   rw [← Hg.out, ← Hr.out, ξ5U]
def readN (w : World) : Value → Nat
 | .slice (some ⟨b, o, _⟩) n _ => nval ((List.range n).map fun i => match w.cell? ⟨b, o + i, none⟩ with
  | some (.int _ z) => z.toNat
  | _ => 0)
 | _ => 0
theorem ξ75 {w : World} {v : Value} {l : List Nat} (h : NatL w v l) : readN w v = nval l := by
 obtain ⟨h0, p, c, rfl, h1, h2, h3⟩ := h
 rcases h3 with h3 | ⟨b, o, rfl, hc⟩
 ·have : l = [] := List.eq_nil_of_length_eq_zero (by omega)
  subst this
  rcases p with _ | ⟨b, o, s⟩ <;> rfl
 ·have key : ((List.range l.length).map fun i => match w.cell? ⟨b, o + i, none⟩ with | some (.int _ z) => z.toNat | _ => 0) = l := by
   apply List.ext_getElem
   ·simp
   ·intro i hi1 hi2
    simp only [List.getElem_map, List.getElem_range]
    rw [hc i hi2]
    simp [ξ2J hi2]
  exact congrArg nval key
theorem ξ5i (w : World) (va vb : Value) (la lb : List Nat) (x y : Nat) (ha : NatL w va la) (hb : NatL w vb lb) (hx : nval la = x) (hy : nval lb = y) (hla : la.length ≤ 1000000) (hlb : lb.length ≤ 1000000) :
  Calls Tryz.prog 180 #[va, vb] w (Ret w fun r w' => NatL w' r (digs (Nat.gcd x y))) := by
 have HA := ξ ha
 have HB := ξ hb
 have HX := ξ hx
 have HY := ξ hy
 have HLx := ξ (show (digs x).length ≤ 1000000 by rw [← hx]; exact Nat.le_trans (ξ0U ha.dig) hla)
 have HLy := ξ (show (digs y).length ≤ 1000000 by rw [← hy]; exact Nat.le_trans (ξ0U hb.dig) hlb)
 clear ha hb hx hy
 go_enter Tryz.func180, Tryz.ntmps180
 go_wp2_with fail
 refine (ξ2R w va la HA.out (by omega)).mono ?_
 rintro _ w1 ⟨v1, rfl, g1, h1⟩
 rw [HX.out] at h1
 have H1 := ξ h1
 have G1 := ξ g1
 clear h1 g1
 go_wp2_with fail
 refine (ξ2R w1 vb lb (HB.out.grow G1.out) (by omega)).mono ?_
 rintro _ w2 ⟨v2, rfl, g2, h2⟩
 rw [HY.out] at h2
 have H2 := ξ h2
 have H1 := ξ (H1.out.grow g2)
 have G2 := ξ (G1.out.trans g2)
 clear h2 g2
 go_wp2_with fail
 go_loopw [0, 1] (fun u v w3 => ∃ a b : Nat, NatL w3 u (digs a) ∧ NatL w3 v (digs b) ∧ (digs a).length ≤ 1000000 ∧ (digs b).length ≤ 1000000 ∧ Nat.gcd a b = Nat.gcd x y ∧ Gr w2 w3) (fun _ v w3 => readN w3 v)
 case atStart => exact ⟨x, y, H1.out, H2.out, HLx.out, HLy.out, rfl, Gr.refl _⟩
 case round =>
  obtain ⟨a, b, ha, hb, hal, hbl, hg, hgr⟩ := hrel
  have hrd := ξ (ξ75 hb)
  have HA := ξ ha
  have HB := ξ hb
  have Hg := ξ hg
  have Hgr := ξ hgr
  obtain ⟨pa, ka, ca, rfl, hka⟩ := ha.slice
  obtain ⟨pb, kb, cb, rfl, hkb⟩ := hb.slice
  have Hka := ξ hka
  have Hkb := ξ hkb
  have ka1 : ka ≤ 1000000 := by rw [hka]; exact hal
  have kb1 : kb ≤ 1000000 := by rw [hkb]; exact hbl
  have HAl := ξ hal
  have HBl := ξ hbl
  clear ha hb hg hgr hka hkb hal hbl
  by_cases h0 : b = 0
  ·obtain rfl : kb = 0 := by rw [Hkb.out, h0]; simp [ξs.2]
   subst h0
   go_wp2_with fail
   go_ret
   refine ⟨_, rfl, G2.out.trans Hgr.out, ?_⟩
   rw [← Hg.out, Nat.gcd_zero_right]
   exact HA.out
  ·have hk0 : 0 < kb := by rw [Hkb.out]; exact List.length_pos_iff.2 (fun e => h0 (ξs.1 e))
   by_cases hs : ka ≤ 2 ∧ kb ≤ 2
   ·obtain ⟨s1, s2⟩ := hs
    have hxs := ξ1o.1 (show (digs a).length ≤ 2 by rw [← Hka.out]; exact s1)
    have hys := ξ1o.1 (show (digs b).length ≤ 2 by rw [← Hkb.out]; exact s2)
    have Hsm := ξ (ξ9t _ _ _ a b HA.out HB.out hxs hys)
    clear hxs hys
    go_wp2_with fail
    refine Hsm.out.mono ?_
    rintro _ w4 ⟨r4, rfl, g4, h4⟩
    have H4 := ξ h4
    have G4 := ξ g4
    clear h4 g4
    go_wp2_with fail
    go_ret
    refine ⟨_, rfl, G2.out.trans (Hgr.out.trans G4.out), ?_⟩
    rw [← Hg.out]
    exact H4.out
   ·have Hdm := ξ (ξ5a _ _ _ (digs a) (digs b) HA.out HB.out (Nat.le_trans HAl.out (by decide)) (Nat.le_trans HBl.out (by decide)) (by rw [ξ4]; exact h0))
    have hmod := Nat.mod_lt a (show 0 < b by omega)
    have Hmod := ξ hmod
    clear hmod
    have hs' : ka ≤ 2 → ¬ kb ≤ 2 := fun e1 e2 => hs ⟨e1, e2⟩
    clear hs
    have fin : ∀ (w4 : World) (q r : Value), NatL w4 r (digs (a % b)) → Gr wr w4 → (∃ a' b' : Nat, NatL w4 (.slice pb kb cb) (digs a') ∧ NatL w4 r (digs b') ∧ (digs a').length ≤ 1000000 ∧ (digs b').length ≤ 1000000 ∧ Nat.gcd a' b' = Nat.gcd x y ∧ Gr w2 w4) ∧ readN w4 r < readN wr (.slice pb kb cb) := fun w4 q r hr hg4 => by
     refine ⟨⟨b, a % b, HB.out.grow hg4, hr, HBl.out, Nat.le_trans (ξ2d (Nat.le_of_lt Hmod.out)) HBl.out, by rw [ξ5U]; exact Hg.out, Hgr.out.trans hg4⟩, ?_⟩
     rw [ξ75 hr, hrd.out, ξ4, ξ4]
     exact Hmod.out
    have Hfin := ξ fin
    clear fin
    by_cases s1 : ka ≤ 2
    ·have s2 := hs' s1
     clear hs'
     go_wp2_with fail
     refine Hdm.out.mono ?_
     rintro _ w4 ⟨_, rfl, g4, q, r, rfl, hq, hr⟩
     rw [ξ4, ξ4] at hr
     have F := ξ (Hfin.out w4 q r hr g4)
     clear hq hr g4
     go_wp2_with fail
     exact F.out
    ·clear hs'
     go_wp2_with fail
     refine Hdm.out.mono ?_
     rintro _ w4 ⟨_, rfl, g4, q, r, rfl, hq, hr⟩
     rw [ξ4, ξ4] at hr
     have F := ξ (Hfin.out w4 q r hr g4)
     clear hq hr g4
     go_wp2_with fail
     exact F.out
theorem ξ9L (w : World) (va : Value) (n : Bool) (l : List Nat) (t : Bool) (ha : IntL w va n l) (hl : l.length ≤ 1000000) (ht : (decide (trimL l = l) && !(n && l.isEmpty)) = t) :
  Calls Tryz.prog 178 #[va] w (Ret w fun r w' => r = .bool t) := by
 obtain ⟨p, k, c, rfl, hm⟩ := ha
 have HM := ξ hm
 have HT := ξ ht
 have hk := hm.len
 have Hk := ξ hk
 have hk1 : k ≤ 1000000 := by rw [← hk]; exact hl
 have B := boxed1 w (.bool n) (.slice p k c) 66
 clear hm ht hk
 go_enter Tryz.func178, Tryz.ntmps178
 go_wp2_with fail
 generalize w.alloc _ = W at B ⊢
 obtain ⟨G0, T0⟩ := B
 generalize w.heap.size = b0 at T0 ⊢
 have G := ξ G0
 have T := ξ T0
 have c0 := T0.c0 W (Gr.refl _)
 have c1 := T0.c1 W (Gr.refl _)
 clear G0 T0
 go_wp2_with fail
 obtain ⟨v, hv⟩ : ∃ v, decide (trimL l = l) = v := ⟨_, rfl⟩
 have HV := ξ hv
 refine (ξ62 W _ l (HM.out.grow G.out) (by omega)).mono ?_
 rintro _ _ ⟨rfl, rfl⟩
 rw [hv]
 clear hv
 have ht := HT.out
 rw [HV.out] at ht
 cases v
 ·have ht2 : t = false := by rw [← ht]; rfl
  subst ht2
  clear ht
  go_wp2_with fail
  go_ret
  exact ⟨_, rfl, G.out, rfl⟩
 ·cases n
  ·have ht2 : t = true := by rw [← ht]; rfl
   subst ht2
   clear ht
   go_wp2_with fail
   go_ret
   exact ⟨_, rfl, G.out, rfl⟩
  ·by_cases h0 : k = 0
   ·have ht2 : t = false := by
     have : l = [] := List.eq_nil_of_length_eq_zero (by have := Hk.out; omega)
     rw [← ht, this]; rfl
    subst ht2
    subst h0
    clear ht
    go_wp2_with fail
    go_ret
    exact ⟨_, rfl, G.out, rfl⟩
   ·have ht2 : t = true := by
     have : l.isEmpty = false := by cases l with
      | nil => have := Hk.out; simp at this; omega
      | cons _ _ => rfl
     rw [← ht, this]; rfl
    subst ht2
    clear ht
    have hk0 : 0 < k := by omega
    go_wp2_with fail
    go_ret
    exact ⟨_, rfl, G.out, rfl⟩
def RatL (w : World) (v : Value) (n : Bool) (l d : List Nat) : Prop := ∃ p k c q m e, v = .agg #[.bool n, .slice p k c, .slice q m e] ∧ NatL w (.slice p k c) l ∧ NatL w (.slice q m e) d
theorem RatL.grow {w w' : World} {v : Value} {n : Bool} {l d : List Nat} (h : RatL w v n l d) (g : Gr w w') : RatL w' v n l d := by
 obtain ⟨p, k, c, q, m, e, rfl, h1, h2⟩ := h; exact ⟨p, k, c, q, m, e, rfl, h1.grow g, h2.grow g⟩
def RatC (w : World) (v : Value) (x : Rat) : Prop := RatL w v (decide (x.num < 0)) (digs x.num.natAbs) (dd x.den)
theorem RatC.grow {w w' : World} {v : Value} {x : Rat} (h : RatC w v x) (g : Gr w w') : RatC w' v x := RatL.grow h g
def RatV (w : World) (v : Value) (x : Rat) (L : Nat) : Prop := ∃ n l d, RatL w v n l d ∧ ratv n l d = x ∧ l.length ≤ L ∧ d.length ≤ L
theorem RatV.grow {w w' : World} {v : Value} {x : Rat} {L : Nat} (h : RatV w v x L) (g : Gr w w') : RatV w' v x L := by
 obtain ⟨n, l, d, h1, h2⟩ := h; exact ⟨n, l, d, h1.grow g, h2⟩
theorem RatC.v {w : World} {v : Value} {x : Rat} {L : Nat} (h : RatC w v x) (hx : Sz L x) : RatV w v x L := ⟨_, _, _, h, ξ6w x, hx.1, ξ92 hx.2⟩
theorem RatL.mk {w : World} {n : Bool} {p q : Option Addr} {k c m e : Nat} {l d : List Nat} (h1 : NatL w (.slice p k c) l) (h2 : NatL w (.slice q m e) d) : RatL w (.agg #[.bool n, .slice p k c, .slice q m e]) n l d :=
 ⟨p, k, c, q, m, e, rfl, h1, h2⟩
theorem RatC.mk {w : World} {n : Bool} {p q : Option Addr} {k c m e : Nat} {x : Rat} (h1 : IntC w (.agg #[.bool n, .slice p k c]) x.num) (h2 : NatL w (.slice q m e) (dd x.den)) : RatC w (.agg #[.bool n, .slice p k c, .slice q m e]) x := by
 obtain ⟨p', k', c', h, h1⟩ := h1
 simp only [Value.agg.injEq, Array.mk.injEq, List.cons.injEq, Value.bool.injEq, Value.slice.injEq, and_true] at h
 obtain ⟨rfl, rfl, rfl, rfl⟩ := h
 exact ⟨_, _, _, _, _, _, rfl, h1, h2⟩
theorem RatC.ofInt {w : World} {n : Bool} {p : Option Addr} {k c : Nat} {z : Int} (h1 : IntC w (.agg #[.bool n, .slice p k c]) z) : RatC w (.agg #[.bool n, .slice p k c, .slice none 0 0]) (z : Rat) := RatC.mk h1 (NatL.nil w)
def ξe (w : World) (b : Nat) (x y z : Value) : Prop := ∃ t, w.heap[b]? = some (.cells #[x, y, z] t (0, 0))
theorem ξe.lt {w : World} {b : Nat} {x y z : Value} (h : ξe w b x y z) : b < w.heap.size := by
 obtain ⟨t, h⟩ := h
 rcases Nat.lt_or_ge b w.heap.size with h' | h'
 ·exact h'
 ·rw [Array.getElem?_eq_none h'] at h; cases h
theorem ξe.grow {w w' : World} {b : Nat} {x y z : Value} (h : ξe w b x y z) (g : Gr w w') : ξe w' b x y z := by
 have hl := h.lt
 obtain ⟨t, h⟩ := h; exact ⟨t, by rw [Below.block g b hl]; exact h⟩
theorem ξe.c0 {w : World} {b : Nat} {x y z : Value} (h : ξe w b x y z) : ∀ w', Gr w w' → w'.cell? ⟨b, 0, none⟩ = some x := fun w' g => by
 obtain ⟨t, h⟩ := h.grow g; simp [World.cell?, h]
theorem ξe.c1 {w : World} {b : Nat} {x y z : Value} (h : ξe w b x y z) : ∀ w', Gr w w' → w'.cell? ⟨b, 1, none⟩ = some y := fun w' g => by
 obtain ⟨t, h⟩ := h.grow g; simp [World.cell?, h]
theorem ξe.c2 {w : World} {b : Nat} {x y z : Value} (h : ξe w b x y z) : ∀ w', Gr w w' → w'.cell? ⟨b, 2, none⟩ = some z := fun w' g => by
 obtain ⟨t, h⟩ := h.grow g; simp [World.cell?, h]
theorem ξe.f0 {w : World} {b : Nat} {x y z : Value} (h : ξe w b x y z) (i : Nat) : w.frozen? ⟨b, i, none⟩ = false := by
 obtain ⟨t, h⟩ := h; simp [World.frozen?, h]
theorem ξe.load {w : World} {b : Nat} {x y z : Value} (h : ξe w b x y z) : w.cell? ⟨b, 0, none⟩ = some x ∧ w.cell? ⟨b, 1, none⟩ = some y ∧ w.cell? ⟨b, 2, none⟩ = some z :=
 ⟨h.c0 w (Gr.refl w), h.c1 w (Gr.refl w), h.c2 w (Gr.refl w)⟩
theorem ξe.new (w : World) (x y z : Value) (t : TypeId) : ξe (w.alloc (.cells #[x, y, z] t)) w.heap.size x y z := ⟨t, heap_alloc_new w _⟩
def set3 (w : World) (b : Nat) (x y z : Value) : World := ((w.setCell ⟨b, 0, none⟩ x).setCell ⟨b, 1, none⟩ y).setCell ⟨b, 2, none⟩ z
def set2 (w : World) (b : Nat) (x y : Value) : World := (w.setCell ⟨b, 0, none⟩ x).setCell ⟨b, 1, none⟩ y
theorem ξe.set {w : World} {b : Nat} {x y z : Value} (h : ξe w b x y z) (u v s : Value) : ξe (((w.setCell ⟨b, 0, none⟩ u).setCell ⟨b, 1, none⟩ v).setCell ⟨b, 2, none⟩ s) b u v s := by
 obtain ⟨t, h⟩ := h
 refine ⟨t, ?_⟩
 simp [World.setCell, Array.getElem?_modify, h]
def Upd (b : Nat) (w w' : World) : Prop := ∀ i, i ≠ b → w'.heap[i]? = w.heap[i]?
theorem upd2 (w : World) (b : Nat) (u v : Value) : Upd b w ((w.setCell ⟨b, 0, none⟩ u).setCell ⟨b, 1, none⟩ v) := fun i hi => by
 rw [Below.heap_setCell _ _ _ _ hi, Below.heap_setCell _ _ _ _ hi]
theorem upd3 (w : World) (b : Nat) (u v s : Value) : Upd b w (((w.setCell ⟨b, 0, none⟩ u).setCell ⟨b, 1, none⟩ v).setCell ⟨b, 2, none⟩ s) := fun i hi => by
 rw [Below.heap_setCell _ _ _ _ hi, Below.heap_setCell _ _ _ _ hi, Below.heap_setCell _ _ _ _ hi]
def ξ0f (w : World) (b : Nat) : Prop := ∃ (a : Array Value) (t : TypeId), w.heap[b]? = some (.cells a t (0, 0)) ∧ ∀ (i : Nat) (k : IntKind) (z : Int), a[i]? ≠ some (Value.int k z)
theorem Two.noInt {w : World} {b : Nat} {s : Bool} {p : Option Addr} {k c : Nat} (h : Two w b (.bool s) (.slice p k c)) : ξ0f w b := by
 obtain ⟨t, h⟩ := h
 refine ⟨_, t, h, fun i k z => ?_⟩
 match i with
 | 0 => simp
 | 1 => simp
 | n + 2 => simp
theorem ξe.noInt {w : World} {b : Nat} {s : Bool} {p q : Option Addr} {k c m e : Nat} (h : ξe w b (.bool s) (.slice p k c) (.slice q m e)) : ξ0f w b := by
 obtain ⟨t, h⟩ := h
 refine ⟨_, t, h, fun i k z => ?_⟩
 match i with
 | 0 => simp
 | 1 => simp
 | 2 => simp
 | n + 3 => simp
theorem NatL.upd {w w' : World} {v : Value} {l : List Nat} {b : Nat} (h : NatL w v l) (hb : ξ0f w b) (hu : Upd b w w') : NatL w' v l := by
 obtain ⟨h0, q, d, rfl, h1, h2, h3⟩ := h
 refine ⟨h0, q, d, rfl, h1, h2, ?_⟩
 rcases h3 with h3 | ⟨b', o, rfl, hc⟩
 ·exact .inl h3
 ·refine .inr ⟨b', o, rfl, fun i hi => ?_⟩
  have hi' := hc i hi
  have hne : b' ≠ b := by
   intro e
   subst e
   obtain ⟨a, ty, t, ha⟩ := hb
   simp only [World.cell?, t] at hi'
   exact ha _ _ _ hi'
  rw [World.cell?_of_block (w := w) (hu b' hne)]
  exact hi'
theorem IntL.upd {w w' : World} {v : Value} {n : Bool} {l : List Nat} {b : Nat} (h : IntL w v n l) (hb : ξ0f w b) (hu : Upd b w w') : IntL w' v n l := by
 obtain ⟨p, k, c, rfl, h⟩ := h; exact ⟨p, k, c, rfl, h.upd hb hu⟩
theorem IntC.upd {w w' : World} {v : Value} {z : Int} {b : Nat} (h : IntC w v z) (hb : ξ0f w b) (hu : Upd b w w') : IntC w' v z := IntL.upd h hb hu
theorem IntV.upd {w w' : World} {v : Value} {z : Int} {L b : Nat} (h : IntV w v z L) (hb : ξ0f w b) (hu : Upd b w w') : IntV w' v z L := by
 obtain ⟨n, l, h1, h2⟩ := h; exact ⟨n, l, h1.upd hb hu, h2⟩
theorem RatL.upd {w w' : World} {v : Value} {n : Bool} {l d : List Nat} {b : Nat} (h : RatL w v n l d) (hb : ξ0f w b) (hu : Upd b w w') : RatL w' v n l d := by
 obtain ⟨p, k, c, q, m, e, rfl, h1, h2⟩ := h; exact ⟨p, k, c, q, m, e, rfl, h1.upd hb hu, h2.upd hb hu⟩
theorem RatC.upd {w w' : World} {v : Value} {x : Rat} {b : Nat} (h : RatC w v x) (hb : ξ0f w b) (hu : Upd b w w') : RatC w' v x := RatL.upd h hb hu
theorem RatV.upd {w w' : World} {v : Value} {x : Rat} {L b : Nat} (h : RatV w v x L) (hb : ξ0f w b) (hu : Upd b w w') : RatV w' v x L := by
 obtain ⟨n, l, d, h1, h2⟩ := h; exact ⟨n, l, d, h1.upd hb hu, h2⟩
theorem Two.upd {w w' : World} {b b' : Nat} {x y : Value} (h : Two w b' x y) (hu : Upd b w w') (hne : b' ≠ b) : Two w' b' x y := by
 obtain ⟨t, h⟩ := h; exact ⟨t, by rw [hu b' hne]; exact h⟩
theorem ξe.upd {w w' : World} {b b' : Nat} {x y z : Value} (h : ξe w b' x y z) (hu : Upd b w w') (hne : b' ≠ b) : ξe w' b' x y z := by
 obtain ⟨t, h⟩ := h; exact ⟨t, by rw [hu b' hne]; exact h⟩
theorem Gr.three {a w : World} (g : Gr a w) {b : Nat} (hb : ¬ b < a.heap.size) (u v s : Value) : Gr a (((w.setCell ⟨b, 0, none⟩ u).setCell ⟨b, 1, none⟩ v).setCell ⟨b, 2, none⟩ s) :=
 Below.setCell (Below.setCell (Below.setCell g (by show a.heap.size ≤ b; omega) u) (by show a.heap.size ≤ b; omega) v) (by show a.heap.size ≤ b; omega) s
theorem IntV.int {w : World} {v : Value} {z : Int} {L : Nat} (h : IntV w v z L) : ∃ n p k c l, v = .agg #[.bool n, .slice p k c] ∧ NatL w (.slice p k c) l ∧ zval n l = z ∧ l.length ≤ L := by
 obtain ⟨n, l, ⟨p, k, c, rfl, h⟩, h2, h3⟩ := h
 exact ⟨n, p, k, c, l, rfl, h, h2, h3⟩
theorem IntV.mono {w : World} {v : Value} {z : Int} {L M : Nat} (h : IntV w v z L) (hM : L ≤ M) : IntV w v z M := by
 obtain ⟨n, l, h1, h2, h3⟩ := h; exact ⟨n, l, h1, h2, Nat.le_trans h3 hM⟩
theorem IntV.nat {w : World} {p : Option Addr} {k c : Nat} {l : List Nat} {L : Nat} (h : NatL w (.slice p k c) l) (hl : l.length ≤ L) : IntV w (.agg #[.bool false, .slice p k c]) (nval l : Int) L :=
 ⟨false, l, ⟨p, k, c, rfl, h⟩, rfl, hl⟩
theorem ξbV (z : Int) (h1 : -4294967296 < z) (h2 : z < 4294967296) : (digs z.natAbs).length ≤ 1 := by
 refine ξh ?_
 rw [Nat.pow_one]
 unfold BB
 omega
theorem ξ4V (w : World) (va vb : Value) (x y Q : Int) (L M : Nat) (hx : IntV w va x L) (hy : IntV w vb y M) (h0 : y ≠ 0) (hQ : quoZ false x y = Q) (hL : L ≤ 1000000) (hM : M ≤ 1000000) :
  Calls Tryz.prog 203 #[va, vb] w (Ret w fun r w' => ∃ q s, r = .tuple #[q, s, .int .i64 0] ∧ IntC w' q Q ∧ IntC w' s (x - Q * y)) := by
 obtain ⟨n, l, h1, rfl, h3⟩ := hx
 obtain ⟨n', l', k1, rfl, k3⟩ := hy
 exact ξbS w va vb n n' l l' _ _ Q _ rfl rfl hQ rfl h1 k1 (by omega) (by omega) h0
theorem ξbX (w : World) (va vb : Value) (x y Q : Int) (L M : Nat) (hx : IntV w va x L) (hy : IntV w vb y M) (h0 : y ≠ 0) (hQ : quoZ true x y = Q) (hL : L ≤ 1000000) (hM : M ≤ 1000000) :
  Calls Tryz.prog 286 #[va, vb] w (Ret w fun r w' => ∃ q s, r = .tuple #[q, s, .int .i64 0] ∧ IntC w' q Q ∧ IntC w' s (x - Q * y)) := by
 obtain ⟨n, l, h1, rfl, h3⟩ := hx
 obtain ⟨n', l', k1, rfl, k3⟩ := hy
 exact ξ9H w va vb n n' l l' _ _ Q _ rfl rfl hQ rfl h1 k1 (by omega) (by omega) h0
end Go.Proofs.YtcjgimlcefhhmaaGreatDoor
namespace Go.Proofs.YtcjgimlcefhhmaaGreatDoor
namespace Prf
def OnD (D K : Nat) (x : Rat) : Prop := ∃ z : Int, x * ((D : Int) : Rat) = (z : Rat) ∧ z.natAbs ≤ K
theorem OnD.mono {D K K' : Nat} {x : Rat} (h : OnD D K x) (hk : K ≤ K') : OnD D K' x := by
 obtain ⟨z, h1, h2⟩ := h
 exact ⟨z, h1, by omega⟩
theorem ξ1m (D K : Nat) : OnD D K 0 := ⟨0, by grind, by omega⟩
theorem ξ4e {D K M : Nat} {x y : Rat} (hx : OnD D K x) (hy : OnD D M y) : OnD D (K + M) (x + y) := by
 obtain ⟨z, h1, h2⟩ := hx
 obtain ⟨u, h3, h4⟩ := hy
 exact ⟨z + u, by rw [Rat.intCast_add, ← h1, ← h3]; grind, by omega⟩
theorem ξ7V {D K : Nat} {x : Rat} (hx : OnD D K x) : OnD D K (-x) := by
 obtain ⟨z, h1, h2⟩ := hx
 exact ⟨-z, by rw [Rat.intCast_neg, ← h1]; grind, by omega⟩
theorem ξbM {D K M : Nat} {x y : Rat} (hx : OnD D K x) (hy : OnD D M y) : OnD D (K + M) (x - y) := by
 rw [Rat.sub_eq_add_neg]; exact ξ4e hx (ξ7V hy)
theorem ξ1U {D K : Nat} {x : Rat} {n : Int} {N : Nat} (hn : n.natAbs ≤ N) (hx : OnD D K x) : OnD D (N * K) ((n : Rat) * x) := by
 obtain ⟨z, h1, h2⟩ := hx
 exact ⟨n * z, by rw [Rat.intCast_mul, ← h1]; grind, by rw [Int.natAbs_mul]; exact Nat.mul_le_mul hn h2⟩
theorem ξ9G (D : Nat) {n : Int} {N : Nat} (hn : n.natAbs ≤ N) : OnD D (N * D) (n : Rat) :=
 ⟨n * (D : Int), by rw [Rat.intCast_mul], by rw [Int.natAbs_mul, Int.natAbs_natCast]; exact Nat.mul_le_mul hn (Nat.le_refl _)⟩
theorem OnD.sz {D K L : Nat} {x : Rat} (h : OnD D K x) (h0 : D ≠ 0) (hD : D < BB ^ L) (hK : K < BB ^ L) : Sz L x := by
 obtain ⟨z, h1, h2⟩ := h
 have hD0 : ((D : Int) : Rat) ≠ 0 := by
  intro h
  exact h0 (by simpa using h)
 have e : x = mkRat z D := by
  rw [Rat.mkRat_eq_div, ← h1]
  have : ((D : Nat) : Rat) = ((D : Int) : Rat) := (Rat.intCast_natCast D).symm
  grind
 rw [e]
 exact ξbg h0 (ξh (by omega)) (ξh hD)
def prodD : List Rat → Nat
 | [] => 1
 | x :: l => x.den * prodD l
theorem ξ6q : ∀ l, prodD l ≠ 0
 | [] => by decide
 | x :: l => Nat.mul_ne_zero x.den_nz (ξ6q l)
theorem ξ7g {B : Nat} (hB : 0 < B) : ∀ (l : List Rat), (∀ x ∈ l, x.den ≤ B) → prodD l ≤ B ^ l.length
 | [], _ => by simp [prodD]
 | x :: l, h => by
  have i := ξ7g hB l (fun y hy => h y (List.mem_cons_of_mem _ hy))
  have := h x (List.mem_cons_self ..)
  rw [List.length_cons, Nat.pow_succ]
  show x.den * prodD l ≤ _
  rw [Nat.mul_comm]
  exact Nat.mul_le_mul i this
theorem ξ5V : ∀ (l : List Rat) (x : Rat), x ∈ l → x.den ∣ prodD l
 | y :: l, x, h => by
  rcases List.mem_cons.1 h with rfl | h
  ·exact Nat.dvd_mul_right _ _
  ·exact Nat.dvd_trans (ξ5V l x h) (Nat.dvd_mul_left _ _)
theorem ξ8I {D M : Nat} {x : Rat} (h : x.den ∣ D) (hn : x.num.natAbs ≤ M) : OnD D (M * D) x := by
 obtain ⟨k, rfl⟩ := h
 refine ⟨x.num * k, ?_, ?_⟩
 ·rw [Int.natCast_mul, Rat.intCast_mul, Rat.intCast_mul]
  have : x * ((x.den : Int) : Rat) = (x.num : Rat) := by
   have h1 := Rat.num_divInt_den x
   rw [Rat.intCast_natCast]
   have h2 : (x.den : Rat) ≠ 0 := by simpa using x.den_nz
   have h3 : x = (x.num : Rat) / (x.den : Rat) := by
    conv => lhs; rw [← Rat.mkRat_self x, Rat.mkRat_eq_div]
   grind
  rw [← Rat.mul_assoc, this]
 ·rw [Int.natAbs_mul, Int.natAbs_natCast]
  refine Nat.mul_le_mul hn ?_
  exact Nat.le_mul_of_pos_left _ (Nat.pos_of_ne_zero x.den_nz)
theorem ξbL (y : List Rat) (i : Nat) : atQ y i = 0 ∨ atQ y i ∈ y := by
 unfold atQ
 cases h : y[i]? with
 | none => exact .inl rfl
 | some x => exact .inr (List.mem_of_getElem? h)
theorem ξ82 {n k : Nat} (h : (digs n).length ≤ k) : n < BB ^ k := by
 rcases Nat.lt_or_ge n (BB ^ k) with h' | h'
 ·exact h'
 ·exfalso
  have h1 := ξl h'
  have h2 : (digs (BB ^ k)).length = k + 1 := ξ2S (Nat.le_refl _) (Nat.pow_lt_pow_right (by decide) (by omega))
  omega
theorem common {y : List Rat} (hy : ∀ x ∈ y, Sz 4 x) (hl : y.length ≤ 16) : ∃ D U : Nat, D ≠ 0 ∧ D ≤ U ∧ U ≤ BB ^ 68 ∧ D ≤ BB ^ 64 ∧ ∀ i, OnD D U (atQ y i) := by
 have hB : 0 < BB ^ 4 := Nat.pow_pos (by decide)
 have h1 : prodD y ≤ (BB ^ 4) ^ y.length := ξ7g hB y fun x hx => Nat.le_of_lt (ξ82 (hy x hx).2)
 have h2 : (BB ^ 4) ^ y.length ≤ (BB ^ 4) ^ 16 := Nat.pow_le_pow_right hB hl
 have h3 : (BB ^ 4) ^ 16 = BB ^ 64 := (Nat.pow_mul BB 4 16).symm
 have h4 : BB ^ 68 = BB ^ 4 * BB ^ 64 := Nat.pow_add BB 4 64
 have hn := fun x (hx : x ∈ y) => Nat.le_of_lt (ξ82 (hy x hx).1)
 refine ⟨prodD y, BB ^ 4 * prodD y, ξ6q y, Nat.le_mul_of_pos_left _ hB, ?_, h3 ▸ Nat.le_trans h1 h2, fun i => ?_⟩
 ·rw [h4]; exact Nat.mul_le_mul (Nat.le_refl _) (h3 ▸ Nat.le_trans h1 h2)
 ·rcases ξbL y i with h | h
  ·rw [h]; exact ξ1m _ _
  ·exact ξ8I (ξ5V y _ h) (hn _ h)
theorem ξ0V {n : Int} (h : In n) : n.natAbs ≤ 1099511627776 := by obtain ⟨h1, h2⟩ := h; omega
theorem ξ3z {n : Nat} : ∀ (l : List ξ8) (last : Int), Inc n last l → ∀ j : Nat, ((j : Int) ≤ last → rowCoef l j = 0) ∧ In (rowCoef l j)
 | [], last, _, j => ⟨fun _ => rfl, by simp [rowCoef, In]⟩
 | t :: l, last, h, j => by
  obtain ⟨⟨h1, h2, h3, h4⟩, h5⟩ := h
  obtain ⟨i1, i2⟩ := ξ3z l t.v h5 j
  have e : rowCoef (t :: l) j = (if t.v = (j : Int) then t.c else 0) + rowCoef l j := by simp [rowCoef]
  rw [e]
  by_cases hj : t.v = (j : Int)
  ·rw [if_pos hj, i1 (by omega)]
   exact ⟨fun h => by omega, by simpa using h4⟩
  ·rw [if_neg hj]
   exact ⟨fun h => by rw [i1 (by omega)]; rfl, by simpa using i2⟩
theorem ξ6X {n : Nat} : ∀ (k : Nat) (l : List ξ8) (last : Int), Inc n last l → Inc n last (l.take k)
 | 0, _, _, _ => by simp [Inc]
 | k + 1, [], _, _ => by simp [Inc]
 | k + 1, t :: l, last, h => ⟨h.1, ξ6X k l t.v h.2⟩
theorem ξI.coef {n : Nat} {r : RowS} (h : ξI n r) (k j : Nat) : In (rowCoef (r.terms.take k) j) := (ξ3z _ _ (ξ6X k _ _ h.2.2.2.2.2) j).2
theorem ξI.coefs {n : Nat} {r : RowS} (h : ξI n r) (j : Nat) : In (rowCoef r.terms j) := (ξ3z _ _ h.2.2.2.2.2 j).2
theorem ξ2t {D K : Nat} {f : Nat → Rat} : ∀ n, (∀ i, i < n → OnD D K (f i)) → OnD D (n * K) (sumQ f n)
 | 0, _ => ξ1m _ _
 | n + 1, h => by
  rw [ξ0Y]
  refine (ξ4e (ξ2t n fun i hi => h i (by omega)) (h n (by omega))).mono ?_
  rw [Nat.add_mul]; omega
theorem ξcI {p : Prg} {y : List Rat} {D U : Nat} (hp : ∀ r ∈ p.rows, ξI p.vars.length r) (hy : ∀ i, OnD D U (atQ y i)) (j i : Nat) : OnD D (1099511627776 * U) (cA p y j i) := by
 unfold cA
 cases h : p.rows[i]? with
 | none => exact ξ1m _ _
 | some r => exact ξ1U (ξ0V ((hp r (List.mem_of_getElem? h)).coefs j)) (hy i)
theorem ξcq {p : Prg} {y : List Rat} {D U : Nat} (hp : ∀ r ∈ p.rows, ξI p.vars.length r) (hy : ∀ i, OnD D U (atQ y i)) (i : Nat) : OnD D (1099511627776 * U) (cB p y i) := by
 unfold cB
 cases h : p.rows[i]? with
 | none => exact ξ1m _ _
 | some r => exact ξ1U (ξ0V (hp r (List.mem_of_getElem? h)).2.2.2.1) (hy i)
theorem ξ7b {D U K : Nat} {x : Rat} (h0 : D ≠ 0) (hU : U ≤ BB ^ 68) (hD : D ≤ BB ^ 64) (hK : K ≤ 79228162514264337593543950335) (h : OnD D (K * U) x) : Sz 80 x := by
 have e1 : BB ^ 80 = BB ^ 12 * BB ^ 68 := Nat.pow_add BB 12 68
 refine h.sz h0 ?_ ?_
 ·exact Nat.lt_of_le_of_lt hD (Nat.pow_lt_pow_right (by decide) (by decide))
 ·rw [e1]
  have h2 : K * U ≤ K * BB ^ 68 := Nat.mul_le_mul (Nat.le_refl _) hU
  have h3 : 0 < BB ^ 68 := Nat.pow_pos (by decide)
  have h4 : K < BB ^ 12 := Nat.lt_of_le_of_lt hK (by decide)
  exact Nat.lt_of_le_of_lt h2 (Nat.mul_lt_mul_of_lt_of_le h4 (Nat.le_refl _) h3)
structure Calm (p : Prg) (y : List Rat) : Prop where
 y0 : ∀ i, Sz 80 (atQ y i)
 t : ∀ (c : Int) i, In c → Sz 80 ((c : Rat) * atQ y i)
 a : ∀ i j, i ≤ p.rows.length → Sz 80 (sumQ (cA p y j) i)
 ak : ∀ i j k r, p.rows[i]? = some r → Sz 80 (sumQ (cA p y j) i + (rowCoef (r.terms.take k) j : Rat) * atQ y i)
 b : ∀ i, i ≤ p.rows.length → Sz 80 (sumQ (cB p y) i)
 l0 : ∀ j, Sz 80 (lTerm p.vars (fun j => - combA p y j) j)
 l : ∀ j, j ≤ p.vars.length → Sz 80 (sumQ (lTerm p.vars (fun j => - combA p y j)) j)
 bl : Sz 80 (combB p y + leastS p.vars (fun j => - combA p y j))
 r0 : ∀ j, Sz 80 (loT p.vars (combA p y) j)
 r : ∀ j, j ≤ p.vars.length → Sz 80 (combB p y - sumQ (loT p.vars (combA p y)) j)
theorem ξ7O {p : Prg} {y : List Rat} (hy : ∀ x ∈ y, Sz 4 x) (hl : y.length ≤ 16) (hp : ∀ r ∈ p.rows, ξI p.vars.length r) (hv : ∀ v ∈ p.vars, ξ1I v) (hr : p.rows.length ≤ 40) (hn : p.vars.length ≤ 10) : Calm p y := by
 obtain ⟨D, U, h0, hDU, hU, hD, h⟩ := common hy hl
 have big : ∀ {K : Nat} {x : Rat}, K ≤ 79228162514264337593543950335 → OnD D (K * U) x → Sz 80 x := fun hK h => ξ7b h0 hU hD hK h
 have ha : ∀ i j, i ≤ 40 → OnD D (40 * 1099511627776 * U) (sumQ (cA p y j) i) := fun i j hi => by
  refine (ξ2t i fun i _ => ξcI hp h j i).mono ?_
  rw [Nat.mul_assoc]
  exact Nat.mul_le_mul hi (Nat.le_refl _)
 have hb : ∀ i, i ≤ 40 → OnD D (40 * 1099511627776 * U) (sumQ (cB p y) i) := fun i hi => by
  refine (ξ2t i fun i _ => ξcq hp h i).mono ?_
  rw [Nat.mul_assoc]
  exact Nat.mul_le_mul hi (Nat.le_refl _)
 have hA : ∀ j, OnD D (40 * 1099511627776 * U) (combA p y j) := fun j => ha _ j hr
 have hl0 : ∀ j, OnD D (1099511627776 * (40 * 1099511627776 * U)) (lTerm p.vars (fun j => - combA p y j) j) := fun j => by
  unfold lTerm
  cases hj : p.vars[j]? with
  | none => exact ξ1m _ _
  | some v =>
   have k := hv v (List.mem_of_getElem? hj)
   refine ξ1U ?_ (ξ7V (hA j))
   split
   ·exact ξ0V k.2.1
   ·exact ξ0V k.1
 have hls : ∀ j, j ≤ 10 → OnD D (10 * (1099511627776 * (40 * 1099511627776 * U))) (sumQ (lTerm p.vars (fun j => - combA p y j)) j) := fun j hj =>
  (ξ2t j fun i _ => hl0 i).mono (Nat.mul_le_mul hj (Nat.le_refl _))
 have hr0 : ∀ j, OnD D (1099511627776 * (40 * 1099511627776 * U)) (loT p.vars (combA p y) j) := fun j => by
  unfold loT
  cases hj : p.vars[j]? with
  | none => exact ξ1m _ _
  | some v =>
   have k := hv v (List.mem_of_getElem? hj)
   simp only []
   rw [Rat.mul_comm]
   exact ξ1U (ξ0V k.1) (hA j)
 have hrs : ∀ j, j ≤ 10 → OnD D (10 * (1099511627776 * (40 * 1099511627776 * U))) (sumQ (loT p.vars (combA p y)) j) := fun j hj =>
  (ξ2t j fun i _ => hr0 i).mono (Nat.mul_le_mul hj (Nat.le_refl _))
 have e1 : 1099511627776 * (40 * 1099511627776 * U) = 1099511627776 * 43980465111040 * U := by rw [← Nat.mul_assoc]
 have e2 : 10 * (1099511627776 * (40 * 1099511627776 * U)) = 10 * 1099511627776 * 43980465111040 * U := by rw [e1, ← Nat.mul_assoc]
 have e3 : 40 * 1099511627776 * U + 10 * 1099511627776 * 43980465111040 * U = (40 * 1099511627776 + 10 * 1099511627776 * 43980465111040) * U := (Nat.add_mul _ _ _).symm
 rw [e1] at hl0 hr0
 rw [e2] at hls hrs
 refine ⟨fun i => big (K := 1) (by decide) (by rw [Nat.one_mul]; exact h i), fun c i hc => big (by decide) (ξ1U (ξ0V hc) (h i)), fun i j hi => big (by decide) (ha i j (by omega)), fun i j k r hr => ?_,
  fun i hi => big (by decide) (hb i (by omega)), fun j => big (by decide) (hl0 j), fun j hj => big (by decide) (hls j (by omega)), ?_, fun j => big (by decide) (hr0 j), fun j hj => ?_⟩
 ·have hi := (List.getElem?_eq_some_iff.1 hr).1
  have k1 := ξ4e (ha i j (by omega)) (ξ1U (ξ0V ((hp r (List.mem_of_getElem? hr)).coef k j)) (h i))
  rw [← Nat.add_mul] at k1
  exact big (by decide) k1
 ·have k1 := ξ4e (hb _ hr) (hls _ hn)
  rw [e3] at k1
  exact big (by decide) k1
 ·have k1 := ξbM (hb _ hr) (hrs j (by omega))
  rw [e3] at k1
  exact big (by decide) k1
end Prf
end Go.Proofs.YtcjgimlcefhhmaaGreatDoor
namespace Go.Proofs.YtcjgimlcefhhmaaGreatDoor
open Go.RowKit Go.Lib
theorem box2 (w : World) (x y : Value) (t : TypeId) : Gr w (w.alloc (.cells #[x, y] t)) ∧ Two (w.alloc (.cells #[x, y] t)) w.heap.size x y := boxed1 w x y t
theorem box3 (w : World) (x y z : Value) (t : TypeId) : Gr w (w.alloc (.cells #[x, y, z] t)) ∧ ξe (w.alloc (.cells #[x, y, z] t)) w.heap.size x y z :=
 ⟨(Gr.refl w).alloc _, ξe.new w x y z t⟩
theorem box22 (w : World) (x00 x01 x10 x11 : Value) (t0 t1 : TypeId) : Gr w ((w.alloc (.cells #[x00, x01] t0)).alloc (.cells #[x10, x11] t1)) ∧ Two ((w.alloc (.cells #[x00, x01] t0)).alloc (.cells #[x10, x11] t1)) (w.heap.size) x00 x01 ∧ Two ((w.alloc (.cells #[x00, x01] t0)).alloc (.cells #[x10, x11] t1)) (w.heap.size + 1) x10 x11 := by
 obtain ⟨g, h0⟩ := box2 w x00 x01 t0
 obtain ⟨g', h'⟩ := box2 (w.alloc (.cells #[x00, x01] t0)) x10 x11 t1
 rw [World.size_alloc] at h'
 exact ⟨g.trans g', h0.grow g', h'⟩
theorem box23 (w : World) (x00 x01 x10 x11 x12 : Value) (t0 t1 : TypeId) : Gr w ((w.alloc (.cells #[x00, x01] t0)).alloc (.cells #[x10, x11, x12] t1)) ∧ Two ((w.alloc (.cells #[x00, x01] t0)).alloc (.cells #[x10, x11, x12] t1)) (w.heap.size) x00 x01 ∧ ξe ((w.alloc (.cells #[x00, x01] t0)).alloc (.cells #[x10, x11, x12] t1)) (w.heap.size + 1) x10 x11 x12 := by
 obtain ⟨g, h0⟩ := box2 w x00 x01 t0
 obtain ⟨g', h'⟩ := box3 (w.alloc (.cells #[x00, x01] t0)) x10 x11 x12 t1
 rw [World.size_alloc] at h'
 exact ⟨g.trans g', h0.grow g', h'⟩
theorem box32 (w : World) (x00 x01 x02 x10 x11 : Value) (t0 t1 : TypeId) : Gr w ((w.alloc (.cells #[x00, x01, x02] t0)).alloc (.cells #[x10, x11] t1)) ∧ ξe ((w.alloc (.cells #[x00, x01, x02] t0)).alloc (.cells #[x10, x11] t1)) (w.heap.size) x00 x01 x02 ∧ Two ((w.alloc (.cells #[x00, x01, x02] t0)).alloc (.cells #[x10, x11] t1)) (w.heap.size + 1) x10 x11 := by
 obtain ⟨g, h0⟩ := box3 w x00 x01 x02 t0
 obtain ⟨g', h'⟩ := box2 (w.alloc (.cells #[x00, x01, x02] t0)) x10 x11 t1
 rw [World.size_alloc] at h'
 exact ⟨g.trans g', h0.grow g', h'⟩
theorem box33 (w : World) (x00 x01 x02 x10 x11 x12 : Value) (t0 t1 : TypeId) : Gr w ((w.alloc (.cells #[x00, x01, x02] t0)).alloc (.cells #[x10, x11, x12] t1)) ∧ ξe ((w.alloc (.cells #[x00, x01, x02] t0)).alloc (.cells #[x10, x11, x12] t1)) (w.heap.size) x00 x01 x02 ∧ ξe ((w.alloc (.cells #[x00, x01, x02] t0)).alloc (.cells #[x10, x11, x12] t1)) (w.heap.size + 1) x10 x11 x12 := by
 obtain ⟨g, h0⟩ := box3 w x00 x01 x02 t0
 obtain ⟨g', h'⟩ := box3 (w.alloc (.cells #[x00, x01, x02] t0)) x10 x11 x12 t1
 rw [World.size_alloc] at h'
 exact ⟨g.trans g', h0.grow g', h'⟩
theorem box222 (w : World) (x00 x01 x10 x11 x20 x21 : Value) (t0 t1 t2 : TypeId) : Gr w (((w.alloc (.cells #[x00, x01] t0)).alloc (.cells #[x10, x11] t1)).alloc (.cells #[x20, x21] t2)) ∧ Two (((w.alloc (.cells #[x00, x01] t0)).alloc (.cells #[x10, x11] t1)).alloc (.cells #[x20, x21] t2)) (w.heap.size) x00 x01 ∧ Two (((w.alloc (.cells #[x00, x01] t0)).alloc (.cells #[x10, x11] t1)).alloc (.cells #[x20, x21] t2)) (w.heap.size + 1) x10 x11 ∧ Two (((w.alloc (.cells #[x00, x01] t0)).alloc (.cells #[x10, x11] t1)).alloc (.cells #[x20, x21] t2)) (w.heap.size + 1 + 1) x20 x21 := by
 obtain ⟨g, h0, h1⟩ := box22 w x00 x01 x10 x11 t0 t1
 obtain ⟨g', h'⟩ := box2 ((w.alloc (.cells #[x00, x01] t0)).alloc (.cells #[x10, x11] t1)) x20 x21 t2
 rw [World.size_alloc, World.size_alloc] at h'
 exact ⟨g.trans g', h0.grow g', h1.grow g', h'⟩
theorem box223 (w : World) (x00 x01 x10 x11 x20 x21 x22 : Value) (t0 t1 t2 : TypeId) : Gr w (((w.alloc (.cells #[x00, x01] t0)).alloc (.cells #[x10, x11] t1)).alloc (.cells #[x20, x21, x22] t2)) ∧ Two (((w.alloc (.cells #[x00, x01] t0)).alloc (.cells #[x10, x11] t1)).alloc (.cells #[x20, x21, x22] t2)) (w.heap.size) x00 x01 ∧ Two (((w.alloc (.cells #[x00, x01] t0)).alloc (.cells #[x10, x11] t1)).alloc (.cells #[x20, x21, x22] t2)) (w.heap.size + 1) x10 x11 ∧ ξe (((w.alloc (.cells #[x00, x01] t0)).alloc (.cells #[x10, x11] t1)).alloc (.cells #[x20, x21, x22] t2)) (w.heap.size + 1 + 1) x20 x21 x22 := by
 obtain ⟨g, h0, h1⟩ := box22 w x00 x01 x10 x11 t0 t1
 obtain ⟨g', h'⟩ := box3 ((w.alloc (.cells #[x00, x01] t0)).alloc (.cells #[x10, x11] t1)) x20 x21 x22 t2
 rw [World.size_alloc, World.size_alloc] at h'
 exact ⟨g.trans g', h0.grow g', h1.grow g', h'⟩
theorem box333 (w : World) (x00 x01 x02 x10 x11 x12 x20 x21 x22 : Value) (t0 t1 t2 : TypeId) : Gr w (((w.alloc (.cells #[x00, x01, x02] t0)).alloc (.cells #[x10, x11, x12] t1)).alloc (.cells #[x20, x21, x22] t2)) ∧ ξe (((w.alloc (.cells #[x00, x01, x02] t0)).alloc (.cells #[x10, x11, x12] t1)).alloc (.cells #[x20, x21, x22] t2)) (w.heap.size) x00 x01 x02 ∧ ξe (((w.alloc (.cells #[x00, x01, x02] t0)).alloc (.cells #[x10, x11, x12] t1)).alloc (.cells #[x20, x21, x22] t2)) (w.heap.size + 1) x10 x11 x12 ∧ ξe (((w.alloc (.cells #[x00, x01, x02] t0)).alloc (.cells #[x10, x11, x12] t1)).alloc (.cells #[x20, x21, x22] t2)) (w.heap.size + 1 + 1) x20 x21 x22 := by
 obtain ⟨g, h0, h1⟩ := box33 w x00 x01 x02 x10 x11 x12 t0 t1
 obtain ⟨g', h'⟩ := box3 ((w.alloc (.cells #[x00, x01, x02] t0)).alloc (.cells #[x10, x11, x12] t1)) x20 x21 x22 t2
 rw [World.size_alloc, World.size_alloc] at h'
 exact ⟨g.trans g', h0.grow g', h1.grow g', h'⟩
theorem box2222 (w : World) (x00 x01 x10 x11 x20 x21 x30 x31 : Value) (t0 t1 t2 t3 : TypeId) : Gr w ((((w.alloc (.cells #[x00, x01] t0)).alloc (.cells #[x10, x11] t1)).alloc (.cells #[x20, x21] t2)).alloc (.cells #[x30, x31] t3)) ∧ Two ((((w.alloc (.cells #[x00, x01] t0)).alloc (.cells #[x10, x11] t1)).alloc (.cells #[x20, x21] t2)).alloc (.cells #[x30, x31] t3)) (w.heap.size) x00 x01 ∧ Two ((((w.alloc (.cells #[x00, x01] t0)).alloc (.cells #[x10, x11] t1)).alloc (.cells #[x20, x21] t2)).alloc (.cells #[x30, x31] t3)) (w.heap.size + 1) x10 x11 ∧ Two ((((w.alloc (.cells #[x00, x01] t0)).alloc (.cells #[x10, x11] t1)).alloc (.cells #[x20, x21] t2)).alloc (.cells #[x30, x31] t3)) (w.heap.size + 1 + 1) x20 x21 ∧ Two ((((w.alloc (.cells #[x00, x01] t0)).alloc (.cells #[x10, x11] t1)).alloc (.cells #[x20, x21] t2)).alloc (.cells #[x30, x31] t3)) (w.heap.size + 1 + 1 + 1) x30 x31 := by
 obtain ⟨g, h0, h1, h2⟩ := box222 w x00 x01 x10 x11 x20 x21 t0 t1 t2
 obtain ⟨g', h'⟩ := box2 (((w.alloc (.cells #[x00, x01] t0)).alloc (.cells #[x10, x11] t1)).alloc (.cells #[x20, x21] t2)) x30 x31 t3
 rw [World.size_alloc, World.size_alloc, World.size_alloc] at h'
 exact ⟨g.trans g', h0.grow g', h1.grow g', h2.grow g', h'⟩
theorem box22222 (w : World) (x00 x01 x10 x11 x20 x21 x30 x31 x40 x41 : Value) (t0 t1 t2 t3 t4 : TypeId) : Gr w (((((w.alloc (.cells #[x00, x01] t0)).alloc (.cells #[x10, x11] t1)).alloc (.cells #[x20, x21] t2)).alloc (.cells #[x30, x31] t3)).alloc (.cells #[x40, x41] t4)) ∧ Two (((((w.alloc (.cells #[x00, x01] t0)).alloc (.cells #[x10, x11] t1)).alloc (.cells #[x20, x21] t2)).alloc (.cells #[x30, x31] t3)).alloc (.cells #[x40, x41] t4)) (w.heap.size) x00 x01 ∧ Two (((((w.alloc (.cells #[x00, x01] t0)).alloc (.cells #[x10, x11] t1)).alloc (.cells #[x20, x21] t2)).alloc (.cells #[x30, x31] t3)).alloc (.cells #[x40, x41] t4)) (w.heap.size + 1) x10 x11 ∧ Two (((((w.alloc (.cells #[x00, x01] t0)).alloc (.cells #[x10, x11] t1)).alloc (.cells #[x20, x21] t2)).alloc (.cells #[x30, x31] t3)).alloc (.cells #[x40, x41] t4)) (w.heap.size + 1 + 1) x20 x21 ∧ Two (((((w.alloc (.cells #[x00, x01] t0)).alloc (.cells #[x10, x11] t1)).alloc (.cells #[x20, x21] t2)).alloc (.cells #[x30, x31] t3)).alloc (.cells #[x40, x41] t4)) (w.heap.size + 1 + 1 + 1) x30 x31 ∧ Two (((((w.alloc (.cells #[x00, x01] t0)).alloc (.cells #[x10, x11] t1)).alloc (.cells #[x20, x21] t2)).alloc (.cells #[x30, x31] t3)).alloc (.cells #[x40, x41] t4)) (w.heap.size + 1 + 1 + 1 + 1) x40 x41 := by
 obtain ⟨g, h0, h1, h2, h3⟩ := box2222 w x00 x01 x10 x11 x20 x21 x30 x31 t0 t1 t2 t3
 obtain ⟨g', h'⟩ := box2 ((((w.alloc (.cells #[x00, x01] t0)).alloc (.cells #[x10, x11] t1)).alloc (.cells #[x20, x21] t2)).alloc (.cells #[x30, x31] t3)) x40 x41 t4
 rw [World.size_alloc, World.size_alloc, World.size_alloc, World.size_alloc] at h'
 exact ⟨g.trans g', h0.grow g', h1.grow g', h2.grow g', h3.grow g', h'⟩
theorem box222222 (w : World) (x00 x01 x10 x11 x20 x21 x30 x31 x40 x41 x50 x51 : Value) (t0 t1 t2 t3 t4 t5 : TypeId) : Gr w ((((((w.alloc (.cells #[x00, x01] t0)).alloc (.cells #[x10, x11] t1)).alloc (.cells #[x20, x21] t2)).alloc (.cells #[x30, x31] t3)).alloc (.cells #[x40, x41] t4)).alloc (.cells #[x50, x51] t5)) ∧ Two ((((((w.alloc (.cells #[x00, x01] t0)).alloc (.cells #[x10, x11] t1)).alloc (.cells #[x20, x21] t2)).alloc (.cells #[x30, x31] t3)).alloc (.cells #[x40, x41] t4)).alloc (.cells #[x50, x51] t5)) (w.heap.size) x00 x01 ∧ Two ((((((w.alloc (.cells #[x00, x01] t0)).alloc (.cells #[x10, x11] t1)).alloc (.cells #[x20, x21] t2)).alloc (.cells #[x30, x31] t3)).alloc (.cells #[x40, x41] t4)).alloc (.cells #[x50, x51] t5)) (w.heap.size + 1) x10 x11 ∧ Two ((((((w.alloc (.cells #[x00, x01] t0)).alloc (.cells #[x10, x11] t1)).alloc (.cells #[x20, x21] t2)).alloc (.cells #[x30, x31] t3)).alloc (.cells #[x40, x41] t4)).alloc (.cells #[x50, x51] t5)) (w.heap.size + 1 + 1) x20 x21 ∧ Two ((((((w.alloc (.cells #[x00, x01] t0)).alloc (.cells #[x10, x11] t1)).alloc (.cells #[x20, x21] t2)).alloc (.cells #[x30, x31] t3)).alloc (.cells #[x40, x41] t4)).alloc (.cells #[x50, x51] t5)) (w.heap.size + 1 + 1 + 1) x30 x31 ∧ Two ((((((w.alloc (.cells #[x00, x01] t0)).alloc (.cells #[x10, x11] t1)).alloc (.cells #[x20, x21] t2)).alloc (.cells #[x30, x31] t3)).alloc (.cells #[x40, x41] t4)).alloc (.cells #[x50, x51] t5)) (w.heap.size + 1 + 1 + 1 + 1) x40 x41 ∧ Two ((((((w.alloc (.cells #[x00, x01] t0)).alloc (.cells #[x10, x11] t1)).alloc (.cells #[x20, x21] t2)).alloc (.cells #[x30, x31] t3)).alloc (.cells #[x40, x41] t4)).alloc (.cells #[x50, x51] t5)) (w.heap.size + 1 + 1 + 1 + 1 + 1) x50 x51 := by
 obtain ⟨g, h0, h1, h2, h3, h4⟩ := box22222 w x00 x01 x10 x11 x20 x21 x30 x31 x40 x41 t0 t1 t2 t3 t4
 obtain ⟨g', h'⟩ := box2 (((((w.alloc (.cells #[x00, x01] t0)).alloc (.cells #[x10, x11] t1)).alloc (.cells #[x20, x21] t2)).alloc (.cells #[x30, x31] t3)).alloc (.cells #[x40, x41] t4)) x50 x51 t5
 rw [World.size_alloc, World.size_alloc, World.size_alloc, World.size_alloc, World.size_alloc] at h'
 exact ⟨g.trans g', h0.grow g', h1.grow g', h2.grow g', h3.grow g', h4.grow g', h'⟩
theorem ξ6N {w w3 : World} {z : Int} {L b : Nat} {s sg : Bool} {p p3 : Option Addr} {k c k3 c3 : Nat} (hb : ¬ b < w.heap.size) (g : Gr w w3) (t : Two w3 b (.bool s) (.slice p k c))
  (h : IntV w3 (.agg #[.bool sg, .slice p3 k3 c3]) z L) :
  Ret w (fun r w' => IntV w' r z L) (.returned (.agg #[.bool sg, .slice p3 k3 c3])) ((w3.setCell ⟨b, 0, none⟩ (.bool sg)).setCell ⟨b, 1, none⟩ (.slice p3 k3 c3)) :=
 ⟨_, rfl, g.two hb _ _, h.upd t.noInt (upd2 _ _ _ _)⟩
theorem IntV.nat' {w : World} {s : Bool} {p : Option Addr} {k c L : Nat} {z : Int} (h : IntV w (.agg #[.bool s, .slice p k c]) z L) : ∃ l, NatL w (.slice p k c) l ∧ nval l = z.natAbs ∧ l.length ≤ L := by
 obtain ⟨n, l, ⟨p', k', c', e, h⟩, rfl, h3⟩ := h
 simp only [Value.agg.injEq, Array.mk.injEq, List.cons.injEq, Value.bool.injEq, Value.slice.injEq, and_true] at e
 obtain ⟨rfl, rfl, rfl, rfl⟩ := e
 exact ⟨l, h, by rw [ξ11], h3⟩
theorem IntV.agg {w : World} {v : Value} {z : Int} {L : Nat} (h : IntV w v z L) : ∃ s p k c, v = .agg #[.bool s, .slice p k c] := by
 obtain ⟨n, l, ⟨p', k', c', e, h⟩, rfl, h3⟩ := h
 exact ⟨_, _, _, _, e⟩
theorem IntC.agg {w : World} {v : Value} {z : Int} (h : IntC w v z) : ∃ p k c, v = .agg #[.bool (decide (z < 0)), .slice p k c] := by
 obtain ⟨p', k', c', e, h⟩ := h
 exact ⟨_, _, _, e⟩
theorem IntC.mag {w : World} {s : Bool} {p : Option Addr} {k c : Nat} {z : Int} (h : IntC w (.agg #[.bool s, .slice p k c]) z) : NatL w (.slice p k c) (digs z.natAbs) := by
 obtain ⟨p', k', c', e, h⟩ := h
 simp only [Value.agg.injEq, Array.mk.injEq, List.cons.injEq, Value.bool.injEq, Value.slice.injEq, and_true] at e
 obtain ⟨-, rfl, rfl, rfl⟩ := e
 exact h
theorem ξ9i {d : List Nat} (h : bitsN (nval d) = 0) : denV d = 1 := by
 unfold denV
 rw [if_pos]
 rcases Nat.eq_zero_or_pos (nval d) with h0 | h0
 ·exact h0
 ·have := ξ3N (n := nval d) (by omega); omega
theorem ξaN {d : List Nat} (h : bitsN (nval d) ≠ 0) : denV d = nval d := by
 unfold denV
 rw [if_neg]
 intro h0
 rw [h0, ξ54] at h
 exact h rfl
theorem ξbn (w : World) (va : Value) (n : Bool) (l d : List Nat) (L : Nat) (ha : RatL w va n l d) (hd : d.length ≤ L) (hL : L ≤ 1000000) :
  Calls Tryz.prog 132 #[va] w (Ret w fun r w' => IntV w' r (denV d : Int) (L + 1)) := by
 obtain ⟨p, k, c, q, m, e, rfl, h1, h2⟩ := ha
 have HD := ξ h2
 clear h1 h2
 have B := box32 w (.bool n) (.slice p k c) (.slice q m e) (.bool false) (.slice none 0 0) 68 66
 have Hb1 := ξ (show ¬ w.heap.size + 1 < w.heap.size by omega)
 have Hd01 := ξ (show w.heap.size ≠ w.heap.size + 1 by omega)
 go_enter Tryz.func132, Tryz.ntmps132
 go_wp2_with fail
 generalize (w.alloc _).alloc _ = W at B ⊢
 obtain ⟨G0, t0, t1⟩ := B
 generalize w.heap.size + 1 = b1 at t1 Hb1 Hd01 ⊢
 generalize hb0 : w.heap.size = b0 at t0 Hd01 ⊢
 have Hb0 := ξ (show ¬ b0 < w.heap.size by omega)
 have G := ξ G0
 have T0 := ξ t0
 have T1 := ξ t1
 clear hb0 G0 t0 t1
 have HD := ξ (HD.out.grow G.out)
 refine (ξ2E W _ d HD.out (by omega)).mono ?_
 rintro _ _ ⟨rfl, rfl⟩
 obtain ⟨B0, hB0⟩ : ∃ B0, bitsN (nval d) = B0 := ⟨_, rfl⟩
 have HB0 := ξ hB0
 rw [hB0]
 clear hB0
 by_cases h0 : B0 = 0
 ·subst h0
  go_wp2_with fail
  refine (ξ7q W 1 (by decide) (by decide)).mono ?_
  rintro _ w2 ⟨r, rfl, g2, hr⟩
  obtain ⟨p2, k2, c2, rfl⟩ := hr.agg
  have RR := ξ (ξ6N Hb1.out (G.out.trans g2) (T1.out.grow g2) (L := L + 1) (by rw [ξ9i HB0.out]; exact hr.v (Nat.le_trans (ξbV 1 (by decide) (by decide)) (Nat.le_add_left _ _)) : IntV w2 _ (denV d : Int) (L + 1)))
  have G := ξ (G.out.trans g2)
  have T0 := ξ (T0.out.grow g2)
  have T1 := ξ (T1.out.grow g2)
  have HD := ξ (HD.out.grow g2)
  clear g2
  have T1_0 := T1.out.load.1
  have T1_f0 := T1.out.f0 0
  have T1_1 := T1.out.load.2
  have T1_f1 := T1.out.f0 1
  go_wp2_with fail
  refine bodyPost_ret (by simp [results, Tryz.results132, go_sem, T1_0, T1_1]; rfl) rfl ?_
  exact RR.out
 ·have hne : ¬ (B0 : Int) = 0 := by omega
  have RR := ξ (ξ6N Hb1.out G.out T1.out (L := L + 1) (by rw [ξaN (by rw [HB0.out]; exact h0)]; exact IntV.nat HD.out (Nat.le_succ_of_le hd) : IntV W _ (denV d : Int) (L + 1)))
  have T0_0 := T0.out.load.1
  have T0_f0 := T0.out.f0 0
  have T0_1 := T0.out.load.2.1
  have T0_f1 := T0.out.f0 1
  have T0_2 := T0.out.load.2.2
  have T0_f2 := T0.out.f0 2
  have T1_0 := T1.out.load.1
  have T1_f0 := T1.out.f0 0
  have T1_1 := T1.out.load.2
  have T1_f1 := T1.out.f0 1
  go_wp2_with fail
  refine bodyPost_ret (by simp [results, Tryz.results132, go_sem, T1_0, T1_1]; rfl) rfl ?_
  exact RR.out
end Go.Proofs.YtcjgimlcefhhmaaGreatDoor
namespace Go.Proofs.YtcjgimlcefhhmaaGreatDoor
namespace Prf
theorem ξ61 {vs : List VarM} {j m : Int} {v : VarM} (h : v ∈ setUp vs j m) : ∃ u ∈ vs, v = u ∨ v = { u with up := min u.up m } := by
 obtain ⟨i, hi, rfl⟩ := List.getElem_of_mem h
 have h1 := ξ68 vs j m i
 rw [List.getElem?_eq_getElem hi] at h1
 cases h2 : vs[i]? with
 | none => rw [h2] at h1; cases h1
 | some u =>
  rw [h2] at h1
  simp only [Option.map_some, Option.some.injEq] at h1
  refine ⟨u, List.mem_of_getElem? h2, ?_⟩
  rw [h1]
  split
  ·exact .inr rfl
  ·exact .inl rfl
theorem ξ5E {vs : List VarM} {j m : Int} {v : VarM} (h : v ∈ setLo vs j m) : ∃ u ∈ vs, v = u ∨ v = { u with lo := max u.lo m } := by
 obtain ⟨i, hi, rfl⟩ := List.getElem_of_mem h
 have h1 := ξ5Y vs j m i
 rw [List.getElem?_eq_getElem hi] at h1
 cases h2 : vs[i]? with
 | none => rw [h2] at h1; cases h1
 | some u =>
  rw [h2] at h1
  simp only [Option.map_some, Option.some.injEq] at h1
  refine ⟨u, List.mem_of_getElem? h2, ?_⟩
  rw [h1]
  split
  ·exact .inr rfl
  ·exact .inl rfl
theorem ξcz {p : Prg} {v m : Int} (hp : ξr p) (hw : Whole p) (h1 : -1099511627776 ≤ m) (h2 : m < 1099511627776) : ξr (lowPart p v m) ∧ Whole (lowPart p v m) := by
 refine ⟨⟨by simp [lowPart, ξ30]; exact hp.1, hp.2.1, fun x hx => ?_, fun r hr => ?_⟩, fun x hx => ?_⟩
 ·obtain ⟨u, hu, rfl | rfl⟩ := ξ61 hx
  ·exact hp.2.2.1 _ hu
  ·obtain ⟨k1, k2, k3, k4⟩ := hp.2.2.1 _ hu
   refine ⟨k1, ?_, k3, fun h => ?_⟩
   ·unfold In at k2 ⊢; simp only []; omega
   ·have := (hw u hu).2
    simp only [] at h
    rw [this] at h
    exact absurd h.1 (by decide)
 ·have := hp.2.2.2 r hr
  unfold lowPart
  simp only [ξ30]; exact this
 ·obtain ⟨u, hu, rfl | rfl⟩ := ξ61 hx
  ·exact hw _ hu
  ·exact hw u hu
theorem ξc7 {p : Prg} {v m : Int} (hp : ξr p) (hw : Whole p) (h1 : -1099511627776 ≤ m) (h2 : m < 1099511627776) : ξr (highPart p v m) ∧ Whole (highPart p v m) := by
 refine ⟨⟨by simp [highPart, ξ37]; exact hp.1, hp.2.1, fun x hx => ?_, fun r hr => ?_⟩, fun x hx => ?_⟩
 ·obtain ⟨u, hu, rfl | rfl⟩ := ξ5E hx
  ·exact hp.2.2.1 _ hu
  ·obtain ⟨k1, k2, k3, k4⟩ := hp.2.2.1 _ hu
   refine ⟨?_, k2, k3, k4⟩
   unfold In at k1 ⊢; simp only []; omega
 ·have := hp.2.2.2 r hr
  unfold highPart
  simp only [ξ37]; exact this
 ·obtain ⟨u, hu, rfl | rfl⟩ := ξ5E hx
  ·exact hw _ hu
  ·exact hw u hu
theorem ξ6u {n : Nat} (t : ξ8) : ∀ (l : List ξ8) (last : Int), Inc n last l → (∀ x ∈ l, x.v < t.v) → last < t.v → t.v < (n : Int) → t.c ≠ 0 → In t.c → Inc n last (l ++ [t])
 | [], last, _, _, h2, h3, h4, h5 => ⟨⟨h2, h3, h4, h5⟩, trivial⟩
 | x :: l, last, h, h1, h2, h3, h4, h5 => ⟨h.1, ξ6u t l x.v h.2 (fun y hy => h1 y (List.mem_cons_of_mem _ hy)) (h1 x (List.mem_cons_self ..)) h3 h4 h5⟩
theorem ξ2K {n : Nat} (a : Nat → Rat) (h : ∀ j, j < n → In (ceilQ (a j))) : ∀ k, k ≤ n → Inc n (-1) (cutTerms a k)
 | 0, _ => trivial
 | k + 1, hk => by
  rw [ξ2q]
  by_cases h0 : ceilQ (a k) = 0
  ·rw [if_pos h0, List.append_nil]; exact ξ2K a h k (by omega)
  ·rw [if_neg h0]
   exact ξ6u _ _ _ (ξ2K a h k (by omega)) (fun x hx => (ξ4i a k x hx).2) (by simp only []; omega) (by simp only []; omega) h0 (h k (by omega))
theorem ξ6K {n : Nat} : ∀ (l : List Int) (last : Int), -1 ≤ last → last < (n : Int) → IncI last l → (∀ v ∈ l, v < (n : Int)) → (l.length : Int) ≤ (n : Int) - 1 - last
 | [], last, h1, h2, _, _ => by simp; omega
 | v :: l, last, h1, h2, h, hn => by
  have := ξ6K l v (by have := h.1; omega) (hn v (List.mem_cons_self ..)) h.2 (fun u hu => hn u (List.mem_cons_of_mem _ hu))
  have := h.1
  rw [List.length_cons]
  omega
theorem ξ5H {n : Nat} : ∀ (l : List Int) (last : Int), IncI last l → (∀ v ∈ l, v < (n : Int)) → Inc n last (l.map fun v => ⟨v, 1⟩)
 | [], _, _, _ => trivial
 | v :: l, last, h, hn => ⟨⟨h.1, hn v (List.mem_cons_self ..), (show (1 : Int) ≠ 0 by decide), (show In 1 by unfold In; decide)⟩, ξ5H l v h.2 fun u hu => hn u (List.mem_cons_of_mem _ hu)⟩
theorem ξ2p : cutName.length ≤ 80 ∧ ∀ b ∈ cutName, 32 ≤ b ∧ b ≤ 126 := by decide
theorem ξ34 {p : Prg} {v : Int} (h : ξ0n p v) : 0 ≤ v ∧ v < (p.vars.length : Int) := by
 obtain ⟨x, h1, h2, _⟩ := h
 have := (List.getElem?_eq_some_iff.1 h2).1
 exact ⟨h1, by omega⟩
theorem ξ8M {p : Prg} {c : CutS} {r : RowS} (hp : ξr p) (h : ξ0m p c r) : ξI p.vars.length r := by
 obtain ⟨hf, ⟨hk, hr, rfl⟩ | ⟨hk, _, rfl⟩⟩ := h
 ·exact ⟨(show (0 : Int) ≤ 1 ∧ (1 : Int) ≤ 2 by decide), (show (0 : Int) ≤ 0 ∧ (0 : Int) ≤ 60 by decide), ξ2p.1, hr.2.2, ξ2p.2, ξ2K _ hr.2.1 _ (Nat.le_refl _)⟩
 ·rcases hf with hf | ⟨_, _, _, _, hne, hi, hb⟩
  ·omega
  ·have h1 := fun v hv => (ξ34 (hb v hv)).2
   have hpos : 0 < p.vars.length := by
    cases hv : c.vars with
    | nil => exact absurd hv hne
    | cons v l =>
     have := ξ34 (hb v (by rw [hv]; exact List.mem_cons_self ..))
     omega
   have h2 := ξ6K c.vars (-1) (by decide) (by omega) hi h1
   have h3 := hp.1
   refine ⟨(show (0 : Int) ≤ 0 ∧ (0 : Int) ≤ 2 by decide), (show (0 : Int) ≤ 0 ∧ (0 : Int) ≤ 60 by decide), ξ2p.1, ?_, ξ2p.2, ξ5H _ _ hi h1⟩
   have h4 : 0 < c.vars.length := List.length_pos_iff.2 hne
   exact ⟨by show -1099511627776 ≤ (c.vars.length : Int) - 1; omega, by show (c.vars.length : Int) - 1 ≤ 1099511627776; omega⟩
theorem ξ50 {p : Prg} {r : RowS} (hp : ξr p) (hr : ξI p.vars.length r) (hn : p.rows.length < 4000) : ξr (addRow p r) := by
 refine ⟨hp.1, by simp [addRow]; omega, hp.2.2.1, fun x hx => ?_⟩
 rcases List.mem_append.1 hx with hx | hx
 ·exact hp.2.2.2 x hx
 ·obtain rfl := List.mem_singleton.1 hx
  exact hr
end Prf
end Go.Proofs.YtcjgimlcefhhmaaGreatDoor

/-
  Plain laws of models: what has a name, loads, a renamed item.
  Plain laws of moves.
-/
import Derived.Test.YtnlocdijdfclcaaGreatDoorMdl
namespace Go.Proofs.YtnlocdijdfclcaaGreatDoor
open Go.RowKit Lex
set_option linter.unusedVariables false
set_option linter.unusedSimpArgs false

theorem rise_nodup {M : Mdl} {l : List Int} (h : MsOK M l) : l.Nodup ∧ ∀ n ∈ l, 1 ≤ n ∧ n ≤ (M.machs.length : Int) := by
 obtain ⟨_, h⟩ := h
 have hlt : ∀ (d i : Nat) (a b : Int), l[i]? = some a → l[i + d + 1]? = some b → a < b := by
  intro d
  induction d with
  | zero =>
   intro i a b ha hb
   exact (h (i + 1) b (by simpa using hb)).2 (by omega) a (by simpa using ha)
  | succ d ih =>
   intro i a b ha hb
   have hl := (List.getElem?_eq_some_iff.1 hb).1
   obtain ⟨m, hm⟩ : ∃ m, l[i + d + 1]? = some m := ⟨_, List.getElem?_eq_getElem (by omega)⟩
   have h1 := ih i a m ha hm
   have h2 := (h (i + (d + 1) + 1) b hb).2 (by omega) m (by simpa [Nat.add_assoc] using hm)
   omega
 refine ⟨?_, fun n hn => ?_⟩
 ·rw [List.nodup_iff_pairwise_ne, List.pairwise_iff_getElem]
  intro i j hi hj hij e
  have := hlt (j - i - 1) i l[i] l[j] (List.getElem?_eq_getElem hi) (by rw [show i + (j - i - 1) + 1 = j by omega]; exact List.getElem?_eq_getElem hj)
  omega
 ·obtain ⟨i, hi, e⟩ := List.getElem_of_mem hn
  have := (h i n (by rw [List.getElem?_eq_getElem hi, e])).1
  exact this
end Go.Proofs.YtnlocdijdfclcaaGreatDoor
namespace Go.Proofs.YtnlocdijdfclcaaGreatDoor
open Go.RowKit Lex
set_option linter.unusedVariables false
set_option linter.unusedSimpArgs false

structure MvM where
 item : Int
 frm : Int
 to : Int
def domsM (M : Mdl) (k : Int) : Int := if k = 1 then (M.machs.length : Int) else if k = 2 then (M.racks.length : Int) else if k = 3 then (M.feeds.length : Int) else if k = 4 then (M.sites.length : Int) else 0
def rackDom (M : Mdl) (k : Int) (r : Int) : Int := if 1 ≤ r ∧ r ≤ (M.racks.length : Int) then (match M.racks[(r - 1).toNat]? with | none => 0 | some y => if k = 3 then y.feed else if k = 4 then y.site else r) else 0
def domainM (M : Mdl) (k n : Int) : Int := if 1 ≤ n ∧ n ≤ (M.machs.length : Int) then (match M.machs[(n - 1).toNat]? with
 | none => 0
 | some x => if 1 ≤ (if k = 1 then n else rackDom M k x.rack) ∧ (if k = 1 then n else rackDom M k x.rack) ≤ domsM M k then (if k = 1 then n else rackDom M k x.rack) else 0) else 0
def joins (a b : Int) (x : LinkM) : Bool := (x.a == a && x.b == b) || (x.a == b && x.b == a)
def firstAt {α : Type} (p : α → Bool) (l : List α) : Int := match l.findIdx? p with
 | some i => (i : Int)
 | none => -1
def linkM (M : Mdl) (a b : Int) : Int := if a = b then 0 else 1 + firstAt (joins a b) M.links
def placeM (M : Mdl) (n : Int) : Int := domainM M 4 n
def srcM (x : MvM) (it : ItemM) : Int := if x.frm ≠ 0 then x.frm else it.on.headD 0
def freeI (M : Mdl) (it : ItemM) (n : Int) : Bool := decide (1 ≤ n) && decide (n ≤ (M.machs.length : Int)) && !it.on.contains n && (placeM M n != M.dark)
def apartM (M : Mdl) (x : MvM) (it : ItemM) : Bool := (x.to != 0) && decide (0 < it.size) && (placeM M (srcM x it) != placeM M x.to)
def shapeB (M : Mdl) (x : MvM) (it : ItemM) : Bool := if it.kind = 1 then ((x.frm == 0 && freeI M it x.to) || (it.on.contains x.frm && x.to == 0)) else it.on.contains x.frm && freeI M it x.to
def linkOf (M : Mdl) (x : MvM) (it : ItemM) : Int := linkM M (placeM M (srcM x it)) (placeM M x.to)
def fitsI (M : Mdl) (x : MvM) (it : ItemM) : Bool := shapeB M x it && (!apartM M x it || decide (0 < linkOf M x it))
def fitsM (M : Mdl) (x : MvM) : Bool := if 1 ≤ x.item ∧ x.item ≤ (M.items.length : Int) then (match M.items[(x.item - 1).toNat]? with | none => false | some it => fitsI M x it) else false
def MoveOK (M : Mdl) (x : MvM) : Prop := MdlOK M ∧ fitsM M x = true
theorem firstAt_ge {α : Type} (p : α → Bool) (l : List α) : -1 ≤ firstAt p l ∧ firstAt p l < (l.length : Int) := by
 unfold firstAt
 split
 ·next i h => have := (List.findIdx?_eq_some_iff_getElem.1 h).1; omega
 ·omega
theorem firstAt_some {α : Type} {p : α → Bool} {l : List α} {k : Nat} {x : α} (h : l[k]? = some x) (hp : p x = true) (hb : ∀ (j : Nat) (y : α), j < k → l[j]? = some y → p y = false) : firstAt p l = (k : Int) := by
 obtain ⟨hk, rfl⟩ := List.getElem?_eq_some_iff.1 h
 have : l.findIdx? p = some k := List.findIdx?_eq_some_iff_getElem.2 ⟨hk, hp, fun j hj => by
  have := hb j l[j] hj (List.getElem?_eq_getElem (by omega))
  simp [this]⟩
 unfold firstAt
 rw [this]
theorem firstAt_none {α : Type} {p : α → Bool} {l : List α} (hb : ∀ (j : Nat) (y : α), j < l.length → l[j]? = some y → p y = false) : firstAt p l = -1 := by
 have : l.findIdx? p = none := by
  rw [List.findIdx?_eq_none_iff]
  intro x hx
  obtain ⟨i, hi, rfl⟩ := List.getElem_of_mem hx
  exact hb i _ hi (List.getElem?_eq_getElem hi)
 unfold firstAt
 rw [this]
theorem linkM_ge (M : Mdl) (a b : Int) : 0 ≤ linkM M a b ∧ linkM M a b ≤ (M.links.length : Int) := by
 unfold linkM
 have := firstAt_ge (joins a b) M.links
 split <;> omega
theorem MoveOK.item {M : Mdl} {x : MvM} (h : MoveOK M x) : 1 ≤ x.item ∧ x.item ≤ (M.items.length : Int) ∧ ∃ it, M.items[(x.item - 1).toNat]? = some it ∧ fitsI M x it = true ∧ ItemOK M it := by
 obtain ⟨hM, h⟩ := h
 unfold fitsM at h
 split at h
 ·next hi =>
  cases hx : M.items[(x.item - 1).toNat]? with
  | none => rw [hx] at h; cases h
  | some it => rw [hx] at h; exact ⟨hi.1, hi.2, it, rfl, h, hM.2.2.2.2.1 it (List.mem_of_getElem? hx)⟩
 ·cases h
def allM (M : Mdl) : List MvM := (List.range (M.items.length * (M.machs.length + 1) * (M.machs.length + 1))).map fun j => ⟨((j / ((M.machs.length + 1) * (M.machs.length + 1)) : Nat) : Int) + 1, ((j / (M.machs.length + 1) % (M.machs.length + 1) : Nat) : Int), ((j % (M.machs.length + 1) : Nat) : Int)⟩
def candsM (M : Mdl) : List MvM := (allM M).filter (fitsM M)
theorem allM_len (M : Mdl) : (allM M).length = M.items.length * (M.machs.length + 1) * (M.machs.length + 1) := by simp [allM]
theorem allM_at {M : Mdl} {i f t : Nat} (hi : i < M.items.length) (hf : f < M.machs.length + 1) (ht : t < M.machs.length + 1) :
  (allM M)[(i * (M.machs.length + 1) + f) * (M.machs.length + 1) + t]? = some ⟨(i : Int) + 1, (f : Int), (t : Int)⟩ := by
 unfold allM
 generalize M.machs.length + 1 = q at *
 have hq : 0 < q := by omega
 have h1 : (i * q + f) * q + t < M.items.length * q * q := by
  have : i * q + f + 1 ≤ M.items.length * q := by
   have : (i + 1) * q ≤ M.items.length * q := Nat.mul_le_mul_right _ hi
   rw [Nat.add_mul] at this; omega
  have : (i * q + f + 1) * q ≤ M.items.length * q * q := Nat.mul_le_mul_right _ this
  rw [Nat.add_mul] at this; omega
 have e1 : ((i * q + f) * q + t) % q = t := by rw [Nat.mul_comm, Nat.mul_add_mod]; exact Nat.mod_eq_of_lt ht
 have e2 : ((i * q + f) * q + t) / q = i * q + f := by rw [Nat.mul_comm (i * q + f) q, Nat.mul_add_div hq, Nat.div_eq_of_lt ht, Nat.add_zero]
 have e3 : (i * q + f) % q = f := by rw [Nat.mul_comm, Nat.mul_add_mod]; exact Nat.mod_eq_of_lt hf
 have e4 : (i * q + f) / q = i := by rw [Nat.mul_comm i q, Nat.mul_add_div hq, Nat.div_eq_of_lt hf, Nat.add_zero]
 rw [List.getElem?_map, List.getElem?_range h1]
 simp only [Option.map_some]
 rw [← Nat.div_div_eq_div_mul, e1, e2, e3, e4]
def durM (it : ItemM) : Int := max 1 ((it.size + it.share - 1).tdiv it.share)
def useM (it : ItemM) : Int := min it.share it.size
end Go.Proofs.YtnlocdijdfclcaaGreatDoor

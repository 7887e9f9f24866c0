/-
  Plain laws of models: what has a name, loads, a renamed item.
  Plain laws of moves.
-/
import Derived.Test.YtdekicijinmakaaGreatDoorMdl
namespace Go.Proofs.YtdekicijinmakaaGreatDoor
open Go.RowKit Lex
set_option linter.unusedVariables false
set_option linter.unusedSimpArgs false

/-- where the names of a kind begin, and how many there are -/
def offOf (M : Mdl) (k : Int) : Nat := if k = 0 then 0 else if k = 1 then M.sites.length else if k = 2 then M.sites.length + M.feeds.length else if k = 3 then M.sites.length + M.feeds.length + M.racks.length else M.sites.length + M.feeds.length + M.racks.length + M.machs.length
def sizeOf' (M : Mdl) (k : Int) : Nat := if k = 0 then M.sites.length else if k = 1 then M.feeds.length else if k = 2 then M.racks.length else if k = 3 then M.machs.length else M.items.length
def namedM (M : Mdl) (k n : Int) : List UInt8 := if n < 1 ∨ (sizeOf' M k : Int) < n then [] else (names M).getD (offOf M k + n.toNat - 1) []
theorem names_at0 {M : Mdl} {i : Nat} {x : List UInt8} (h : M.sites[i]? = some x) : (names M)[i]? = some x := by
  have hl := (List.getElem?_eq_some_iff.1 h).1
  unfold names
  rw [List.getElem?_append_left (by omega)]
  exact h
theorem names_at1 {M : Mdl} {i : Nat} {x : List UInt8} (h : M.feeds[i]? = some x) : (names M)[M.sites.length + i]? = some x := by
  have hl := (List.getElem?_eq_some_iff.1 h).1
  unfold names
  rw [List.getElem?_append_right (by omega), Nat.add_sub_cancel_left, List.getElem?_append_left (by omega)]
  exact h
theorem names_at2 {M : Mdl} {i : Nat} {x : RackM} (h : M.racks[i]? = some x) : (names M)[M.sites.length + M.feeds.length + i]? = some x.name := by
  have hl := (List.getElem?_eq_some_iff.1 h).1
  unfold names
  rw [List.getElem?_append_right (by omega), List.getElem?_append_right (by omega), List.getElem?_append_left (by simp; omega), show M.sites.length + M.feeds.length + i - M.sites.length - M.feeds.length = i by omega, List.getElem?_map, h]
  rfl
theorem names_at3 {M : Mdl} {i : Nat} {x : MachM} (h : M.machs[i]? = some x) : (names M)[M.sites.length + M.feeds.length + M.racks.length + i]? = some x.name := by
  have hl := (List.getElem?_eq_some_iff.1 h).1
  unfold names
  rw [List.getElem?_append_right (by omega), List.getElem?_append_right (by omega), List.getElem?_append_right (by simp; omega), List.getElem?_append_left (by simp; omega), List.length_map, show M.sites.length + M.feeds.length + M.racks.length + i - M.sites.length - M.feeds.length - M.racks.length = i by omega, List.getElem?_map, h]
  rfl
theorem names_at4 {M : Mdl} {i : Nat} {x : ItemM} (h : M.items[i]? = some x) : (names M)[M.sites.length + M.feeds.length + M.racks.length + M.machs.length + i]? = some x.name := by
  have hl := (List.getElem?_eq_some_iff.1 h).1
  unfold names
  rw [List.getElem?_append_right (by omega), List.getElem?_append_right (by omega), List.getElem?_append_right (by simp; omega), List.getElem?_append_right (by simp; omega), List.length_map, List.length_map, show M.sites.length + M.feeds.length + M.racks.length + M.machs.length + i - M.sites.length - M.feeds.length - M.racks.length - M.machs.length = i by omega, List.getElem?_map, h]
  rfl
theorem names_len' (M : Mdl) : (names M).length = M.sites.length + M.feeds.length + M.racks.length + M.machs.length + M.items.length := by
  unfold names
  simp only [List.length_append, List.length_map]
  omega
/-! sums -/
def sumTo (f : Nat → Int) : Nat → Int
  | 0 => 0
  | k + 1 => sumTo f k + f k
theorem sumTo_add (f g : Nat → Int) : ∀ k, sumTo (fun i => f i + g i) k = sumTo f k + sumTo g k
  | 0 => rfl
  | k + 1 => by simp only [sumTo, sumTo_add f g k]; omega
theorem sumTo_zero : ∀ k, sumTo (fun _ => 0) k = 0
  | 0 => rfl
  | k + 1 => by simp only [sumTo, sumTo_zero k]; rfl
theorem sumTo_congr {f g : Nat → Int} : ∀ k, (∀ i, i < k → f i = g i) → sumTo f k = sumTo g k
  | 0, _ => rfl
  | k + 1, h => by simp only [sumTo]; rw [sumTo_congr k (fun i hi => h i (by omega)), h k (by omega)]
theorem sumTo_bound {f : Nat → Int} {B : Int} : ∀ k, (∀ i, i < k → 0 ≤ f i ∧ f i ≤ B) → 0 ≤ sumTo f k ∧ sumTo f k ≤ k * B
  | 0, _ => by simp [sumTo]
  | k + 1, h => by
    have h1 := sumTo_bound k (fun i hi => h i (by omega))
    have h2 := h k (by omega)
    simp only [sumTo]
    have : ((k + 1 : Nat) : Int) * B = k * B + B := by rw [Int.natCast_add, Int.add_mul]; simp
    omega
/-- how many of the numbers 1 to k lie in a list that rises -/
theorem sumTo_one (a c : Int) : ∀ k : Nat, 1 ≤ a → sumTo (fun i => if ((i : Int) + 1 == a) = true then c else 0) k = if a ≤ (k : Int) then c else 0
  | 0, h => by simp only [sumTo]; rw [if_neg (by omega)]
  | k + 1, h => by
    simp only [sumTo]
    rw [sumTo_one a c k h]
    by_cases h1 : a ≤ (k : Int)
    · rw [if_pos h1, if_neg (by simp; omega), if_pos (by omega)]; omega
    · by_cases h2 : (k : Int) + 1 = a
      · rw [if_neg h1, if_pos (by simp [h2]), if_pos (by omega)]; omega
      · rw [if_neg h1, if_neg (by simpa using h2), if_neg (by omega)]; rfl
theorem sumTo_contains (c : Int) (k : Nat) : ∀ l : List Int, l.Nodup → (∀ n ∈ l, 1 ≤ n ∧ n ≤ (k : Int)) → sumTo (fun i => if l.contains ((i : Int) + 1) = true then c else 0) k = c * (l.length : Int)
  | [], _, _ => by simpa using sumTo_zero k
  | a :: l, hn, hb => by
    obtain ⟨ha, hn⟩ := List.nodup_cons.1 hn
    have ih := sumTo_contains c k l hn (fun n h => hb n (List.mem_cons_of_mem _ h))
    have hab := hb a List.mem_cons_self
    have e : sumTo (fun i => if (a :: l).contains ((i : Int) + 1) = true then c else 0) k = sumTo (fun i => (if ((i : Int) + 1 == a) = true then c else 0) + (if l.contains ((i : Int) + 1) = true then c else 0)) k :=
      sumTo_congr k fun i _ => by
        by_cases h1 : (i : Int) + 1 = a
        · have h2 : ¬ l.contains ((i : Int) + 1) = true := fun h => ha (by rw [← h1]; exact List.contains_iff_mem.1 h)
          rw [if_neg h2, if_pos (by simp [h1]), if_pos (by simp [h1])]; omega
        · rw [if_neg (show ¬ ((i : Int) + 1 == a) = true by simpa using h1)]
          by_cases h2 : l.contains ((i : Int) + 1) = true
          · rw [if_pos h2, if_pos (by rw [List.contains_cons, h2, Bool.or_true])]; omega
          · have h3 : ¬ (a :: l).contains ((i : Int) + 1) = true := by
              rw [List.contains_cons]
              have : ((i : Int) + 1 == a) = false := by simpa using h1
              rw [this, Bool.false_or]; exact h2
            rw [if_neg h2, if_neg h3]; rfl
    rw [e, sumTo_add, sumTo_one a c k hab.1, ih, if_pos hab.2, List.length_cons]
    rw [show ((l.length + 1 : Nat) : Int) = (l.length : Int) + 1 by omega, Int.mul_add]
    omega
/-- the load of a machine, as numbers add -/
def loadS (l : List ItemM) (n : Int) : Int := (l.map fun x => if x.on.contains n = true then x.load else 0).sum
def wantS (l : List ItemM) : Int := (l.map fun x => x.load * (x.on.length : Int)).sum
theorem rise_nodup {M : Mdl} {l : List Int} (h : MsOK M l) : l.Nodup ∧ ∀ n ∈ l, 1 ≤ n ∧ n ≤ (M.machs.length : Int) := by
  obtain ⟨_, h⟩ := h
  have hlt : ∀ (d i : Nat) (a b : Int), l[i]? = some a → l[i + d + 1]? = some b → a < b := by
    intro d
    induction d with
    | zero =>
      intro i a b ha hb
      exact (h (i + 1) b (by simpa using hb)).2 (by omega) a (by simpa using ha)
    | succ d ih =>
      intro i a b ha hb
      have hl := (List.getElem?_eq_some_iff.1 hb).1
      obtain ⟨m, hm⟩ : ∃ m, l[i + d + 1]? = some m := ⟨_, List.getElem?_eq_getElem (by omega)⟩
      have h1 := ih i a m ha hm
      have h2 := (h (i + (d + 1) + 1) b hb).2 (by omega) m (by simpa [Nat.add_assoc] using hm)
      omega
  refine ⟨?_, fun n hn => ?_⟩
  · rw [List.nodup_iff_pairwise_ne, List.pairwise_iff_getElem]
    intro i j hi hj hij e
    have := hlt (j - i - 1) i l[i] l[j] (List.getElem?_eq_getElem hi) (by rw [show i + (j - i - 1) + 1 = j by omega]; exact List.getElem?_eq_getElem hj)
    omega
  · obtain ⟨i, hi, e⟩ := List.getElem_of_mem hn
    have := (h i n (by rw [List.getElem?_eq_getElem hi, e])).1
    exact this
theorem have_want (M : Mdl) : ∀ l : List ItemM, (∀ x ∈ l, MsOK M x.on) → sumTo (fun i => loadS l ((i : Int) + 1)) M.machs.length = wantS l
  | [], _ => by simpa [loadS, wantS] using sumTo_zero M.machs.length
  | x :: l, h => by
    have ih := have_want M l (fun y hy => h y (List.mem_cons_of_mem _ hy))
    obtain ⟨h1, h2⟩ := rise_nodup (h x List.mem_cons_self)
    have := sumTo_contains x.load M.machs.length x.on h1 h2
    have e : (fun i : Nat => loadS (x :: l) ((i : Int) + 1)) = fun i : Nat => (if x.on.contains ((i : Int) + 1) = true then x.load else 0) + loadS l ((i : Int) + 1) := by
      funext i; simp [loadS]
    rw [e, sumTo_add, this, ih]
    simp [wantS]
theorem loadS_bound {l : List ItemM} (h : ∀ x ∈ l, 0 ≤ x.load ∧ x.load ≤ 1048576) (n : Int) : 0 ≤ loadS l n ∧ loadS l n ≤ 1048576 * (l.length : Int) := by
  induction l with
  | nil => simp [loadS]
  | cons x l ih =>
    have h1 := ih (fun y hy => h y (List.mem_cons_of_mem _ hy))
    have h2 := h x List.mem_cons_self
    have e : loadS (x :: l) n = (if x.on.contains n = true then x.load else 0) + loadS l n := by simp [loadS]
    have e2 : ((x :: l).length : Int) = (l.length : Int) + 1 := by simp
    rw [e, e2]
    split <;> omega
/-! names that are good -/
theorem namesOK_iff (l : List (List UInt8)) : NamesOK l ↔ (∀ s ∈ l, isName s = true) ∧ ∀ (i j : Nat) (s : List UInt8), i < j → l[i]? = some s → l[j]? = some s → False := by
  constructor
  · intro h
    refine ⟨fun s hs => ?_, fun i j s hij hi hj => ?_⟩
    · obtain ⟨i, hi, e⟩ := List.getElem_of_mem hs
      exact (h i s (by rw [List.getElem?_eq_getElem hi, e])).1
    · refine (h j s hj).2 ?_
      have hl := (List.getElem?_eq_some_iff.1 hi)
      rw [List.mem_take_iff_getElem]
      have hjl := (List.getElem?_eq_some_iff.1 hj).1
      exact ⟨i, by omega, hl.2⟩
  · intro ⟨h1, h2⟩ i s hs
    refine ⟨h1 s (List.mem_of_getElem? hs), fun hm => ?_⟩
    rw [List.mem_take_iff_getElem] at hm
    obtain ⟨j, hj, e⟩ := hm
    exact h2 j i s (by omega) (by rw [List.getElem?_eq_getElem (by omega), e]) hs
theorem namesOK_set {l : List (List UInt8)} (h : NamesOK l) {j : Nat} {a s : List UInt8} (hj : l[j]? = some a) : NamesOK (l.set j s) ↔ isName s = true ∧ (¬ s ∈ l ∨ a = s) := by
  have hjl := (List.getElem?_eq_some_iff.1 hj).1
  rw [namesOK_iff] at h ⊢
  obtain ⟨h1, h2⟩ := h
  constructor
  · intro ⟨k1, k2⟩
    refine ⟨k1 s (by rw [List.mem_iff_getElem]; exact ⟨j, by simpa using hjl, by simp⟩), ?_⟩
    by_cases hs : s ∈ l
    · right
      obtain ⟨i, hi, e⟩ := List.getElem_of_mem hs
      by_cases hij : i = j
      · subst hij
        rw [List.getElem?_eq_getElem hi, e] at hj
        injection hj with hj; exact hj.symm
      · have a1 : (l.set j s)[i]? = some s := by rw [List.getElem?_set_ne (by omega), List.getElem?_eq_getElem hi, e]
        have a2 : (l.set j s)[j]? = some s := by rw [List.getElem?_set_self hjl]
        rcases Nat.lt_or_gt_of_ne hij with h | h
        · exact (k2 i j s h a1 a2).elim
        · exact (k2 j i s h a2 a1).elim
    · exact .inl hs
  · intro ⟨k1, k2⟩
    refine ⟨fun x hx => ?_, fun i i' x hlt hi hi' => ?_⟩
    · rcases List.mem_or_eq_of_mem_set hx with h | rfl
      · exact h1 x h
      · exact k1
    · by_cases e1 : i = j
      · subst e1
        rw [List.getElem?_set_self hjl] at hi
        injection hi with hi
        subst hi
        rw [List.getElem?_set_ne (by omega)] at hi'
        rcases k2 with k2 | rfl
        · exact k2 (List.mem_of_getElem? hi')
        · exact h2 _ _ _ hlt hj hi'
      · by_cases e2 : i' = j
        · subst e2
          rw [List.getElem?_set_self hjl] at hi'
          injection hi' with hi'
          subst hi'
          rw [List.getElem?_set_ne (by omega)] at hi
          rcases k2 with k2 | rfl
          · exact k2 (List.mem_of_getElem? hi)
          · exact h2 _ _ _ hlt hi hj
        · rw [List.getElem?_set_ne (by omega)] at hi hi'
          exact h2 _ _ _ hlt hi hi'
/-- an item with another name -/
def rename (M : Mdl) (i : Nat) (it : ItemM) (s : List UInt8) : Mdl := { M with items := M.items.set i { it with name := s } }
theorem names_rename {M : Mdl} {i : Nat} {it : ItemM} (h : M.items[i]? = some it) (s : List UInt8) : names (rename M i it s) = (names M).set (M.sites.length + M.feeds.length + M.racks.length + M.machs.length + i) s := by
  have hl := (List.getElem?_eq_some_iff.1 h).1
  unfold names rename
  simp only [List.map_set]
  rw [List.set_append_right _ _ (by omega), List.set_append_right _ _ (by omega), List.set_append_right _ _ (by simp; omega), List.set_append_right _ _ (by simp; omega)]
  simp only [List.length_map]
  rw [show M.sites.length + M.feeds.length + M.racks.length + M.machs.length + i - M.sites.length - M.feeds.length - M.racks.length - M.machs.length = i by omega]
theorem ruleOK_rename {M : Mdl} {i : Nat} {it : ItemM} (h : M.items[i]? = some it) (s : List UInt8) (x : RuleM) : RuleOK (rename M i it s) x ↔ RuleOK M x := by
  have hl : (rename M i it s).items.length = M.items.length := by unfold rename; simp
  have hm : (rename M i it s).machs = M.machs := rfl
  have hk : (∃ it', (rename M i it s).items[(x.item - 1).toNat]? = some it' ∧ it'.kind = 0) ↔ ∃ it', M.items[(x.item - 1).toNat]? = some it' ∧ it'.kind = 0 := by
    unfold rename
    by_cases e : i = (x.item - 1).toNat
    · rw [← e, List.getElem?_set_self (List.getElem?_eq_some_iff.1 h).1, h]
      simp
    · rw [List.getElem?_set_ne e]
  unfold RuleOK ItemNo MsOK
  rw [hl, hm, hk]
theorem mdlOK_rename {M : Mdl} (hM : MdlOK M) {i : Nat} {it : ItemM} (h : M.items[i]? = some it) (s : List UInt8) : MdlOK (rename M i it s) ↔ isName s = true ∧ (¬ s ∈ names M ∨ it.name = s) := by
  obtain ⟨h1, h2, h3, h4, h5, h6, h7⟩ := hM
  have hn := namesOK_set (s := s) h4 (names_at4 h)
  rw [← names_rename h s] at hn
  rw [← hn]
  have hl : (rename M i it s).items.length = M.items.length := by unfold rename; simp
  refine ⟨fun h => h.2.2.2.1, fun h' => ⟨h1, by rw [hl]; exact h2, h3, h', fun x hx => ?_, fun x hx => (ruleOK_rename h s x).2 (h6 x hx), h7⟩⟩
  unfold rename at hx
  rcases List.mem_or_eq_of_mem_set hx with hx | rfl
  · exact h5 x hx
  · exact h5 it (List.mem_of_getElem? h)
end Go.Proofs.YtdekicijinmakaaGreatDoor
namespace Go.Proofs.YtdekicijinmakaaGreatDoor
open Go.RowKit Lex
set_option linter.unusedVariables false
set_option linter.unusedSimpArgs false

structure MvM where
  item : Int
  frm : Int
  to : Int
/-- how many domains of a kind there are; the domain of a machine -/
def domsM (M : Mdl) (k : Int) : Int := if k = 1 then (M.machs.length : Int) else if k = 2 then (M.racks.length : Int) else if k = 3 then (M.feeds.length : Int) else if k = 4 then (M.sites.length : Int) else 0
def rackDom (M : Mdl) (k : Int) (r : Int) : Int := if 1 ≤ r ∧ r ≤ (M.racks.length : Int) then (match M.racks[(r - 1).toNat]? with | none => 0 | some y => if k = 3 then y.feed else if k = 4 then y.site else r) else 0
def domainM (M : Mdl) (k n : Int) : Int := if 1 ≤ n ∧ n ≤ (M.machs.length : Int) then (match M.machs[(n - 1).toNat]? with
  | none => 0
  | some x => if 1 ≤ (if k = 1 then n else rackDom M k x.rack) ∧ (if k = 1 then n else rackDom M k x.rack) ≤ domsM M k then (if k = 1 then n else rackDom M k x.rack) else 0) else 0
def joins (a b : Int) (x : LinkM) : Bool := (x.a == a && x.b == b) || (x.a == b && x.b == a)
def firstAt {α : Type} (p : α → Bool) (l : List α) : Int := match l.findIdx? p with
  | some i => (i : Int)
  | none => -1
def linkM (M : Mdl) (a b : Int) : Int := if a = b then 0 else 1 + firstAt (joins a b) M.links
def placeM (M : Mdl) (n : Int) : Int := domainM M 4 n
def srcM (x : MvM) (it : ItemM) : Int := if x.frm ≠ 0 then x.frm else it.on.headD 0
def freeI (M : Mdl) (it : ItemM) (n : Int) : Bool := decide (1 ≤ n) && decide (n ≤ (M.machs.length : Int)) && !it.on.contains n && (placeM M n != M.dark)
def apartM (M : Mdl) (x : MvM) (it : ItemM) : Bool := (x.to != 0) && decide (0 < it.size) && (placeM M (srcM x it) != placeM M x.to)
def shapeB (M : Mdl) (x : MvM) (it : ItemM) : Bool := if it.kind = 1 then ((x.frm == 0 && freeI M it x.to) || (it.on.contains x.frm && x.to == 0)) else it.on.contains x.frm && freeI M it x.to
def linkOf (M : Mdl) (x : MvM) (it : ItemM) : Int := linkM M (placeM M (srcM x it)) (placeM M x.to)
def fitsI (M : Mdl) (x : MvM) (it : ItemM) : Bool := shapeB M x it && (!apartM M x it || decide (0 < linkOf M x it))
def fitsM (M : Mdl) (x : MvM) : Bool := if 1 ≤ x.item ∧ x.item ≤ (M.items.length : Int) then (match M.items[(x.item - 1).toNat]? with | none => false | some it => fitsI M x it) else false
def MoveOK (M : Mdl) (x : MvM) : Prop := MdlOK M ∧ fitsM M x = true
theorem firstAt_ge {α : Type} (p : α → Bool) (l : List α) : -1 ≤ firstAt p l ∧ firstAt p l < (l.length : Int) := by
  unfold firstAt
  split
  · next i h => have := (List.findIdx?_eq_some_iff_getElem.1 h).1; omega
  · omega
theorem firstAt_some {α : Type} {p : α → Bool} {l : List α} {k : Nat} {x : α} (h : l[k]? = some x) (hp : p x = true) (hb : ∀ (j : Nat) (y : α), j < k → l[j]? = some y → p y = false) : firstAt p l = (k : Int) := by
  obtain ⟨hk, rfl⟩ := List.getElem?_eq_some_iff.1 h
  have : l.findIdx? p = some k := List.findIdx?_eq_some_iff_getElem.2 ⟨hk, hp, fun j hj => by
    have := hb j l[j] hj (List.getElem?_eq_getElem (by omega))
    simp [this]⟩
  unfold firstAt
  rw [this]
theorem firstAt_none {α : Type} {p : α → Bool} {l : List α} (hb : ∀ (j : Nat) (y : α), j < l.length → l[j]? = some y → p y = false) : firstAt p l = -1 := by
  have : l.findIdx? p = none := by
    rw [List.findIdx?_eq_none_iff]
    intro x hx
    obtain ⟨i, hi, rfl⟩ := List.getElem_of_mem hx
    exact hb i _ hi (List.getElem?_eq_getElem hi)
  unfold firstAt
  rw [this]
theorem linkM_ge (M : Mdl) (a b : Int) : 0 ≤ linkM M a b ∧ linkM M a b ≤ (M.links.length : Int) := by
  unfold linkM
  have := firstAt_ge (joins a b) M.links
  split <;> omega
theorem domainM_bound (M : Mdl) (k n : Int) : 0 ≤ domainM M k n ∧ domainM M k n ≤ domsM M k ∨ domainM M k n = 0 := by
  unfold domainM
  split
  · split
    · exact .inr rfl
    · next x hx =>
      generalize (if k = 1 then n else rackDom M k x.rack) = c
      by_cases h : 1 ≤ c ∧ c ≤ domsM M k
      · rw [if_pos h]; exact .inl ⟨by omega, h.2⟩
      · rw [if_neg h]; exact .inr rfl
  · exact .inr rfl
theorem MoveOK.item {M : Mdl} {x : MvM} (h : MoveOK M x) : 1 ≤ x.item ∧ x.item ≤ (M.items.length : Int) ∧ ∃ it, M.items[(x.item - 1).toNat]? = some it ∧ fitsI M x it = true ∧ ItemOK M it := by
  obtain ⟨hM, h⟩ := h
  unfold fitsM at h
  split at h
  · next hi =>
    cases hx : M.items[(x.item - 1).toNat]? with
    | none => rw [hx] at h; cases h
    | some it => rw [hx] at h; exact ⟨hi.1, hi.2, it, rfl, h, hM.2.2.2.2.1 it (List.mem_of_getElem? hx)⟩
  · cases h
/-! all moves, in their order -/
def allM (M : Mdl) : List MvM := (List.range (M.items.length * (M.machs.length + 1) * (M.machs.length + 1))).map fun j => ⟨((j / ((M.machs.length + 1) * (M.machs.length + 1)) : Nat) : Int) + 1, ((j / (M.machs.length + 1) % (M.machs.length + 1) : Nat) : Int), ((j % (M.machs.length + 1) : Nat) : Int)⟩
def candsM (M : Mdl) : List MvM := (allM M).filter (fitsM M)
theorem allM_len (M : Mdl) : (allM M).length = M.items.length * (M.machs.length + 1) * (M.machs.length + 1) := by simp [allM]
theorem allM_at {M : Mdl} {i f t : Nat} (hi : i < M.items.length) (hf : f < M.machs.length + 1) (ht : t < M.machs.length + 1) :
    (allM M)[(i * (M.machs.length + 1) + f) * (M.machs.length + 1) + t]? = some ⟨(i : Int) + 1, (f : Int), (t : Int)⟩ := by
  unfold allM
  generalize M.machs.length + 1 = q at *
  have hq : 0 < q := by omega
  have h1 : (i * q + f) * q + t < M.items.length * q * q := by
    have : i * q + f + 1 ≤ M.items.length * q := by
      have : (i + 1) * q ≤ M.items.length * q := Nat.mul_le_mul_right _ hi
      rw [Nat.add_mul] at this; omega
    have : (i * q + f + 1) * q ≤ M.items.length * q * q := Nat.mul_le_mul_right _ this
    rw [Nat.add_mul] at this; omega
  have e1 : ((i * q + f) * q + t) % q = t := by rw [Nat.mul_comm, Nat.mul_add_mod]; exact Nat.mod_eq_of_lt ht
  have e2 : ((i * q + f) * q + t) / q = i * q + f := by rw [Nat.mul_comm (i * q + f) q, Nat.mul_add_div hq, Nat.div_eq_of_lt ht, Nat.add_zero]
  have e3 : (i * q + f) % q = f := by rw [Nat.mul_comm, Nat.mul_add_mod]; exact Nat.mod_eq_of_lt hf
  have e4 : (i * q + f) / q = i := by rw [Nat.mul_comm i q, Nat.mul_add_div hq, Nat.div_eq_of_lt hf, Nat.add_zero]
  rw [List.getElem?_map, List.getElem?_range h1]
  simp only [Option.map_some]
  rw [← Nat.div_div_eq_div_mul, e1, e2, e3, e4]
/-- the order of moves -/
def mvLt (x y : MvM) : Prop := x.item < y.item ∨ (x.item = y.item ∧ (x.frm < y.frm ∨ (x.frm = y.frm ∧ x.to < y.to)))
theorem allM_lt {M : Mdl} {i j : Nat} {x y : MvM} (hij : i < j) (hx : (allM M)[i]? = some x) (hy : (allM M)[j]? = some y) : mvLt x y := by
  unfold allM at hx hy
  generalize M.machs.length + 1 = q at *
  have hjl := (List.getElem?_eq_some_iff.1 hy).1
  simp only [List.length_map, List.length_range] at hjl
  have hq : 0 < q := by
    rcases Nat.eq_zero_or_pos q with h | h
    · subst h; simp at hjl
    · exact h
  rw [List.getElem?_map, List.getElem?_range (by omega)] at hx hy
  simp only [Option.map_some, Option.some.injEq] at hx hy
  subst hx hy
  unfold mvLt
  simp only [← Nat.div_div_eq_div_mul]
  have a1 := Nat.div_add_mod i q
  have a2 := Nat.div_add_mod j q
  have a3 := Nat.div_add_mod (i / q) q
  have a4 := Nat.div_add_mod (j / q) q
  have b1 := Nat.mod_lt i hq
  have b2 := Nat.mod_lt j hq
  have b3 := Nat.mod_lt (i / q) hq
  have b4 := Nat.mod_lt (j / q) hq
  have c1 : i / q ≤ j / q := Nat.div_le_div_right (by omega)
  have c2 : i / q / q ≤ j / q / q := Nat.div_le_div_right c1
  rcases Nat.lt_or_ge (i / q / q) (j / q / q) with h | h
  · left; omega
  · right
    have e : i / q / q = j / q / q := by omega
    refine ⟨by omega, ?_⟩
    rw [e] at a3
    rcases Nat.lt_or_ge (i / q) (j / q) with h | h
    · left; omega
    · right
      have e : i / q = j / q := by omega
      rw [e] at a1
      refine ⟨by rw [e], by omega⟩
theorem mem_allM {M : Mdl} {x : MvM} (h1 : 1 ≤ x.item) (h2 : x.item ≤ (M.items.length : Int)) (h3 : 0 ≤ x.frm) (h4 : x.frm ≤ (M.machs.length : Int)) (h5 : 0 ≤ x.to) (h6 : x.to ≤ (M.machs.length : Int)) : x ∈ allM M := by
  have := allM_at (M := M) (i := (x.item - 1).toNat) (f := x.frm.toNat) (t := x.to.toNat) (by omega) (by omega) (by omega)
  have e : (⟨((x.item - 1).toNat : Int) + 1, (x.frm.toNat : Int), (x.to.toNat : Int)⟩ : MvM) = x := by
    obtain ⟨a, b, c⟩ := x
    simp only [MvM.mk.injEq]
    refine ⟨?_, ?_, ?_⟩ <;> (simp only at *; omega)
  rw [e] at this
  exact List.mem_of_getElem? this
theorem mem_cands {M : Mdl} (hM : MdlOK M) {x : MvM} : x ∈ candsM M ↔ fitsM M x = true := by
  unfold candsM
  rw [List.mem_filter]
  refine ⟨fun h => h.2, fun h => ⟨?_, h⟩⟩
  obtain ⟨h1, h2, it, hit, hf, hok⟩ := MoveOK.item ⟨hM, h⟩
  have hon := fun n (hn : it.on.contains n = true) => (rise_nodup hok.2.1).2 n (List.contains_iff_mem.1 hn)
  have hfree : ∀ n, freeI M it n = true → 1 ≤ n ∧ n ≤ (M.machs.length : Int) := fun n hn => by
    unfold freeI at hn
    simp only [Bool.and_eq_true, decide_eq_true_eq] at hn
    exact ⟨hn.1.1.1, hn.1.1.2⟩
  unfold fitsI shapeB at hf
  rw [Bool.and_eq_true] at hf
  have hs := hf.1
  split at hs
  · rw [Bool.or_eq_true, Bool.and_eq_true, Bool.and_eq_true] at hs
    rcases hs with ⟨a, b⟩ | ⟨a, b⟩
    · have a : x.frm = 0 := by simpa using a
      have := hfree _ b
      exact mem_allM h1 h2 (by omega) (by omega) (by omega) (by omega)
    · have b : x.to = 0 := by simpa using b
      have := hon _ a
      exact mem_allM h1 h2 (by omega) (by omega) (by omega) (by omega)
  · rw [Bool.and_eq_true] at hs
    have := hon _ hs.1
    have := hfree _ hs.2
    exact mem_allM h1 h2 (by omega) (by omega) (by omega) (by omega)
theorem cands_lt {M : Mdl} : ∀ (i : Nat) (x y : MvM), (candsM M)[i]? = some x → (candsM M)[i + 1]? = some y → mvLt x y := by
  have hp : (candsM M).Pairwise mvLt := by
    unfold candsM
    refine List.Pairwise.filter _ ?_
    rw [List.pairwise_iff_getElem]
    intro i j hi hj hij
    exact allM_lt hij (List.getElem?_eq_getElem hi) (List.getElem?_eq_getElem hj)
  intro i x y hx hy
  rw [List.pairwise_iff_getElem] at hp
  obtain ⟨h1, rfl⟩ := List.getElem?_eq_some_iff.1 hx
  obtain ⟨h2, rfl⟩ := List.getElem?_eq_some_iff.1 hy
  exact hp i (i + 1) h1 h2 (by omega)
/-! durations -/
def durM (it : ItemM) : Int := max 1 ((it.size + it.share - 1).tdiv it.share)
def useM (it : ItemM) : Int := min it.share it.size
theorem carry {it : ItemM} (h1 : 1 ≤ it.share) (h2 : 0 < it.size) : it.size ≤ durM it * useM it ∧ (durM it - 1) * useM it < it.size ∧ 1 ≤ durM it := by
  unfold durM useM
  rw [Int.tdiv_eq_ediv_of_nonneg (by omega)]
  rcases Int.lt_or_le it.share it.size with h | h
  · have hd1 : it.share * ((it.size + it.share - 1) / it.share) ≤ it.size + it.share - 1 := Int.mul_ediv_self_le (by omega)
    have hd2 : it.size + it.share - 1 < it.share * ((it.size + it.share - 1) / it.share) + it.share := Int.lt_mul_ediv_self_add (by omega)
    have hd3 : 1 ≤ (it.size + it.share - 1) / it.share := by rw [Int.le_ediv_iff_mul_le (by omega)]; omega
    rw [Int.min_eq_left (by omega), Int.max_eq_right hd3, Int.mul_comm _ it.share, Int.sub_mul, Int.mul_comm _ it.share]
    generalize it.share * ((it.size + it.share - 1) / it.share) = z at *
    omega
  · have hd : (it.size + it.share - 1) / it.share = 1 := by
      rw [Int.ediv_eq_iff_of_pos (by omega)]; omega
    rw [hd, Int.min_eq_right h]
    simp; omega
end Go.Proofs.YtdekicijinmakaaGreatDoor

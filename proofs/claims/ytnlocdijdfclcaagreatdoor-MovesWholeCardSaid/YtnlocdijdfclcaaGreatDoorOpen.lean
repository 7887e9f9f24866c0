/-
  An argument that is a model, opened: rows of structs, read by their encodings; the form's reach bounds every row's length.
  What the rows of the later chapters share: the listed tables.
-/
import Derived.Test.YtnlocdijdfclcaaGreatDoorMdl
import Derived.Test.YtnlocdijdfclcaaGreatDoorProg
import Derived.WalkKit
import Derived.ProofKit
import Derived.OpenShut
import Derived.JoinedCond
import Derived.Lib.SmallJoins
import Derived.ChangeSlices
import Derived.Carry
import Derived.Test.YtnlocdijdfclcaaGreatDoorRows
import Derived.Test.YtnlocdijdfclcaaGreatDoorCards
import Derived.Test.YtnlocdijdfclcaaGreatDoorTie
import Derived.Test.YtnlocdijdfclcaaGreatDoorCatZ
import Derived.LaidMore
import Derived.Stop.Joined
import Derived.Stop.LaidErr
import Derived.SevenTiedAt
namespace Go.Proofs.YtnlocdijdfclcaaGreatDoor
open Go.ChangeShapes Go.WideShapes Go.ChangeAt Go.RowKit Go.Joins
set_option linter.unusedVariables false
set_option linter.unusedSimpArgs false

def Light {H : Type} (t : TypeId) (d : DataW H) : Prop := (d.weights Tryz.prog t).all (· ≤ reachBytes) = true
theorem list_of {α : Type} {n : Nat} {Q : Nat → α → Prop} (h : ∀ i, i < n → ∃ y, Q i y) : ∃ l : List α, l.length = n ∧ ∀ i y, l[i]? = some y → Q i y := by
 induction n with
 | zero => exact ⟨[], rfl, by simp⟩
 | succ n ih =>
  obtain ⟨l, hl, hq⟩ := ih (fun i hi => h i (by omega))
  obtain ⟨y, hy⟩ := h n (by omega)
  refine ⟨l ++ [y], by simp [hl], fun i z hz => ?_⟩
  rcases Nat.lt_or_ge i l.length with hi | hi
  ·rw [List.getElem?_append_left hi] at hz
   exact hq i z hz
  ·rw [List.getElem?_append_right hi] at hz
   have : i - l.length = 0 := by
    rcases Nat.eq_zero_or_pos (i - l.length) with h | h
    ·exact h
    ·rw [List.getElem?_eq_none (by simp; omega)] at hz; cases hz
   rw [this] at hz
   simp at hz
   subst hz
   rw [show i = n by omega]
   exact hy
theorem weightsAll_mem {H : Type} {e : TypeId} {d : DataW H} : ∀ {l : List (DataW H)}, d ∈ l → (DataW.weightsAll Tryz.prog e l).all (· ≤ reachBytes) = true → Light e d
 | [], h, _ => by cases h
 | x :: l, h, hw => by
  unfold DataW.weightsAll at hw
  rw [List.all_append, Bool.and_eq_true] at hw
  rcases List.mem_cons.1 h with rfl | h
  ·exact hw.1
  ·exact weightsAll_mem h hw.2
section
variable {H : Type} {enc : TypeId × Value → H} {w : World} {fuel : Nat} {cs : List Value} {x : DataW H × List MemPlace}
theorem open_row {α : Type} {en : α → List Value} {sz : Nat} {t e : TypeId} {R : α → Prop} (ht : Tryz.prog.underlying t = some (.slice e)) (hc : Tryz.prog.cellsOf e = sz) (hsz : 0 < sz) (hby : 8 ≤ Tryz.prog.bytesOf e) (hlen : ∀ x, (en x).length = sz)
  (hel : ∀ fuel cs (x : DataW H × List MemPlace), DataW.trod enc Tryz.prog w 0 (fun _ => true) true fuel e cs = some x → Light e x.1 → ∃ y, cs = en y ∧ R y)
  (h : DataW.trod enc Tryz.prog w 0 (fun _ => true) true fuel t cs = some x) (hw : Light t x.1) :
  ∃ (p : Option Addr) (l : List α) (c : Nat), cs = [.slice p l.length c] ∧ SlL w sz en (.slice p l.length c) l ∧ l.length ≤ 17592186044416 ∧ ∀ y ∈ l, R y := by
 rcases DataW.trod_slice ht h with ⟨rfl, rfl⟩ | ⟨a, len, cap, elems, rest, n, rfl, rfl, rfl, _, hl, hm, hlen', hel', hsp, _⟩
 ·exact ⟨none, [], 0, rfl, SlL.nil w, by simp, by simp⟩
 ·obtain ⟨hrl, hr⟩ := hsp rfl
  unfold Light at hw
  simp only [DataW.weights, ht, List.all_cons, List.all_append, Bool.and_eq_true, List.length_map, decide_eq_true_eq] at hw
  obtain ⟨hw1, hw2, _⟩ := hw
  rw [hc] at hel' hr
  have each : ∀ i, i < len → ∃ y, w.cells? 0 (a.add (i * sz)) sz = some (en y) ∧ R y := fun i hi => by
   have h1 := hel' i hi
   have hi' : i < elems.length := by omega
   rw [List.getElem?_eq_getElem hi', Option.bind_eq_some_iff] at h1
   obtain ⟨cs', hcs, hy⟩ := h1
   obtain ⟨y, rfl, hR⟩ := hel _ _ _ hy (weightsAll_mem (List.mem_map.2 ⟨_, List.getElem_mem hi', rfl⟩) hw2)
   exact ⟨y, hcs, hR⟩
  obtain ⟨l, hll, hq⟩ := list_of each
  have hspot : 0 < cap → a.spot = none := fun h0 => by
   have h1 : ∃ cs', w.cells? 0 a sz = some cs' := by
    by_cases h2 : 0 < len
    ·obtain ⟨y, hy, _⟩ := each 0 h2
     exact ⟨_, by simpa [Addr.add] using hy⟩
    ·have h3 := hr 0 (by omega)
     have h4 : 0 < rest.length := by omega
     rw [List.getElem?_eq_getElem h4, Option.bind_eq_some_iff] at h3
     obtain ⟨cs', hcs, _⟩ := h3
     have e : (len + 0) * sz = 0 := by have : len = 0 := by omega
                                       subst this; simp
     rw [e] at hcs
     exact ⟨cs', by simpa [Addr.add] using hcs⟩
   obtain ⟨cs', h1⟩ := h1
   obtain ⟨_, h2, h3⟩ := World.cells?_some h1
   have h4 := h3 0 hsz
   rw [List.getElem?_eq_getElem (by omega)] at h4
   unfold World.cell? at h4
   simp only [Addr.add, if_true] at h4
   cases hs : a.spot with
   | none => rfl
   | some s =>
    rw [hs] at h4
    split at h4 <;> simp at h4
  refine ⟨some a, l, cap, by rw [hll], ?_, ?_, fun y hy => ?_⟩
  ·rw [hll]
   unfold SlL
   rw [hll]
   refine ⟨by rw [flat_len hlen, hll], some a, cap, rfl, hl, by simp only [maxLen] at hm; omega, ?_⟩
   by_cases h0 : cap = 0
   ·exact .inl h0
   ·obtain ⟨b, o, s⟩ := a
    have hs := hspot (by omega)
    simp only at hs
    subst hs
    refine .inr ⟨b, o, rfl, fun j u hu => ?_⟩
    have hj : j < l.length * sz := by
     have := (List.getElem?_eq_some_iff.1 hu).1
     rwa [flat_len hlen] at this
    have hi : j / sz < l.length := by rw [Nat.div_lt_iff_lt_mul hsz]; exact hj
    have hk : j % sz < sz := Nat.mod_lt _ hsz
    have hx : l[j / sz]? = some l[j / sz] := List.getElem?_eq_getElem hi
    have hg := flat_get hlen l (j / sz) _ (j % sz) hx hk
    have hd : j / sz * sz + j % sz = j := Nat.div_add_mod' j sz
    rw [hd, hu] at hg
    obtain ⟨hq1, _⟩ := hq _ _ hx
    obtain ⟨_, _, h3⟩ := World.cells?_some hq1
    have h4 := h3 (j % sz) hk
    rw [addr_add0, addr_add0, Nat.add_assoc, hd, ← hg] at h4
    exact h4
  ·have : (elems.length + rest.length) * 8 ≤ (elems.length + rest.length) * Tryz.prog.bytesOf e := Nat.mul_le_mul_left _ hby
   unfold reachBytes at hw1
   omega
  ·obtain ⟨i, hi, e⟩ := List.getElem_of_mem hy
   exact (hq i y (by rw [List.getElem?_eq_getElem hi, e])).2
theorem one3 {α : Type} {l : List α} (h : l.length = 3) : ∃ a b c, l = [a, b, c] := by
 match l, h with
 | [a, b, c], _ => exact ⟨a, b, c, rfl⟩
theorem one7 {α : Type} {l : List α} (h : l.length = 7) : ∃ a b c d e f g, l = [a, b, c, d, e, f, g] := by
 match l, h with
 | [a, b, c, d, e, f, g], _ => exact ⟨a, b, c, d, e, f, g, rfl⟩
theorem one11 {α : Type} {l : List α} (h : l.length = 11) : ∃ a b c d e f g h i j k, l = [a, b, c, d, e, f, g, h, i, j, k] := by
 match l, h with
 | [a, b, c, d, e, f, g, h, i, j, k], _ => exact ⟨a, b, c, d, e, f, g, h, i, j, k, rfl⟩
def I64 (n : Int) : Prop := -9223372036854775808 ≤ n ∧ n ≤ 9223372036854775807
theorem cS : Tryz.prog.cellsOf 9 = 1 := by kernel_rfl
theorem cI : Tryz.prog.cellsOf 3 = 1 := by kernel_rfl
theorem cL : Tryz.prog.cellsOf 59 = 1 := by kernel_rfl
theorem cB : Tryz.prog.cellsOf 4 = 1 := by kernel_rfl
theorem open_S (h : DataW.trod enc Tryz.prog w 0 (fun _ => true) true fuel 9 cs = some x) : ∃ s : List UInt8, cs = encS s := by
 obtain ⟨s, rfl, _, _⟩ := DataW.trod_string Tryz.underlying9 h
 exact ⟨s.data.toList, by unfold encS; rw [Array.toArray_toList]⟩
theorem open_I (h : DataW.trod enc Tryz.prog w 0 (fun _ => true) true fuel 3 cs = some x) : ∃ n : Int, cs = encI n ∧ I64 n := by
 obtain ⟨n, rfl, _, hw⟩ := DataW.trod_int Tryz.underlying3 h
 exact ⟨n, rfl, by have := bounds_i64 hw; exact this⟩
theorem open_strs (h : DataW.trod enc Tryz.prog w 0 (fun _ => true) true fuel 22 cs = some x) (hw : Light 22 x.1) :
  ∃ (p : Option Addr) (l : List (List UInt8)) (c : Nat), cs = [.slice p l.length c] ∧ StrL w (.slice p l.length c) l ∧ l.length ≤ 17592186044416 := by
 obtain ⟨p, l, c, h1, h2, h3, _⟩ := open_row (R := fun _ => True) Tryz.underlying22 cS (by decide) (of_decide_eq_true (by kernel_rfl)) encS_len (fun fuel cs x h _ => by
  obtain ⟨s, rfl⟩ := open_S h
  exact ⟨s, rfl, trivial⟩) h hw
 exact ⟨p, l, c, h1, h2, h3⟩
theorem open_intsL (h : DataW.trod enc Tryz.prog w 0 (fun _ => true) true fuel 59 cs = some x) (hw : Light 59 x.1) :
  ∃ (p : Option Addr) (l : List Int) (c : Nat), cs = [.slice p l.length c] ∧ IntL w (.slice p l.length c) l ∧ l.length ≤ 17592186044416 ∧ ∀ n ∈ l, I64 n :=
 open_row Tryz.underlying59 cI (by decide) (of_decide_eq_true (by kernel_rfl)) encI_len (fun fuel cs x h _ => open_I h) h hw
theorem open_rack (h : DataW.trod enc Tryz.prog w 0 (fun _ => true) true fuel 56 cs = some x) (hw : Light 56 x.1) : ∃ y : RackM, cs = encRack y ∧ (I64 y.site ∧ I64 y.feed) := by
 obtain ⟨xs, n, rfl, rfl, hl, hxl, hf⟩ := DataW.trod_struct Tryz.underlying56 h
 obtain ⟨v0, v1, v2, rfl⟩ := one3 (hl.trans (show Tryz.prog.cellsOf 56 = 3 by kernel_rfl))
 obtain ⟨x0, x1, x2, rfl⟩ := one3 hxl
 have f0 : DataW.trod enc Tryz.prog w 0 (fun _ => true) true n 9 [v0] = some x0 := by simpa [cS, cI, cL, cB] using hf 0 _ rfl
 have f1 : DataW.trod enc Tryz.prog w 0 (fun _ => true) true n 3 [v1] = some x1 := by simpa [cS, cI, cL, cB] using hf 1 _ rfl
 have f2 : DataW.trod enc Tryz.prog w 0 (fun _ => true) true n 3 [v2] = some x2 := by simpa [cS, cI, cL, cB] using hf 2 _ rfl
 obtain ⟨s, e0⟩ := open_S f0
 obtain ⟨a, e1, r1⟩ := open_I f1
 obtain ⟨b, e2, r2⟩ := open_I f2
 unfold encS at e0
 unfold encI at e1 e2
 simp only [List.cons.injEq, and_true] at e0 e1 e2
 subst e0 e1 e2
 exact ⟨⟨s, a, b⟩, rfl, r1, r2⟩
theorem open_mach (h : DataW.trod enc Tryz.prog w 0 (fun _ => true) true fuel 58 cs = some x) (hw : Light 58 x.1) : ∃ y : MachM, cs = encMach y ∧ (I64 y.rack ∧ I64 y.cap) := by
 obtain ⟨xs, n, rfl, rfl, hl, hxl, hf⟩ := DataW.trod_struct Tryz.underlying58 h
 obtain ⟨v0, v1, v2, rfl⟩ := one3 (hl.trans (show Tryz.prog.cellsOf 58 = 3 by kernel_rfl))
 obtain ⟨x0, x1, x2, rfl⟩ := one3 hxl
 have f0 : DataW.trod enc Tryz.prog w 0 (fun _ => true) true n 9 [v0] = some x0 := by simpa [cS, cI, cL, cB] using hf 0 _ rfl
 have f1 : DataW.trod enc Tryz.prog w 0 (fun _ => true) true n 3 [v1] = some x1 := by simpa [cS, cI, cL, cB] using hf 1 _ rfl
 have f2 : DataW.trod enc Tryz.prog w 0 (fun _ => true) true n 3 [v2] = some x2 := by simpa [cS, cI, cL, cB] using hf 2 _ rfl
 obtain ⟨s, e0⟩ := open_S f0
 obtain ⟨a, e1, r1⟩ := open_I f1
 obtain ⟨b, e2, r2⟩ := open_I f2
 unfold encS at e0
 unfold encI at e1 e2
 simp only [List.cons.injEq, and_true] at e0 e1 e2
 subst e0 e1 e2
 exact ⟨⟨s, a, b⟩, rfl, r1, r2⟩
theorem open_link (h : DataW.trod enc Tryz.prog w 0 (fun _ => true) true fuel 117 cs = some x) (hw : Light 117 x.1) : ∃ y : LinkM, cs = encLink y ∧ (I64 y.a ∧ I64 y.b ∧ I64 y.cap) := by
 obtain ⟨xs, n, rfl, rfl, hl, hxl, hf⟩ := DataW.trod_struct Tryz.underlying117 h
 obtain ⟨v0, v1, v2, rfl⟩ := one3 (hl.trans (show Tryz.prog.cellsOf 117 = 3 by kernel_rfl))
 obtain ⟨x0, x1, x2, rfl⟩ := one3 hxl
 have f0 : DataW.trod enc Tryz.prog w 0 (fun _ => true) true n 3 [v0] = some x0 := by simpa [cS, cI, cL, cB] using hf 0 _ rfl
 have f1 : DataW.trod enc Tryz.prog w 0 (fun _ => true) true n 3 [v1] = some x1 := by simpa [cS, cI, cL, cB] using hf 1 _ rfl
 have f2 : DataW.trod enc Tryz.prog w 0 (fun _ => true) true n 3 [v2] = some x2 := by simpa [cS, cI, cL, cB] using hf 2 _ rfl
 obtain ⟨s, e0, r0⟩ := open_I f0
 obtain ⟨a, e1, r1⟩ := open_I f1
 obtain ⟨b, e2, r2⟩ := open_I f2
 unfold encI at e0 e1 e2
 simp only [List.cons.injEq, and_true] at e0 e1 e2
 subst e0 e1 e2
 exact ⟨⟨s, a, b⟩, rfl, r0, r1, r2⟩
def ItemR (w : World) (y : ItemM) : Prop := ItemOn w y ∧ y.on.length ≤ 17592186044416 ∧ I64 y.kind ∧ I64 y.count ∧ I64 y.load ∧ I64 y.size ∧ I64 y.share ∧ ∀ n ∈ y.on, I64 n
def RuleR (w : World) (y : RuleM) : Prop := RuleMs w y ∧ y.ms.length ≤ 17592186044416 ∧ I64 y.kind ∧ I64 y.item ∧ I64 y.other ∧ I64 y.n ∧ I64 y.bye
theorem open_itemD (h : DataW.trod enc Tryz.prog w 0 (fun _ => true) true fuel 61 cs = some x) (hw : Light 61 x.1) : ∃ y : ItemM, cs = encItem y ∧ ItemR w y := by
 obtain ⟨xs, n, rfl, rfl, hl, hxl, hf⟩ := DataW.trod_struct Tryz.underlying61 h
 obtain ⟨v0, v1, v2, v3, v4, v5, v6, rfl⟩ := one7 (hl.trans (show Tryz.prog.cellsOf 61 = 7 by kernel_rfl))
 obtain ⟨x0, x1, x2, x3, x4, x5, x6, rfl⟩ := one7 hxl
 have f0 : DataW.trod enc Tryz.prog w 0 (fun _ => true) true n 9 [v0] = some x0 := by simpa [cS, cI, cL, cB] using hf 0 _ rfl
 have f1 : DataW.trod enc Tryz.prog w 0 (fun _ => true) true n 3 [v1] = some x1 := by simpa [cS, cI, cL, cB] using hf 1 _ rfl
 have f2 : DataW.trod enc Tryz.prog w 0 (fun _ => true) true n 3 [v2] = some x2 := by simpa [cS, cI, cL, cB] using hf 2 _ rfl
 have f3 : DataW.trod enc Tryz.prog w 0 (fun _ => true) true n 3 [v3] = some x3 := by simpa [cS, cI, cL, cB] using hf 3 _ rfl
 have f4 : DataW.trod enc Tryz.prog w 0 (fun _ => true) true n 3 [v4] = some x4 := by simpa [cS, cI, cL, cB] using hf 4 _ rfl
 have f5 : DataW.trod enc Tryz.prog w 0 (fun _ => true) true n 3 [v5] = some x5 := by simpa [cS, cI, cL, cB] using hf 5 _ rfl
 have f6 : DataW.trod enc Tryz.prog w 0 (fun _ => true) true n 59 [v6] = some x6 := by simpa [cS, cI, cL, cB] using hf 6 _ rfl
 unfold Light at hw
 simp only [DataW.weights, Tryz.underlying61, List.map_cons, List.map_nil, DataW.weightsEach, List.all_append, Bool.and_eq_true] at hw
 obtain ⟨s, e0⟩ := open_S f0
 obtain ⟨a1, e1, r1⟩ := open_I f1
 obtain ⟨a2, e2, r2⟩ := open_I f2
 obtain ⟨a3, e3, r3⟩ := open_I f3
 obtain ⟨a4, e4, r4⟩ := open_I f4
 obtain ⟨a5, e5, r5⟩ := open_I f5
 obtain ⟨p, l, c, e6, hs, hb, hi⟩ := open_intsL f6 (by unfold Light; exact hw.2.2.2.2.2.2.1)
 unfold encS at e0
 unfold encI at e1 e2 e3 e4 e5
 simp only [List.cons.injEq, and_true] at e0 e1 e2 e3 e4 e5 e6
 subst e0 e1 e2 e3 e4 e5 e6
 exact ⟨⟨s, a1, a2, a3, a4, a5, p, c, l⟩, rfl, hs, hb, r1, r2, r3, r4, r5, hi⟩
theorem open_ruleD (h : DataW.trod enc Tryz.prog w 0 (fun _ => true) true fuel 63 cs = some x) (hw : Light 63 x.1) : ∃ y : RuleM, cs = encRule y ∧ RuleR w y := by
 obtain ⟨xs, n, rfl, rfl, hl, hxl, hf⟩ := DataW.trod_struct Tryz.underlying63 h
 obtain ⟨v0, v1, v2, v3, v4, v5, v6, rfl⟩ := one7 (hl.trans (show Tryz.prog.cellsOf 63 = 7 by kernel_rfl))
 obtain ⟨x0, x1, x2, x3, x4, x5, x6, rfl⟩ := one7 hxl
 have f0 : DataW.trod enc Tryz.prog w 0 (fun _ => true) true n 3 [v0] = some x0 := by simpa [cS, cI, cL, cB] using hf 0 _ rfl
 have f1 : DataW.trod enc Tryz.prog w 0 (fun _ => true) true n 3 [v1] = some x1 := by simpa [cS, cI, cL, cB] using hf 1 _ rfl
 have f2 : DataW.trod enc Tryz.prog w 0 (fun _ => true) true n 3 [v2] = some x2 := by simpa [cS, cI, cL, cB] using hf 2 _ rfl
 have f3 : DataW.trod enc Tryz.prog w 0 (fun _ => true) true n 3 [v3] = some x3 := by simpa [cS, cI, cL, cB] using hf 3 _ rfl
 have f4 : DataW.trod enc Tryz.prog w 0 (fun _ => true) true n 3 [v4] = some x4 := by simpa [cS, cI, cL, cB] using hf 4 _ rfl
 have f5 : DataW.trod enc Tryz.prog w 0 (fun _ => true) true n 4 [v5] = some x5 := by simpa [cS, cI, cL, cB] using hf 5 _ rfl
 have f6 : DataW.trod enc Tryz.prog w 0 (fun _ => true) true n 59 [v6] = some x6 := by simpa [cS, cI, cL, cB] using hf 6 _ rfl
 unfold Light at hw
 simp only [DataW.weights, Tryz.underlying63, List.map_cons, List.map_nil, DataW.weightsEach, List.all_append, Bool.and_eq_true] at hw
 obtain ⟨a0, e0, r0⟩ := open_I f0
 obtain ⟨a1, e1, r1⟩ := open_I f1
 obtain ⟨a2, e2, r2⟩ := open_I f2
 obtain ⟨a3, e3, r3⟩ := open_I f3
 obtain ⟨a4, e4, r4⟩ := open_I f4
 obtain ⟨a5, e5, _⟩ := DataW.trod_bool Tryz.underlying4 f5
 obtain ⟨p, l, c, e6, hs, hb, hi⟩ := open_intsL f6 (by unfold Light; exact hw.2.2.2.2.2.2.1)
 unfold encI at e0 e1 e2 e3 e4
 simp only [List.cons.injEq, and_true] at e0 e1 e2 e3 e4 e5 e6
 subst e0 e1 e2 e3 e4 e5 e6
 exact ⟨⟨a0, a1, a2, a3, a4, a5, p, c, l⟩, rfl, hs, hb, r0, r1, r2, r3, r4⟩
theorem cM0 : Tryz.prog.cellsOf 22 = 1 := by kernel_rfl
theorem cM1 : Tryz.prog.cellsOf 23 = 1 ∧ Tryz.prog.cellsOf 24 = 1 := ⟨by kernel_rfl, by kernel_rfl⟩
theorem cM2 : Tryz.prog.cellsOf 25 = 1 := by kernel_rfl
theorem cM3 : Tryz.prog.cellsOf 26 = 1 := by kernel_rfl
theorem cM4 : Tryz.prog.cellsOf 27 = 1 := by kernel_rfl
structure MdlR (M : Mdl) : Prop where
 racks : ∀ y ∈ M.racks, I64 y.site ∧ I64 y.feed
 machs : ∀ y ∈ M.machs, I64 y.rack ∧ I64 y.cap
 links : ∀ y ∈ M.links, I64 y.a ∧ I64 y.b ∧ I64 y.cap
 items : ∀ y ∈ M.items, I64 y.kind ∧ I64 y.count ∧ I64 y.load ∧ I64 y.size ∧ I64 y.share ∧ ∀ n ∈ y.on, I64 n
 rules : ∀ y ∈ M.rules, I64 y.kind ∧ I64 y.item ∧ I64 y.other ∧ I64 y.n ∧ I64 y.bye
 dark : I64 M.dark
 slots : I64 M.slots
 reserve : I64 M.reserve
 failures : I64 M.failures
set_option maxRecDepth 100000 in
set_option maxHeartbeats 800000 in
theorem open_model {r : Reach} {b0 : Nat} {v : Value} {d : DataW H} {p : List MemPlace} (hv : Value.okWide Tryz.prog w r b0 29 v) (h : DataW.Trod enc Tryz.prog w 0 (fun _ => true) true 29 v d p) (hw : Light 29 d) :
  ∃ P M, v = .agg (mcells P M) ∧ MdlAt w P M ∧ MdlR M := by
 obtain ⟨cs, rfl, hsz⟩ := okWide_struct Tryz.underlying29 hv
 obtain ⟨fuel, h⟩ := h
 obtain ⟨xs, n, rfl, hx, hl, hxl, hf⟩ := DataW.trod_struct Tryz.underlying29 h
 obtain ⟨rfl, rfl⟩ := Prod.mk.inj hx
 have hcs : (Value.agg cs).cells.toList = cs.toList := rfl
 rw [hcs] at hl hf
 obtain ⟨v0, v1, v2, v3, v4, v5, v6, v7, v8, v9, v10, hv11⟩ := one11 (hl.trans (show Tryz.prog.cellsOf 29 = 11 by kernel_rfl))
 obtain ⟨x0, x1, x2, x3, x4, x5, x6, x7, x8, x9, x10, rfl⟩ := one11 hxl
 rw [hv11] at hf
 have f0 : DataW.trod enc Tryz.prog w 0 (fun _ => true) true n 22 [v0] = some x0 := by simpa [cS, cI, cL, cB, cM0, cM1.1, cM1.2, cM2, cM3, cM4] using hf 0 _ rfl
 have f1 : DataW.trod enc Tryz.prog w 0 (fun _ => true) true n 22 [v1] = some x1 := by simpa [cS, cI, cL, cB, cM0, cM1.1, cM1.2, cM2, cM3, cM4] using hf 1 _ rfl
 have f2 : DataW.trod enc Tryz.prog w 0 (fun _ => true) true n 23 [v2] = some x2 := by simpa [cS, cI, cL, cB, cM0, cM1.1, cM1.2, cM2, cM3, cM4] using hf 2 _ rfl
 have f3 : DataW.trod enc Tryz.prog w 0 (fun _ => true) true n 24 [v3] = some x3 := by simpa [cS, cI, cL, cB, cM0, cM1.1, cM1.2, cM2, cM3, cM4] using hf 3 _ rfl
 have f4 : DataW.trod enc Tryz.prog w 0 (fun _ => true) true n 25 [v4] = some x4 := by simpa [cS, cI, cL, cB, cM0, cM1.1, cM1.2, cM2, cM3, cM4] using hf 4 _ rfl
 have f5 : DataW.trod enc Tryz.prog w 0 (fun _ => true) true n 26 [v5] = some x5 := by simpa [cS, cI, cL, cB, cM0, cM1.1, cM1.2, cM2, cM3, cM4] using hf 5 _ rfl
 have f6 : DataW.trod enc Tryz.prog w 0 (fun _ => true) true n 3 [v6] = some x6 := by simpa [cS, cI, cL, cB, cM0, cM1.1, cM1.2, cM2, cM3, cM4] using hf 6 _ rfl
 have f7 : DataW.trod enc Tryz.prog w 0 (fun _ => true) true n 3 [v7] = some x7 := by simpa [cS, cI, cL, cB, cM0, cM1.1, cM1.2, cM2, cM3, cM4] using hf 7 _ rfl
 have f8 : DataW.trod enc Tryz.prog w 0 (fun _ => true) true n 3 [v8] = some x8 := by simpa [cS, cI, cL, cB, cM0, cM1.1, cM1.2, cM2, cM3, cM4] using hf 8 _ rfl
 have f9 : DataW.trod enc Tryz.prog w 0 (fun _ => true) true n 3 [v9] = some x9 := by simpa [cS, cI, cL, cB, cM0, cM1.1, cM1.2, cM2, cM3, cM4] using hf 9 _ rfl
 have f10 : DataW.trod enc Tryz.prog w 0 (fun _ => true) true n 27 [v10] = some x10 := by simpa [cS, cI, cL, cB, cM0, cM1.1, cM1.2, cM2, cM3, cM4] using hf 10 _ rfl
 unfold Light at hw
 simp only [DataW.weights, Tryz.underlying29, List.map_cons, List.map_nil, DataW.weightsEach, List.all_append, Bool.and_eq_true] at hw
 obtain ⟨w0, w1, w2, w3, w4, w5, _, _, _, _, w10, _⟩ := hw
 obtain ⟨p0, l0, c0, e0, s0, b0⟩ := open_strs f0 (by unfold Light; exact w0)
 obtain ⟨p1, l1, c1, e1, s1, b1⟩ := open_strs f1 (by unfold Light; exact w1)
 obtain ⟨p2, l2, c2, e2, s2, b2, r2⟩ := open_row Tryz.underlying23 (show Tryz.prog.cellsOf 56 = 3 by kernel_rfl) (by decide) (of_decide_eq_true (by kernel_rfl)) encRack_len (fun _ _ _ h hw => open_rack h hw) f2 (by unfold Light; exact w2)
 obtain ⟨p3, l3, c3, e3, s3, b3, r3⟩ := open_row Tryz.underlying24 (show Tryz.prog.cellsOf 58 = 3 by kernel_rfl) (by decide) (of_decide_eq_true (by kernel_rfl)) encMach_len (fun _ _ _ h hw => open_mach h hw) f3 (by unfold Light; exact w3)
 obtain ⟨p4, l4, c4, e4, s4, b4, r4⟩ := open_row Tryz.underlying25 (show Tryz.prog.cellsOf 117 = 3 by kernel_rfl) (by decide) (of_decide_eq_true (by kernel_rfl)) encLink_len (fun _ _ _ h hw => open_link h hw) f4 (by unfold Light; exact w4)
 obtain ⟨p5, l5, c5, e5, s5, b5, r5⟩ := open_row Tryz.underlying26 (show Tryz.prog.cellsOf 61 = 7 by kernel_rfl) (by decide) (of_decide_eq_true (by kernel_rfl)) encItem_len (fun _ _ _ h hw => open_itemD h hw) f5 (by unfold Light; exact w5)
 obtain ⟨a6, e6, r6⟩ := open_I f6
 obtain ⟨a7, e7, r7⟩ := open_I f7
 obtain ⟨a8, e8, r8⟩ := open_I f8
 obtain ⟨a9, e9, r9⟩ := open_I f9
 obtain ⟨p10, l10, c10, e10, s10, b10, r10⟩ := open_row Tryz.underlying27 (show Tryz.prog.cellsOf 63 = 7 by kernel_rfl) (by decide) (of_decide_eq_true (by kernel_rfl)) encRule_len (fun _ _ _ h hw => open_ruleD h hw) f10 (by unfold Light; exact w10)
 unfold encI at e6 e7 e8 e9
 simp only [List.cons.injEq, and_true] at e0 e1 e2 e3 e4 e5 e6 e7 e8 e9 e10
 subst e0 e1 e2 e3 e4 e5 e6 e7 e8 e9 e10
 refine ⟨⟨p0, c0, p1, c1, p2, c2, p3, c3, p4, c4, p5, c5, p10, c10⟩, ⟨l0, l1, l2, l3, l4, l5, a6, a7, a8, a9, l10⟩, ?_, ⟨s0, s1, s2, s3, s4, s5, s10, fun x hx => (r5 x hx).1, fun x hx => (r10 x hx).1, ⟨b0, b1, b2, b3, b4, b5, b10⟩, fun x hx => (r5 x hx).2.1, fun x hx => (r10 x hx).2.1⟩,
  ⟨r2, r3, r4, fun x hx => (r5 x hx).2.2, fun x hx => (r10 x hx).2.2, r6, r7, r8, r9⟩⟩
 unfold mcells
 congr 1
 apply Array.ext'
 exact hv11
end
end Go.Proofs.YtnlocdijdfclcaaGreatDoor
namespace Go.Proofs.YtnlocdijdfclcaaGreatDoor
open Go.ChangeShapes Go.WideShapes Go.ChangeAt Go.RowKit Go.Joins
set_option linter.unusedVariables false
set_option linter.unusedSimpArgs false

theorem own : ownKnob Tryz.prog.godebug = none := by kernel_rfl
theorem laidOut : laidOutB Tryz.prog = true := by kernel_rfl
def laidL : List (String × DataW Unit) := [("unicode.White_Space", Rows.laid_unicode_White_Space), ("strings.asciiSpace", Rows.laid_strings_asciiSpace)]
theorem gTab : Tryz.prog.globalNamed "strings.asciiSpace" = some 0 := by kernel_rfl
theorem tTab : (Tryz.prog.globals[0]?).map (·.type) = some 157 := by kernel_rfl
set_option maxRecDepth 100000 in
theorem door_met (os : Os) (args : Array Value) : laidMetH Tryz.prog laidL ((World.doorLaid Tryz.prog 400 os).forCall (fun _ _ => 0) ⟨#[], args, []⟩).memory :=
 laidMetH_of_parts3 (fuel := 8) (laidMet_of_run' 8 (by kernel_rfl) (by kernel_rfl)) (by kernel_rfl) (by kernel_rfl)
set_option maxRecDepth 100000 in
theorem tab_of {W : World} (h : laidMetH Tryz.prog laidL W) : Tab W := by
 rw [MakeChecks.laidMetH_plain _ _ _ (by kernel_rfl)] at h
 have h2 := laidMet.tail h
 exact Lib.tabIs_of_head (n := 256) gTab tTab Tryz.underlying157 Tryz.underlying5 (by kernel_rfl) (by kernel_rfl) h2
end Go.Proofs.YtnlocdijdfclcaaGreatDoor

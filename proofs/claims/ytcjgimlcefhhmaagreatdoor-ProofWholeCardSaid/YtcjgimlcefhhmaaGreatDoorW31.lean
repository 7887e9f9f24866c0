/- Texts: LnA LnC PsO. -/
import Derived.Laws.RangeAny
import Derived.Test.YtcjgimlcefhhmaaGreatDoorW4
import Derived.Test.YtcjgimlcefhhmaaGreatDoorW16
import Derived.Test.YtcjgimlcefhhmaaGreatDoorW18
import Derived.Test.YtcjgimlcefhhmaaGreatDoorW21
import Derived.Test.YtcjgimlcefhhmaaGreatDoorW30
set_option linter.unusedVariables false
set_option linter.unusedSimpArgs false
set_option maxRecDepth 100000
set_option maxHeartbeats 12800000
namespace Go.Proofs.YtcjgimlcefhhmaaGreatDoor
namespace Prf
open Go.RowKit Go.Lib
def PrdV {α : Type} (w : World) (v : Value) (mk : α → Value) (l : List α) (ok : α → Prop) : Prop := ∃ (f : Nat) (caps : Array Value), v = .func (.func f) #[] caps ∧ (∀ args w, (callFunc f args).run Tryz.prog w = .ok (.enter f args) w) ∧
 ∀ w', Gr w w' → ∀ x ∈ l, Calls Tryz.prog f (#[mk x] ++ caps) w' (Ret w' fun r _ => ξ1 (ok x) r)
def mkI (n : Int) : Value := .int .i64 n
theorem ξ9E {w : World} {p : Option Addr} {n c : Nat} {l : List RowM} (h : SlL w 5 encRow (.slice p n c) l) (hn : l.length = n) {k : Nat} (hk : k < n) :
  ∃ b o x, p = some ⟨b, o, none⟩ ∧ l[k]? = some x ∧ ∀ w', Gr w w' → ξ80 w' b (o + k * 5) x := by
 obtain ⟨b, o, x, hp, hx, hc⟩ := h.at ξD hn hk
 exact ⟨b, o, x, hp, hx, fun w' g => ⟨hc 0 _ rfl w' g, hc 1 _ rfl w' g, hc 2 _ rfl w' g, hc 3 _ rfl w' g, hc 4 _ rfl w' g⟩⟩
def mkVar (x : VarM) : Value := .agg (encVar x).toArray
theorem ξ7F (w : World) (p : Option Addr) (n c : Nat) (l : List Int) (v : Value) (ok : Int → Prop) (hl : SlL w 1 encI (.slice p n c) l) (hn : l.length = n) (hb : n ≤ 100000000000000) (hv : PrdV w v mkI l ok) :
  Calls Tryz.prog 197 #[.slice p n c, v] w (Ret w fun r _ => ∃ z : Int, r = .int .i64 z ∧ (0 ≤ z ↔ ∃ x ∈ l, ok x)) := by
 obtain ⟨f, caps, rfl, he, h5⟩ := hv
 have H5 := ξ h5
 have HL := ξ hl
 have HN := ξ hn
 clear h5 hl hn
 go_enter Tryz.func197, Tryz.ntmps197
 go_wp2_with fail
 go_loopw [8] (fun i w1 => ∃ k : Nat, i = .int .i64 k ∧ k ≤ n ∧ (∀ j x, j < k → l[j]? = some x → ¬ ok x) ∧ Gr w w1) (fun i _ => n - (RowKit.intOf i).toNat)
 case atStart => exact ⟨0, rfl, Nat.zero_le _, fun j x hj => by omega, Gr.refl _⟩
 case round =>
  obtain ⟨k, rfl, hk, hp, hg⟩ := hrel
  have Hp := ξ hp
  have G := ξ hg
  clear hp hg
  by_cases hlt : k < n
  ·have hlt' : (k : Int) < (n : Int) := by omega
   obtain ⟨b, o, x, rfl, hx, hc⟩ := ξ1f HL.out HN.out hlt
   have HX := ξ hx
   obtain c0 := hc wr G.out
   clear hc hx
   go_wp2_with fail
   refine (H5.out wr G.out x (List.mem_of_getElem? HX.out)).mono ?_
   rintro _ w2 ⟨r2, rfl, g2, h2⟩
   have G := ξ (G.out.trans g2)
   obtain ⟨t, rfl, ht⟩ := h2
   have Ht := ξ ht
   clear g2 ht
   cases t
   ·go_wp2_with fail
    refine ⟨⟨k + 1, by go_num, by omega, fun j y hj hy => ?_, G.out⟩, by simp [RowKit.intOf]; omega⟩
    by_cases e : j = k
    ·subst e
     rw [HX.out] at hy
     cases hy
     exact fun h => absurd (Ht.out.2 h) (by decide)
    ·exact Hp.out j y (by omega) hy
   ·go_wp2_with fail
    go_ret
    exact ⟨_, rfl, G.out, (k : Int), rfl, ⟨fun _ => ⟨x, List.mem_of_getElem? HX.out, (by have := Ht.out; simpa using this)⟩, fun _ => by omega⟩⟩
  ·obtain rfl : n = k := by omega
   go_wp2_with fail
   go_ret
   refine ⟨_, rfl, G.out, -1, rfl, ⟨fun h => absurd h (by decide), fun ⟨x, hx, h⟩ => ?_⟩⟩
   obtain ⟨j, hj, e⟩ := List.mem_iff_getElem.1 hx
   exact absurd h (Hp.out j x (by rw [HN.out] at hj; exact hj) (by rw [List.getElem?_eq_getElem hj, e]))
theorem ξ5B (w : World) (p : Option Addr) (n c : Nat) (l : List Int) (v : Value) (ok : Int → Prop) (hl : SlL w 1 encI (.slice p n c) l) (hn : l.length = n) (hb : n ≤ 100000000000000) (hv : PrdV w v mkI l ok) :
  Calls Tryz.prog 136 #[.slice p n c, v] w (Ret w fun r _ => ξ1 (∃ x ∈ l, ok x) r) := by
 have H := ξ (ξ7F w p n c l v ok hl hn hb hv)
 obtain ⟨f, caps, rfl, he, h5⟩ := hv
 clear hl hn h5
 go_enter Tryz.func136, Tryz.ntmps136
 go_wp2_with fail
 refine H.out.mono ?_
 rintro _ w2 ⟨_, rfl, g2, z, rfl, hz⟩
 have G := ξ g2
 have Hz := ξ hz
 clear g2 hz
 go_wp2_with fail
 go_ret
 exact ⟨_, rfl, G.out, decide (0 ≤ z), rfl, by rw [← Hz.out]; simp⟩
theorem ξ9B (w : World) (p : Option Addr) (n c : Nat) (l : List Int) (v : Value) (ok : Int → Prop) (hl : SlL w 1 encI (.slice p n c) l) (hn : l.length = n) (hb : n ≤ 100000000000000) (hv : PrdV w v mkI l ok) :
  Calls Tryz.prog 184 #[.slice p n c, v] w (Ret w fun r _ => ∃ z : Int, r = .int .i64 z ∧ (0 ≤ z ↔ ∃ x ∈ l, ok x)) := by
 obtain ⟨f, caps, rfl, he, h5⟩ := hv
 have H5 := ξ h5
 have HL := ξ hl
 have HN := ξ hn
 clear h5 hl hn
 go_enter Tryz.func184, Tryz.ntmps184
 go_wp2_with fail
 go_loopw [8] (fun i w1 => ∃ k : Nat, i = .int .i64 k ∧ k ≤ n ∧ (∀ j x, j < k → l[j]? = some x → ¬ ok x) ∧ Gr w w1) (fun i _ => n - (RowKit.intOf i).toNat)
 case atStart => exact ⟨0, rfl, Nat.zero_le _, fun j x hj => by omega, Gr.refl _⟩
 case round =>
  obtain ⟨k, rfl, hk, hp, hg⟩ := hrel
  have Hp := ξ hp
  have G := ξ hg
  clear hp hg
  by_cases hlt : k < n
  ·have hlt' : (k : Int) < (n : Int) := by omega
   obtain ⟨b, o, x, rfl, hx, hc⟩ := ξ1f HL.out HN.out hlt
   have HX := ξ hx
   obtain c0 := hc wr G.out
   clear hc hx
   go_wp2_with fail
   refine (H5.out wr G.out x (List.mem_of_getElem? HX.out)).mono ?_
   rintro _ w2 ⟨r2, rfl, g2, h2⟩
   have G := ξ (G.out.trans g2)
   obtain ⟨t, rfl, ht⟩ := h2
   have Ht := ξ ht
   clear g2 ht
   cases t
   ·go_wp2_with fail
    refine ⟨⟨k + 1, by go_num, by omega, fun j y hj hy => ?_, G.out⟩, by simp [RowKit.intOf]; omega⟩
    by_cases e : j = k
    ·subst e
     rw [HX.out] at hy
     cases hy
     exact fun h => absurd (Ht.out.2 h) (by decide)
    ·exact Hp.out j y (by omega) hy
   ·go_wp2_with fail
    go_ret
    exact ⟨_, rfl, G.out, (k : Int), rfl, ⟨fun _ => ⟨x, List.mem_of_getElem? HX.out, (by have := Ht.out; simpa using this)⟩, fun _ => by omega⟩⟩
  ·obtain rfl : n = k := by omega
   go_wp2_with fail
   go_ret
   refine ⟨_, rfl, G.out, -1, rfl, ⟨fun h => absurd h (by decide), fun ⟨x, hx, h⟩ => ?_⟩⟩
   obtain ⟨j, hj, e⟩ := List.mem_iff_getElem.1 hx
   exact absurd h (Hp.out j x (by rw [HN.out] at hj; exact hj) (by rw [List.getElem?_eq_getElem hj, e]))
theorem ξ7m (w : World) (p : Option Addr) (n c : Nat) (l : List Int) (v : Value) (ok : Int → Prop) (hl : SlL w 1 encI (.slice p n c) l) (hn : l.length = n) (hb : n ≤ 100000000000000) (hv : PrdV w v mkI l ok) :
  Calls Tryz.prog 121 #[.slice p n c, v] w (Ret w fun r _ => ξ1 (∃ x ∈ l, ok x) r) := by
 have H := ξ (ξ9B w p n c l v ok hl hn hb hv)
 obtain ⟨f, caps, rfl, he, h5⟩ := hv
 clear hl hn h5
 go_enter Tryz.func121, Tryz.ntmps121
 go_wp2_with fail
 refine H.out.mono ?_
 rintro _ w2 ⟨_, rfl, g2, z, rfl, hz⟩
 have G := ξ g2
 have Hz := ξ hz
 clear g2 hz
 go_wp2_with fail
 go_ret
 exact ⟨_, rfl, G.out, decide (0 ≤ z), rfl, by rw [← Hz.out]; simp⟩
theorem ξ9T (w : World) (p : Option Addr) (n c : Nat) (l : List RowM) (v : Value) (ok : RowM → Prop) (hl : SlL w 5 encRow (.slice p n c) l) (hn : l.length = n) (hb : n ≤ 100000000000000) (hv : PrdV w v rowV l ok) :
  Calls Tryz.prog 138 #[.slice p n c, v] w (Ret w fun r _ => ∃ z : Int, r = .int .i64 z ∧ (0 ≤ z ↔ ∃ x ∈ l, ok x)) := by
 obtain ⟨f, caps, rfl, he, h5⟩ := hv
 have H5 := ξ h5
 have HL := ξ hl
 have HN := ξ hn
 clear h5 hl hn
 go_enter Tryz.func138, Tryz.ntmps138
 go_wp2_with fail
 go_loopw [8] (fun i w1 => ∃ k : Nat, i = .int .i64 k ∧ k ≤ n ∧ (∀ j x, j < k → l[j]? = some x → ¬ ok x) ∧ Gr w w1) (fun i _ => n - (RowKit.intOf i).toNat)
 case atStart => exact ⟨0, rfl, Nat.zero_le _, fun j x hj => by omega, Gr.refl _⟩
 case round =>
  obtain ⟨k, rfl, hk, hp, hg⟩ := hrel
  have Hp := ξ hp
  have G := ξ hg
  clear hp hg
  by_cases hlt : k < n
  ·have hlt' : (k : Int) < (n : Int) := by omega
   obtain ⟨b, o, x, rfl, hx, hc⟩ := ξ9E HL.out HN.out hlt
   have HX := ξ hx
   obtain ⟨c0, c1, c2, c3, c4⟩ := hc wr G.out
   clear hc hx
   go_wp2_with fail
   refine (H5.out wr G.out x (List.mem_of_getElem? HX.out)).mono ?_
   rintro _ w2 ⟨r2, rfl, g2, h2⟩
   have G := ξ (G.out.trans g2)
   obtain ⟨t, rfl, ht⟩ := h2
   have Ht := ξ ht
   clear g2 ht
   cases t
   ·go_wp2_with fail
    refine ⟨⟨k + 1, by go_num, by omega, fun j y hj hy => ?_, G.out⟩, by simp [RowKit.intOf]; omega⟩
    by_cases e : j = k
    ·subst e
     rw [HX.out] at hy
     cases hy
     exact fun h => absurd (Ht.out.2 h) (by decide)
    ·exact Hp.out j y (by omega) hy
   ·go_wp2_with fail
    go_ret
    exact ⟨_, rfl, G.out, (k : Int), rfl, ⟨fun _ => ⟨x, List.mem_of_getElem? HX.out, (by have := Ht.out; simpa using this)⟩, fun _ => by omega⟩⟩
  ·obtain rfl : n = k := by omega
   go_wp2_with fail
   go_ret
   refine ⟨_, rfl, G.out, -1, rfl, ⟨fun h => absurd h (by decide), fun ⟨x, hx, h⟩ => ?_⟩⟩
   obtain ⟨j, hj, e⟩ := List.mem_iff_getElem.1 hx
   exact absurd h (Hp.out j x (by rw [HN.out] at hj; exact hj) (by rw [List.getElem?_eq_getElem hj, e]))
theorem ξ6r (w : World) (p : Option Addr) (n c : Nat) (l : List RowM) (v : Value) (ok : RowM → Prop) (hl : SlL w 5 encRow (.slice p n c) l) (hn : l.length = n) (hb : n ≤ 100000000000000) (hv : PrdV w v rowV l ok) :
  Calls Tryz.prog 85 #[.slice p n c, v] w (Ret w fun r _ => ξ1 (∃ x ∈ l, ok x) r) := by
 have H := ξ (ξ9T w p n c l v ok hl hn hb hv)
 obtain ⟨f, caps, rfl, he, h5⟩ := hv
 clear hl hn h5
 go_enter Tryz.func85, Tryz.ntmps85
 go_wp2_with fail
 refine H.out.mono ?_
 rintro _ w2 ⟨_, rfl, g2, z, rfl, hz⟩
 have G := ξ g2
 have Hz := ξ hz
 clear g2 hz
 go_wp2_with fail
 go_ret
 exact ⟨_, rfl, G.out, decide (0 ≤ z), rfl, by rw [← Hz.out]; simp⟩
theorem ξ9Y (w : World) (p : Option Addr) (n c : Nat) (l : List VarM) (v : Value) (ok : VarM → Prop) (hl : SlL w 5 encVar (.slice p n c) l) (hn : l.length = n) (hb : n ≤ 100000000000000) (hv : PrdV w v mkVar l ok) :
  Calls Tryz.prog 88 #[.slice p n c, v] w (Ret w fun r _ => ∃ z : Int, r = .int .i64 z ∧ (0 ≤ z ↔ ∃ x ∈ l, ok x)) := by
 obtain ⟨f, caps, rfl, he, h5⟩ := hv
 have H5 := ξ h5
 have HL := ξ hl
 have HN := ξ hn
 clear h5 hl hn
 go_enter Tryz.func88, Tryz.ntmps88
 go_wp2_with fail
 go_loopw [8] (fun i w1 => ∃ k : Nat, i = .int .i64 k ∧ k ≤ n ∧ (∀ j x, j < k → l[j]? = some x → ¬ ok x) ∧ Gr w w1) (fun i _ => n - (RowKit.intOf i).toNat)
 case atStart => exact ⟨0, rfl, Nat.zero_le _, fun j x hj => by omega, Gr.refl _⟩
 case round =>
  obtain ⟨k, rfl, hk, hp, hg⟩ := hrel
  have Hp := ξ hp
  have G := ξ hg
  clear hp hg
  by_cases hlt : k < n
  ·have hlt' : (k : Int) < (n : Int) := by omega
   obtain ⟨b, o, x, rfl, hx, hc⟩ := ξ24 HL.out HN.out hlt
   have HX := ξ hx
   obtain ⟨c0, c1, c2, c3, c4⟩ := hc wr G.out
   clear hc hx
   go_wp2_with fail
   refine (H5.out wr G.out x (List.mem_of_getElem? HX.out)).mono ?_
   rintro _ w2 ⟨r2, rfl, g2, h2⟩
   have G := ξ (G.out.trans g2)
   obtain ⟨t, rfl, ht⟩ := h2
   have Ht := ξ ht
   clear g2 ht
   cases t
   ·go_wp2_with fail
    refine ⟨⟨k + 1, by go_num, by omega, fun j y hj hy => ?_, G.out⟩, by simp [RowKit.intOf]; omega⟩
    by_cases e : j = k
    ·subst e
     rw [HX.out] at hy
     cases hy
     exact fun h => absurd (Ht.out.2 h) (by decide)
    ·exact Hp.out j y (by omega) hy
   ·go_wp2_with fail
    go_ret
    exact ⟨_, rfl, G.out, (k : Int), rfl, ⟨fun _ => ⟨x, List.mem_of_getElem? HX.out, (by have := Ht.out; simpa using this)⟩, fun _ => by omega⟩⟩
  ·obtain rfl : n = k := by omega
   go_wp2_with fail
   go_ret
   refine ⟨_, rfl, G.out, -1, rfl, ⟨fun h => absurd h (by decide), fun ⟨x, hx, h⟩ => ?_⟩⟩
   obtain ⟨j, hj, e⟩ := List.mem_iff_getElem.1 hx
   exact absurd h (Hp.out j x (by rw [HN.out] at hj; exact hj) (by rw [List.getElem?_eq_getElem hj, e]))
theorem ξ7v (w : World) (p : Option Addr) (n c : Nat) (l : List VarM) (v : Value) (ok : VarM → Prop) (hl : SlL w 5 encVar (.slice p n c) l) (hn : l.length = n) (hb : n ≤ 100000000000000) (hv : PrdV w v mkVar l ok) :
  Calls Tryz.prog 41 #[.slice p n c, v] w (Ret w fun r _ => ξ1 (∃ x ∈ l, ok x) r) := by
 have H := ξ (ξ9Y w p n c l v ok hl hn hb hv)
 obtain ⟨f, caps, rfl, he, h5⟩ := hv
 clear hl hn h5
 go_enter Tryz.func41, Tryz.ntmps41
 go_wp2_with fail
 refine H.out.mono ?_
 rintro _ w2 ⟨_, rfl, g2, z, rfl, hz⟩
 have G := ξ g2
 have Hz := ξ hz
 clear g2 hz
 go_wp2_with fail
 go_ret
 exact ⟨_, rfl, G.out, decide (0 ≤ z), rfl, by rw [← Hz.out]; simp⟩
theorem ξcs (w : World) (n : Int) : Calls Tryz.prog 137 (#[mkI n] ++ #[]) w (Ret w fun r _ => ξ1 (¬ In n) r) := by
 show Calls _ _ #[.int .i64 n] _ _
 by_cases h1 : n < -1099511627776
 ·have H := ξ (show ¬ In n from fun h => by have := h.1; omega)
  go_enter Tryz.func137, Tryz.ntmps137
  go_wp2_with fail
  go_ret
  exact ⟨_, rfl, Gr.refl _, ξ1.yes H.out⟩
 ·by_cases h2 : 1099511627776 < n
  ·have H := ξ (show ¬ In n from fun h => by have := h.2; omega)
   go_enter Tryz.func137, Tryz.ntmps137
   go_wp2_with fail
   go_ret
   exact ⟨_, rfl, Gr.refl _, ξ1.yes H.out⟩
  ·have H := ξ (show ¬ ¬ In n from fun h => h ⟨by omega, by omega⟩)
   go_enter Tryz.func137, Tryz.ntmps137
   go_wp2_with fail
   go_ret
   exact ⟨_, rfl, Gr.refl _, ξ1.no H.out⟩
theorem ξ3Y (w : World) (p : Option Addr) (n c : Nat) (l : List Int) (hl : ξ1d w (.slice p n c) l) (hn : l.length = n) (hb : n ≤ 1000000) :
  Calls Tryz.prog 84 #[.slice p n c] w (Ret w fun r _ => ξ1 (∀ x ∈ l, In x) r) := by
 have H := ξ (ξ5B w p n c l (.func (.func 137) #[] #[]) (fun x => ¬ In x) hl hn (by omega) ⟨_, _, rfl, enters_of Tryz.func137 (by kernel_rfl) rfl, fun w' _ x _ => ξcs w' x⟩)
 clear hl hn
 go_enter Tryz.func84, Tryz.ntmps84
 go_wp2_with fail
 refine H.out.mono ?_
 rintro _ w2 ⟨r, rfl, g2, h⟩
 have G := ξ g2
 clear g2
 rcases h.cases with ⟨rfl, k1⟩ | ⟨rfl, k1⟩
 ·have HN := ξ (show ¬ ∀ x ∈ l, In x from fun q => by obtain ⟨x, hx, h⟩ := k1; exact h (q x hx))
  clear h k1
  go_wp2_with fail
  go_ret
  exact ⟨_, rfl, G.out, ξ1.no HN.out⟩
 ·have HN := ξ (show ∀ x ∈ l, In x from fun x hx => Classical.not_not.1 fun h => k1 ⟨x, hx, h⟩)
  clear h k1
  go_wp2_with fail
  go_ret
  exact ⟨_, rfl, G.out, ξ1.yes HN.out⟩
theorem ξ64 : ∀ l : List Int, l.flatMap encI = l.map fun n => Value.int .i64 n
 | [] => rfl
 | a :: l => by rw [List.flatMap_cons, List.map_cons, ξ64 l]; rfl
theorem ξ3t {w : World} {b : Nat} {l : List Int} {vs : Array Value} (h : ξ0 w b vs) (hv : vs = (l.map fun n => Value.int .i64 n).toArray) (hl : l.length ≤ 1000000) : ξ1d w (.slice (some ⟨b, 0, none⟩) l.length l.length) l := by
 subst hv
 have e := ξ64 l
 refine ⟨by rw [e]; simp, _, l.length, rfl, Nat.le_refl _, by omega, .inr ⟨b, 0, rfl, fun j u hj => ?_⟩⟩
 rw [e] at hj
 rw [Nat.zero_add]
 exact h.at j (by simpa using hj)
def offText (r : Nat) : Bool := decide (r < 32) || decide (126 < r)
def inText (c : UInt8) : Bool := decide (32 ≤ c) && decide (c ≤ 126)
theorem ξ4R (c : UInt8) : offText c.toNat = !inText c := by
 unfold offText inText
 have h1 : (32 ≤ c) ↔ 32 ≤ c.toNat := by rw [UInt8.le_iff_toNat_le]; rfl
 have h2 : (c ≤ 126) ↔ c.toNat ≤ 126 := by rw [UInt8.le_iff_toNat_le]; rfl
 by_cases a : 32 ≤ c.toNat <;> by_cases b : c.toNat ≤ 126 <;> simp [h1, h2, a, b] <;> omega
theorem ξ3X {r : Nat} (h : 128 ≤ r) : offText r = true := by
 unfold offText
 have h1 : 126 < r := by omega
 simp [h1]
theorem ξ5D (bs : List UInt8) : ∀ (f pos : Nat), pos ≤ bs.length → bs.length - pos ≤ f → (0 ≤ idxFuncFrom offText true ⟨bs.toArray⟩ f pos ↔ (bs.drop pos).all inText = false)
 | 0, pos, h, hf => by
  have : bs.drop pos = [] := List.drop_eq_nil_of_le (by omega)
  rw [this]
  simp [idxFuncFrom]
 | f + 1, pos, h, hf => by
  have hz : (⟨bs.toArray⟩ : ByteArray).size = bs.length := by simp [ByteArray.size]
  rcases Nat.lt_or_ge pos bs.length with hlt | hge
  ·have hp : pos < (⟨bs.toArray⟩ : ByteArray).size := by rw [hz]; exact hlt
   have hb : (⟨bs.toArray⟩ : ByteArray)[pos]'hp = bs[pos] := by show bs.toArray[pos] = _; simp
   have hd : bs.drop pos = bs[pos] :: bs.drop (pos + 1) := List.drop_eq_getElem_cons hlt
   unfold idxFuncFrom
   rw [if_pos hp, hd, List.all_cons]
   rcases Nat.lt_or_ge (bs[pos]).toNat 128 with ha | ha
   ·rw [decode_ascii _ pos hp (by rw [hb]; exact ha), hb]
    show (0 ≤ if offText (bs[pos]).toNat = true then (pos : Int) else idxFuncFrom offText true ⟨bs.toArray⟩ f (pos + 1)) ↔ _
    rw [ξ4R]
    cases hw : inText bs[pos]
    ·simp
    ·simp only [Bool.not_true, Bool.false_eq_true, if_false, Bool.true_and]
     exact ξ5D bs f (pos + 1) (by omega) (by omega)
   ·have hh := decode_high _ pos hp (by rw [hb]; exact ha)
    rw [if_pos (ξ3X hh.1)]
    have : inText bs[pos] = false := by
     have := ξ4R bs[pos]
     rw [ξ3X ha] at this
     simpa using this.symm
    rw [this]
    simp
  ·have : bs.drop pos = [] := List.drop_eq_nil_of_le (by omega)
   rw [this]
   unfold idxFuncFrom
   rw [if_neg (by rw [hz]; omega)]
   simp
theorem ξ73 (bs : List UInt8) : 0 ≤ idxFunc offText true ⟨bs.toArray⟩ ↔ ¬ ∀ b ∈ bs, 32 ≤ b ∧ b ≤ 126 := by
 have h := ξ5D bs bs.length 0 (Nat.zero_le _) (by omega)
 have hz : (⟨bs.toArray⟩ : ByteArray).size = bs.length := by simp [ByteArray.size]
 unfold idxFunc
 rw [hz]
 rw [List.drop_zero] at h
 rw [h]
 constructor
 ·intro h1 h2
  have : bs.all inText = true := List.all_eq_true.2 fun b hb => by
   have := h2 b hb
   simp [inText, this.1, this.2]
  rw [h1] at this; cases this
 ·intro h1
  cases hw : bs.all inText
  ·rfl
  ·exact absurd (fun b hb => by
    have := List.all_eq_true.1 hw b hb
    simpa [inText] using this) h1
theorem ξcj (w : World) (x : Nat) (hx : x ≤ 1114111) : Calls Tryz.prog 140 (#[encR x] ++ #[]) w fun e w' => e = .returned (.bool (offText x)) ∧ Below w.heap.size w w' := by
 by_cases h1 : (x : Int) < 32
 ·have H := ξ (show offText x = true by unfold offText; simp; omega)
  go_enter Tryz.func140, Tryz.ntmps140
  go_wp2_with fail
  go_ret
  exact ⟨by rw [H.out]; first | rfl | simp [h1] | (simp; omega), Below.refl _ _⟩
 ·by_cases h2 : 126 < (x : Int)
  ·have H := ξ (show offText x = true by unfold offText; simp; omega)
   go_enter Tryz.func140, Tryz.ntmps140
   go_wp2_with fail
   go_ret
   exact ⟨by rw [H.out]; first | rfl | simp [h1] | (simp; omega), Below.refl _ _⟩
  ·have H := ξ (show offText x = false by unfold offText; simp; omega)
   go_enter Tryz.func140, Tryz.ntmps140
   go_wp2_with fail
   go_ret
   exact ⟨by rw [H.out]; first | rfl | simp [h1] | (simp; omega), Below.refl _ _⟩
theorem l_at (w : World) (p : Option Addr) (n c : Nat) (a : Nat → Rat) (L : Nat) (i : Int) (z : Rat) (h : ξ0F w (.slice p n c) n a L) (h1 : 0 ≤ i → i < (n : Int) → a i.toNat = z) (h2 : ¬ (0 ≤ i ∧ i < (n : Int)) → z = 0) :
  Calls Tryz.prog 127 #[.slice p n c, .int .i64 i] w (Ret w fun r w' => RatV w' r z L) := by
 have HA := ξ h
 by_cases hi0 : i < 0
 ·obtain rfl := h2 (by omega)
  clear h h1 h2
  have B := box3 w (.bool false) (.slice none 0 0) (.slice none 0 0) 68
  go_enter Tryz.func127, Tryz.ntmps127
  go_wp2_with fail
  generalize w.alloc _ = W at B ⊢
  obtain ⟨G0, t0⟩ := B
  generalize hb0 : w.heap.size = b0 at t0  ⊢
  have Hb0 := ξ (show ¬ b0 < w.heap.size by omega)
  have G := ξ G0
  have T0 := ξ t0
  clear hb0 G0 t0
  have T0_0 := T0.out.load.1
  have T0_1 := T0.out.load.2.1
  have T0_2 := T0.out.load.2.2
  refine bodyPost_ret (by simp [results, Tryz.results127, go_sem, T0_0, T0_1, T0_2]; rfl) rfl ?_
  exact ⟨_, rfl, G.out, ξ41 W L⟩
 ·have hi0' : 0 ≤ i := by omega
  by_cases hin : i < (n : Int)
  ·have hz := h1 hi0' hin
   obtain ⟨k, rfl⟩ : ∃ k : Nat, i = k := ⟨i.toNat, by omega⟩
   have hk : k < n := by omega
   obtain ⟨b, o, t, rfl, hv, hc⟩ := h.at hk
   rw [show a k = z from hz] at hv
   have HV := ξ hv
   have B := box3 w (.bool false) (.slice none 0 0) (.slice none 0 0) 68
   obtain ⟨c0, c1, c2⟩ := hc _ B.1
   have HV := ξ hv
   clear h h1 h2 hz hv hc B
   go_enter Tryz.func127, Tryz.ntmps127
   go_wp2_with fail
   obtain ⟨G1, T0⟩ := box3 w (.bool t.n) (.slice t.p t.k t.c) (.slice t.q t.m t.e) 68
   generalize w.heap.size = b0 at T0 ⊢
   generalize w.alloc _ = W1 at G1 T0 ⊢
   have T0_0 := T0.load.1
   have T0_1 := T0.load.2.1
   have T0_2 := T0.load.2.2
   refine bodyPost_ret (by simp [results, Tryz.results127, go_sem, T0_0, T0_1, T0_2]; rfl) rfl ?_
   exact ⟨_, rfl, G1, HV.out.grow G1⟩
  ·obtain rfl := h2 (by omega)
   have hin' : (n : Int) ≤ i := by omega
   clear h h1 h2
   have B := box3 w (.bool false) (.slice none 0 0) (.slice none 0 0) 68
   go_enter Tryz.func127, Tryz.ntmps127
   go_wp2_with fail
   generalize w.alloc _ = W at B ⊢
   obtain ⟨G0, t0⟩ := B
   generalize hb0 : w.heap.size = b0 at t0  ⊢
   have Hb0 := ξ (show ¬ b0 < w.heap.size by omega)
   have G := ξ G0
   have T0 := ξ t0
   clear hb0 G0 t0
   have T0_0 := T0.out.load.1
   have T0_1 := T0.out.load.2.1
   have T0_2 := T0.out.load.2.2
   refine bodyPost_ret (by simp [results, Tryz.results127, go_sem, T0_0, T0_1, T0_2]; rfl) rfl ?_
   exact ⟨_, rfl, G.out, ξ41 W L⟩
theorem ξ8T (w : World) (p : Option Addr) (c : Nat) (xs : List Rat) (L k : Nat) (h : ξ1D w (.slice p xs.length c) xs L) :
  Calls Tryz.prog 127 #[.slice p xs.length c, .int .i64 (k : Int)] w (Ret w fun r w' => RatV w' r (atQ xs k) L) :=
 l_at w p xs.length c (atQ xs) L k _ h (fun _ _ => by simp) (fun h => ξ2F (by omega))
theorem ξ6E (w : World) (v : Value) (p : Prg) (q : Option Addr) (c : Nat) (y : List Rat) (L : Nat) (hp : ξC w v p) (hy : ξ1D w (.slice q y.length c) y L) (hL : L ≤ 1000) (hm : p.rows.length ≤ 1000000) :
  Calls Tryz.prog 89 #[v, .slice q y.length c] w (Ret w fun r _ => ξ1 (ξ23 p y) r) := by
 have HY := ξ hy
 clear hy
 obtain ⟨va, vc, vb, vd, rfl, hv, hr⟩ := hp
 have HV := ξ hv
 have HR := ξ hr
 obtain ⟨_, _, _, hvb1, hvb2⟩ := SlL.parts hv
 obtain ⟨_, _, _, hrb1, hrb2⟩ := hr.parts
 clear hv hr
 have B0 := ξ0.new w #[.slice va p.vars.length vc, .slice vb p.rows.length vd] 25
 have HB := ξ B0
 unfold prgV
 clear B0
 go_enter Tryz.func89, Tryz.ntmps89
 go_wp2_with fail
 generalize w.heap.size = bp at HB ⊢
 generalize w.alloc _ = W at HB ⊢
 have G := ξ HB.out.1
 have TP := ξ HB.out.2
 clear HB
 go_loopw [11] (fun i w9 => ∃ k : Nat, i = .int .i64 (k : Int) ∧ k ≤ p.rows.length ∧ (∀ (j : Nat) (x : RowS), j < k → p.rows[j]? = some x → ξ5e x.kind (atQ y j)) ∧ Gr W w9) (fun i _ => p.rows.length - (RowKit.intOf i).toNat)
 case atStart => exact ⟨0, rfl, Nat.zero_le _, fun j x hj => by omega, Gr.refl _⟩
 case round =>
  obtain ⟨k, rfl, hk, hq, hg⟩ := hrel
  have HQ := ξ hq
  have GL := ξ hg
  clear hq hg
  by_cases hlt : k < p.rows.length
  ·have hlt' : (k : Int) < (p.rows.length : Int) := by omega
   obtain ⟨b, o, x, rfl, hx, hin, hc⟩ := (HR.out.grow G.out).at hlt
   have HX := ξ hx
   obtain ⟨c0, c1, c2, c3, c4⟩ := hc wr GL.out
   have B6 := ξ0.new wr #[.string ⟨x.name.toArray⟩, .int .i64 x.group, .int .i64 x.kind, .slice x.tp x.terms.length x.tc, .int .i64 x.bound] 42
   have H6 := ξ B6.2
   have GL := ξ (GL.out.trans B6.1)
   clear B6
   have hk1 : IntKind.i64.wrap ((k : Int) + 1) = (k : Int) + 1 := by rw [IntKind.wrap_i64]; omega
   clear hc hx hin
   go_wp2_with fail
   clear c0 c1 c2 c3 c4
   generalize wr.heap.size = b6 at H6 ⊢
   generalize wr.alloc _ = W6 at H6 GL ⊢
   refine (ξ8T W6 q c y L k (HY.out.grow (G.out.trans GL.out))).mono ?_
   rintro _ w2 ⟨r, rfl, g2, hr⟩
   have GL := ξ (GL.out.trans g2)
   have H6 := ξ (H6.out.grow g2)
   have HRR := ξ hr
   clear g2 hr
   go_wp2_with fail
   obtain ⟨cs, hcs⟩ : ∃ c, sgn (atQ y k).num = c := ⟨_, rfl⟩
   refine (ξ3T w2 r (atQ y k) cs L HRR.out hcs (by omega)).mono ?_
   rintro _ w3 ⟨_, rfl, g3, rfl⟩
   have GL := ξ (GL.out.trans g3)
   obtain ⟨hs1, hs2⟩ := ξ5g hcs
   have HS := ξ (And.intro hs1 hs2)
   clear hcs hs1 hs2
   have c2 := (H6.out.grow g3).at 2 rfl
   obtain ⟨kd, hkd⟩ : ∃ c, x.kind = c := ⟨_, rfl⟩
   rw [hkd] at c2
   have HK := ξ (show x.s.kind = kd from hkd)
   have hno := ξ (show ¬ ξ5e kd (atQ y k) → ¬ ξ23 p y from fun h q => h (by have := q k _ HX.out; rwa [HK.out] at this))
   have hnext := ξ (show ξ5e kd (atQ y k) → ∀ (j : Nat) (z : RowS), j < k + 1 → p.rows[j]? = some z → ξ5e z.kind (atQ y j) from fun h j z hj hz => by
    by_cases e : j = k
    ·subst e
     rw [HX.out] at hz
     cases hz
     rw [HK.out]; exact h
    ·exact HQ.out j z (by omega) hz)
   clear hkd
   by_cases h1 : kd = 1
   ·subst h1
    by_cases hn : cs < 0
    ·have H := ξ (hno.out fun h => h.1 ⟨rfl, HS.out.1.1 hn⟩)
     go_wp2_with fail
     try rw [Exit.noGoto_ret]
     go_ret
     exact ⟨_, rfl, G.out.trans GL.out, ξ1.no H.out⟩
    ·have hn' : 0 ≤ cs := by omega
     have H := ξ (hnext.out ⟨fun h => hn (HS.out.1.2 h.2), fun h => absurd h.1 (by decide)⟩)
     clear hn
     go_wp2_with fail
     exact ⟨⟨k + 1, by go_num, by omega, H.out, GL.out⟩, by simp [RowKit.intOf]; omega⟩
   ·have e1 : (kd == 1) = false := by simpa using h1
    by_cases h0 : kd = 0
    ·subst h0
     by_cases hn : 0 < cs
     ·have H := ξ (hno.out fun h => h.2 ⟨rfl, HS.out.2.1 hn⟩)
      clear e1 h1
      go_wp2_with fail
      try rw [Exit.noGoto_ret]
      go_ret
      exact ⟨_, rfl, G.out.trans GL.out, ξ1.no H.out⟩
     ·have hn' : cs ≤ 0 := by omega
      have H := ξ (hnext.out ⟨fun h => absurd h.1 (by decide), fun h => hn (HS.out.2.2 h.2)⟩)
      clear hn e1 h1
      go_wp2_with fail
      exact ⟨⟨k + 1, by go_num, by omega, H.out, GL.out⟩, by simp [RowKit.intOf]; omega⟩
    ·have e0 : (kd == 0) = false := by simpa using h0
     have H := ξ (hnext.out ⟨fun h => absurd h.1 h1, fun h => absurd h.1 h0⟩)
     clear h1 h0
     go_wp2_with fail
     exact ⟨⟨k + 1, by go_num, by omega, H.out, GL.out⟩, by simp [RowKit.intOf]; omega⟩
  ·obtain rfl : k = p.rows.length := by omega
   have H := ξ (show ξ23 p y from fun i r hr => HQ.out i r (List.getElem?_eq_some_iff.1 hr).1 hr)
   go_wp2_with fail
   go_ret
   exact ⟨_, rfl, G.out.trans GL.out, ξ1.yes H.out⟩
def ξ7s (w : World) (v : Value) (n : Nat) (k : Nat → Int) (x : Nat → Rat) (L : Nat) : Prop := ∃ (f : Nat) (caps : Array Value), v = .func (.func f) #[] caps ∧ (∀ args w, (callFunc f args).run Tryz.prog w = .ok (.enter f args) w) ∧
 ∀ w', Gr w w' → ∀ i, i < n → Calls Tryz.prog f (#[.int .i64 (i : Int)] ++ caps) w' (Ret w' fun r w'' => ∃ u, r = .tuple #[.int .i64 (k i), u] ∧ RatV w'' u (x i) L)
structure ξ2o (w W : World) (b4 b5 : Nat) (s : Rat) : Prop where
 g : Gr w W
 t4 : ξe W b4 (.bool false) (.slice none 0 0) (.slice none 0 0)
 t5 : ξQ W b5 s
theorem ξ2o.grow {w W W' : World} {b4 b5 : Nat} {s : Rat} (h : ξ2o w W b4 b5 s) (g : Gr W W') : ξ2o w W' b4 b5 s := ⟨h.g.trans g, h.t4.grow g, h.t5.grow g⟩
theorem ξ2o.putB {w W : World} {b4 b5 : Nat} {s s' : Rat} (h : ξ2o w W b4 b5 s) (hn : w.heap.size ≤ b4 ∧ w.heap.size ≤ b5 ∧ b4 ≠ b5) {t : RatM} (ht : RatC W t.v s') :
  ξ2o w (set3 W b5 (.bool t.n) (.slice t.p t.k t.c) (.slice t.q t.m t.e)) b4 b5 s' :=
 have hu := upd3 W b5 (.bool t.n) (.slice t.p t.k t.c) (.slice t.q t.m t.e)
 ⟨ξ03 h.g hn.2.1 _ _ _, h.t4.upd hu hn.2.2, h.t5.put ht⟩
theorem ξcP {n : Int} (h : I64 n) : Sz 2 (n : Rat) := ξ2B (ξbY n h.1 h.2) (by decide)
theorem ξ4B {x : Rat} {c : Int} (h : sgn x.num = c) : c = 0 ↔ x = 0 := by
 have := ξ5g h
 constructor
 ·intro e; subst e
  have h1 := this.1; have h2 := this.2
  simp at h1 h2
  grind
 ·rintro rfl
  have h1 := this.1; have h2 := this.2
  simp at h1 h2
  omega
theorem ξbd (w : World) (v : Value) (n : Nat) (k : Nat → Int) (x : Nat → Rat) (L : Nat) (hf : ξ7s w v n k x L) (hk : ∀ i, i < n → I64 (k i)) (hz : ∀ i, i ≤ n → Sz 900 (sumQ (fun j => (k j : Rat) * x j) i)) (hz2 : ∀ i, i < n → Sz 900 ((k i : Rat) * x i)) (hL : L ≤ 900) (hn : n ≤ 1000000) :
  Calls Tryz.prog 133 #[.int .i64 (n : Int), v] w (Ret w fun r w' => RatC w' r (sumQ (fun j => (k j : Rat) * x j) n)) := by
 obtain ⟨f, caps, rfl, he, h5⟩ := hf
 have H5 := ξ h5
 have HK := ξ hk
 have HZ := ξ (And.intro hz hz2)
 have B4 := box3 w (.bool false) (.slice none 0 0) (.slice none 0 0) 68
 have HB := ξ B4
 clear h5 hk hz hz2 B4
 go_enter Tryz.func133, Tryz.ntmps133
 go_wp2_with fail
 generalize hb4 : w.heap.size = b4 at HB ⊢
 generalize w.alloc _ = W at HB ⊢
 have HB4 := ξ (show w.heap.size ≤ b4 from by omega)
 clear hb4
 refine (ξ0W W 0 (by decide) (by decide)).mono ?_
 rintro _ w1 ⟨r1, rfl, g1, h1⟩
 obtain ⟨s8, p8, k8, c8, e8, m8, n8, rfl⟩ := h1.agg
 have B5 := box3 w1 (.bool s8) (.slice p8 k8 c8) (.slice e8 m8 n8) 68
 have HS0 := ξ (show ξ2o w (w1.alloc (.cells #[.bool s8, .slice p8 k8 c8, .slice e8 m8 n8] 68)) b4 w1.heap.size (sumQ (fun j => (k j : Rat) * x j) 0) from
  ⟨HB.out.1.trans (g1.trans B5.1), HB.out.2.grow (g1.trans B5.1), ⟨s8, p8, k8, c8, e8, m8, n8⟩, B5.2, by have := h1.grow B5.1; exact this⟩)
 have HN := ξ (show w.heap.size ≤ b4 ∧ w.heap.size ≤ w1.heap.size ∧ b4 ≠ w1.heap.size from by
  have h2 := (HB.out.2.grow g1).lt
  exact ⟨HB4.out, (HB.out.1.trans g1).size, by omega⟩)
 clear h1 g1 B5 HB HB4
 go_wp2_with fail
 generalize w1.heap.size = b5 at HS0 HN ⊢
 generalize w1.alloc _ = W1 at HS0 ⊢
 go_loopw [11] (fun i w9 => ∃ m : Nat, i = .int .i64 (m : Int) ∧ m ≤ n ∧ ξ2o w w9 b4 b5 (sumQ (fun j => (k j : Rat) * x j) m)) (fun i _ => n - (RowKit.intOf i).toNat)
 case atStart => exact ⟨0, rfl, Nat.zero_le _, HS0.out⟩
 case round =>
  clear HS0
  obtain ⟨m, rfl, hm, hq⟩ := hrel
  have HS := ξ hq
  clear hq
  by_cases hlt : m < n
  ·have hlt' : (m : Int) < (n : Int) := by omega
   have hk1 : IntKind.i64.wrap ((m : Int) + 1) = (m : Int) + 1 := by rw [IntKind.wrap_i64]; omega
   go_wp2_with fail
   refine (H5.out wr HS.out.g m hlt).mono ?_
   rintro _ w2 ⟨_, rfl, g2, u, rfl, hu⟩
   obtain ⟨s9, p9, k9, c9, e9, m9, n9, rfl⟩ := hu.agg
   have B8 := box3 w2 (.bool s9) (.slice p9 k9 c9) (.slice e9 m9 n9) 68
   have HS := ξ (HS.out.grow (g2.trans B8.1))
   have HU := ξ (hu.grow B8.1)
   have T8 := ξ B8.2
   have HKI := ξ (HK.out m hlt)
   obtain ⟨km, hkm⟩ : ∃ c, k m = c := ⟨_, rfl⟩
   rw [hkm] at HKI ⊢
   have HKM := ξ hkm
   clear hu g2 B8 hkm
   by_cases h0 : km = 0
   ·have e0 : (km != 0) = false := by simpa using h0
    have HE := ξ (show (k m : Rat) * x m = 0 from by rw [HKM.out, h0]; simp)
    clear h0
    go_wp2_with fail
    exact ⟨⟨m + 1, by go_num, by omega, by rw [ξ0Y, HE.out, Rat.add_zero]; exact HS.out⟩, by simp [RowKit.intOf]; omega⟩
   ·have e0 : (km != 0) = true := by simpa using h0
    clear h0
    have t0 := T8.out.load.1
    have t1 := T8.out.load.2.1
    have t2 := T8.out.load.2.2
    go_wp2_with fail
    clear t0 t1 t2
    generalize w2.heap.size = b8 at T8 ⊢
    generalize w2.alloc _ = W2 at HS HU T8 ⊢
    obtain ⟨cs, hcs⟩ : ∃ c, sgn (x m).num = c := ⟨_, rfl⟩
    refine (ξ3T W2 _ (x m) cs L HU.out hcs (by omega)).mono ?_
    rintro _ w3 ⟨_, rfl, g3, rfl⟩
    have HS := ξ (HS.out.grow g3)
    have HU := ξ (HU.out.grow g3)
    have T8 := ξ (T8.out.grow g3)
    have HCZ := ξ (ξ4B hcs)
    clear g3 hcs
    by_cases h1 : cs = 0
    ·have e1 : (cs != 0) = false := by simpa using h1
     have HE := ξ (show (k m : Rat) * x m = 0 from by rw [HCZ.out.1 h1]; simp)
     clear h1
     go_wp2_with fail
     exact ⟨⟨m + 1, by go_num, by omega, by rw [ξ0Y, HE.out, Rat.add_zero]; exact HS.out⟩, by simp [RowKit.intOf]; omega⟩
    ·have e1 : (cs != 0) = true := by simpa using h1
     clear h1
     go_wp2_with fail
     clear e0 e1
     obtain ⟨ts, h7, hts⟩ := HS.out.t5
     have HTS := ξ hts
     have d0 := h7.c0
     have d1 := h7.c1
     have d2 := h7.c2
     have d3 := T8.out.c0
     have d4 := T8.out.c1
     have d5 := T8.out.c2
     have g0 : Gr w3 w3.drew := (Gr.refl _).drew
     have GZ := ξ g0
     clear h7 hts
     refine ξ3 [(0, true), (1, true), (3, true), (2, false), (4, false), (5, false), (6, false)] (by kernel_rfl) (by kernel_rfl) rfl (by kernel_rfl) (fun _ _ d _ _ h => by cases d <;> exact h) ?_
     repeat (refine ξ2 (v := ?_) g0 rfl rfl (fun w' hg => ?_) (fun K hK => ?_); rotate_left; (go_simp; rfl); go_simp; refine hK _ _ ?_; clear hK K)
     refine ξ7 (args := ?_) rfl rfl rfl rfl rfl rfl (by kernel_rfl) (by kernel_rfl) ?_ (fun K hK => ?_)
     rotate_left
     ·go_simp; rfl
     refine (ξ0W _ km HKI.out.1 HKI.out.2).mono ?_
     rintro _ w4 ⟨r1, rfl, g1, h1⟩
     refine ⟨_, rfl, g1, ?_⟩
     go_simp
     refine hK _ _ ?_
     clear hK K
     have GZ := ξ (GZ.out.trans g1)
     refine ξ7 (args := ?_) rfl rfl rfl rfl rfl rfl (by kernel_rfl) (by kernel_rfl) ?_ (fun K hK => ?_)
     rotate_left
     ·go_simp; rfl
     refine (ξ2P _ _ _ (km : Rat) (x m) _ 2 L (h1.v (ξcP HKI.out)) (HU.out.grow GZ.out) rfl (by decide) (by omega)).mono ?_
     rintro _ w5 ⟨r2, rfl, g2, h2⟩
     refine ⟨_, rfl, g2, ?_⟩
     go_simp
     refine hK _ _ ?_
     clear hK K
     have GZ := ξ (GZ.out.trans g2)
     clear h1
     refine ξ7 (args := ?_) rfl rfl rfl rfl rfl rfl (by kernel_rfl) (by kernel_rfl) ?_ (fun K hK => ?_)
     rotate_left
     ·go_simp; rfl
     refine (ξ6n _ _ _ _ _ (sumQ (fun j => (k j : Rat) * x j) (m + 1)) 900 900 (RatC.v (HTS.out.grow GZ.out) (HZ.out.1 m (by omega))) (h2.v (by have := HZ.out.2 m hlt; rw [HKM.out] at this; exact this)) (by rw [ξ0Y, HKM.out]) (by decide) (by decide)).mono ?_
     rintro _ w6 ⟨r3, rfl, g3, h3⟩
     refine ⟨_, rfl, g3, ?_⟩
     go_simp
     refine hK _ _ ?_
     clear hK K
     have GZ := ξ (GZ.out.trans g3)
     clear h2
     have HS := ξ (HS.out.grow GZ.out)
     obtain ⟨s7, p7, k7, c7, e7, m7, n7, rfl⟩ := h3.agg
     obtain ⟨t1, h7, -⟩ := HS.out.t5
     have f0 := h7.load.1
     have f1 := h7.load.2.1
     have f2 := h7.load.2.2
     have f3 := h7.f0 0
     have f4 := h7.f0 1
     have f5 := h7.f0 2
     have HNX := ξ (show ξ2o w (set3 w6 b5 (.bool s7) (.slice p7 k7 c7) (.slice e7 m7 n7)) b4 b5 (sumQ (fun j => (k j : Rat) * x j) (m + 1)) from HS.out.putB HN.out (t := ⟨s7, p7, k7, c7, e7, m7, n7⟩) h3)
     clear h3 h7 d0 d1 d2 d3 d4 d5
     refine ξi rfl rfl (fun K hK => ?_)
     go_simp
     refine ⟨fun h => Bool.noConfusion h, hK _ _ ?_⟩
     clear hK K
     unfold set3 at HNX
     generalize ((w6.setCell _ _).setCell _ _).setCell _ _ = W5 at HNX ⊢
     refine ξ9 ?_
     clear f0 f1 f2 f3 f4 f5 g0 g1 g2 g3
     go_wp2_with fail
     exact ⟨⟨m + 1, by go_num, by omega, HNX.out⟩, by simp [RowKit.intOf]; omega⟩
  ·obtain rfl : m = n := by omega
   obtain ⟨ts, h7, hts⟩ := HS.out.t5
   have HTS := ξ hts
   have d0 := h7.load.1
   have d1 := h7.load.2.1
   have d2 := h7.load.2.2
   have h4 := HS.out.t4
   have f0 := h4.load.1
   have f1 := h4.load.2.1
   have f2 := h4.load.2.2
   have f3 := h4.f0 0
   have f4 := h4.f0 1
   have f5 := h4.f0 2
   have HXX := ξ (show Gr w (set3 wr b4 (.bool ts.n) (.slice ts.p ts.k ts.c) (.slice ts.q ts.m ts.e)) ∧ ξe (set3 wr b4 (.bool ts.n) (.slice ts.p ts.k ts.c) (.slice ts.q ts.m ts.e)) b4 (.bool ts.n) (.slice ts.p ts.k ts.c) (.slice ts.q ts.m ts.e) ∧ RatC (set3 wr b4 (.bool ts.n) (.slice ts.p ts.k ts.c) (.slice ts.q ts.m ts.e)) ts.v _ from
    ⟨ξ03 HS.out.g HN.out.1 _ _ _, h4.set _ _ _, HTS.out.upd h4.noInt (upd3 _ _ _ _ _)⟩)
   clear h4 h7 hts
   go_wp2_with fail
   clear d0 d1 d2 f0 f1 f2 f3 f4 f5
   unfold set3 at HXX
   generalize ((wr.setCell _ _).setCell _ _).setCell _ _ = W5 at HXX ⊢
   have T0_0 := HXX.out.2.1.load.1
   have T0_1 := HXX.out.2.1.load.2.1
   have T0_2 := HXX.out.2.1.load.2.2
   refine bodyPost_ret (by simp [results, Tryz.results133, go_sem, T0_0, T0_1, T0_2]; rfl) rfl ?_
   exact ⟨_, rfl, HXX.out.1, HXX.out.2.2⟩
def ξT (n : ξ6) : Prop := ξ9O n.kind n.var n.pos n.cut.kind n.cut.row n.mult.length n.cut.mult.length n.cut.vars.length
theorem ξ5P {c : CutS} : ξ0e c ↔ (c.kind = 0 ∧ c.row = 0 ∧ c.mult.length = 0 ∧ c.vars.length = 0) := by
 unfold ξ0e
 simp only [List.length_eq_zero_iff]
 constructor
 ·rintro ⟨a, b, c, d⟩; exact ⟨a, c, b, d⟩
 ·rintro ⟨a, b, c, d⟩; exact ⟨a, c, b, d⟩
theorem ξ01 {n : ξ6} : ξT n ↔ (n.kind = 0 ∧ ξ0e n.cut ∧ n.var = 0 ∧ n.pos = 0) ∨ (n.kind = 1 ∧ ξ0e n.cut ∧ n.pos = 0 ∧ n.mult = []) ∨ (n.kind = 2 ∧ ξ0e n.cut ∧ n.mult = []) ∨ (n.kind = 3 ∧ n.var = 0 ∧ n.pos = 0 ∧ n.mult = []) := by
 unfold ξT ξ9O
 simp only [ξ5P, List.length_eq_zero_iff]
theorem ξ00 {p : Prg} {n : ξ6} {t s : List ξ6} (h : ξa p (n :: t) s) : ξT n := by
 rw [ξ01]
 cases h with
 | farkas h0 h1 h2 h3 => exact .inl ⟨h0, h1⟩
 | empty h0 h1 h2 h3 h4 => exact .inr (.inl ⟨h0, h1.1, h1.2.2, h1.2.1⟩)
 | split h0 h1 h2 h3 h4 h5 => exact .inr (.inr (.inl ⟨h0, h1.1, h1.2⟩))
 | cut h0 h1 h2 h4 => exact .inr (.inr (.inr ⟨h0, h1.2.1, h1.2.2, h1.1⟩))
theorem ξ5W {p : Prg} {n : ξ6} {t s : List ξ6} (hp : ξT n) (hk : n.kind = 0) : ξa p (n :: t) s ↔ (n.mult.length ≤ p.rows.length ∧ ξ27 p n.mult) ∧ s = t := by
 constructor
 ·intro h
  cases h with
  | farkas h0 h1 h2 h3 => exact ⟨⟨h2, h3⟩, rfl⟩
  | _ => omega
 ·rintro ⟨⟨h2, h3⟩, rfl⟩
  have h := ξ01.1 hp
  exact .farkas hk (by
   rcases h with h | h | h | h
   ·exact h.2
   ·omega
   ·omega
   ·omega) h2 h3
theorem ξ5T {p : Prg} {n : ξ6} {t s : List ξ6} (hp : ξT n) (hk : n.kind = 1) : ξa p (n :: t) s ↔ (0 ≤ n.var ∧ ∃ v, p.vars[n.var.toNat]? = some v ∧ v.up < v.lo) ∧ s = t := by
 constructor
 ·intro h
  cases h with
  | empty h0 h1 h2 h3 h4 => exact ⟨⟨h2, _, h3, h4⟩, rfl⟩
  | _ => omega
 ·rintro ⟨⟨h2, v, h3, h4⟩, rfl⟩
  have h := ξ01.1 hp
  exact .empty hk (by
   rcases h with h | h | h | h
   ·omega
   ·exact ⟨h.2.1, h.2.2.2, h.2.2.1⟩
   ·omega
   ·omega) h2 h3 h4
theorem ξ9J {p : Prg} {n : ξ6} {t s : List ξ6} (hp : ξT n) (hk : n.kind = 2) : ξa p (n :: t) s ↔ (0 ≤ n.var ∧ n.var < (p.vars.length : Int)) ∧ (-1099511627776 ≤ n.pos ∧ n.pos < 1099511627776) ∧ ∃ r, ξa (lowPart p n.var n.pos) t r ∧ ξa (highPart p n.var n.pos) r s := by
 constructor
 ·intro h
  cases h with
  | split h0 h1 h2 h3 h4 h5 => exact ⟨h2, h3, _, h4, h5⟩
  | _ => omega
 ·rintro ⟨h2, h3, r, h4, h5⟩
  have h := ξ01.1 hp
  exact .split hk (by
   rcases h with h | h | h | h
   ·omega
   ·omega
   ·exact h.2
   ·omega) h2 h3 h4 h5
theorem ξ95 {p : Prg} {n : ξ6} {t s : List ξ6} (hp : ξT n) (hk : n.kind = 3) : ξa p (n :: t) s ↔ ∃ r, ξ0m p n.cut r ∧ ξa (addRow p r) t s := by
 constructor
 ·intro h
  cases h with
  | cut h0 h1 h2 h4 => exact ⟨_, h2, h4⟩
  | _ => omega
 ·rintro ⟨r, h2, h4⟩
  have h := ξ01.1 hp
  exact .cut hk (by
   rcases h with h | h | h | h
   ·omega
   ·omega
   ·omega
   ·exact ⟨h.2.2.2, h.2.1, h.2.2.1⟩) h2 h4
end Prf
end Go.Proofs.YtcjgimlcefhhmaaGreatDoor

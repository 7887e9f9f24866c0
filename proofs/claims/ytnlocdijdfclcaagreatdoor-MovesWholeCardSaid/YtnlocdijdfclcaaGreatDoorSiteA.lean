/-
  Small tests: exists, amount, within (the program's and the document's); predicates as function values.
  site.sound; the closures of site.Valid; site.Valid.
  site.Valid: the machines, the links; the whole.
  site.Valid.
-/
import Derived.Test.YtnlocdijdfclcaaGreatDoorMdl
import Derived.Test.YtnlocdijdfclcaaGreatDoorFast
import Derived.Test.YtnlocdijdfclcaaGreatDoorProg
import Derived.Test.YtnlocdijdfclcaaGreatDoorShelf
namespace Go.Proofs.YtnlocdijdfclcaaGreatDoor
open Go.RowKit Lex
set_option linter.unusedVariables false
set_option linter.unusedSimpArgs false

theorem site_exists (w : World) (n L : Int) : Calls Tryz.prog 99 #[.int .i64 n, .int .i64 L] w fun e w' => (∃ v, e = .returned v ∧ Tells (1 ≤ n ∧ n ≤ L) v) ∧ w = w' := by
 by_cases h1 : 1 ≤ n
 ·by_cases h2 : n ≤ L
  ·go_enter Tryz.func99, Tryz.ntmps99
   go_wp2_with fail
   go_ret
   exact ⟨⟨_, rfl, Tells.yes (by first | omega | (unfold Amount; omega) | (unfold Within; omega))⟩, rfl⟩
  ·go_enter Tryz.func99, Tryz.ntmps99
   go_wp2_with fail
   go_ret
   exact ⟨⟨_, rfl, Tells.no (by first | omega | (unfold Amount; omega) | (unfold Within; omega))⟩, rfl⟩
 ·go_enter Tryz.func99, Tryz.ntmps99
  go_wp2_with fail
  go_ret
  exact ⟨⟨_, rfl, Tells.no (by first | omega | (unfold Amount; omega) | (unfold Within; omega))⟩, rfl⟩
theorem ref_Exists (w : World) (n L : Int) : Calls Tryz.prog 35 #[.int .i64 n, .int .i64 L] w fun e w' => (∃ v, e = .returned v ∧ Tells (1 ≤ n ∧ n ≤ L) v) ∧ w = w' := by
 by_cases h1 : 1 ≤ n
 ·by_cases h2 : n ≤ L
  ·go_enter Tryz.func35, Tryz.ntmps35
   go_wp2_with fail
   go_ret
   exact ⟨⟨_, rfl, Tells.yes (by first | omega | (unfold Amount; omega) | (unfold Within; omega))⟩, rfl⟩
  ·go_enter Tryz.func35, Tryz.ntmps35
   go_wp2_with fail
   go_ret
   exact ⟨⟨_, rfl, Tells.no (by first | omega | (unfold Amount; omega) | (unfold Within; omega))⟩, rfl⟩
 ·go_enter Tryz.func35, Tryz.ntmps35
  go_wp2_with fail
  go_ret
  exact ⟨⟨_, rfl, Tells.no (by first | omega | (unfold Amount; omega) | (unfold Within; omega))⟩, rfl⟩
theorem site_amount (w : World) (n : Int) : Calls Tryz.prog 106 #[.int .i64 n] w fun e w' => (∃ v, e = .returned v ∧ Tells (Amount n) v) ∧ w = w' := by
 by_cases h1 : 0 ≤ n
 ·by_cases h2 : n ≤ 1048576
  ·go_enter Tryz.func106, Tryz.ntmps106
   go_wp2_with fail
   go_ret
   exact ⟨⟨_, rfl, Tells.yes (by first | omega | (unfold Amount; omega) | (unfold Within; omega))⟩, rfl⟩
  ·go_enter Tryz.func106, Tryz.ntmps106
   go_wp2_with fail
   go_ret
   exact ⟨⟨_, rfl, Tells.no (by first | omega | (unfold Amount; omega) | (unfold Within; omega))⟩, rfl⟩
 ·go_enter Tryz.func106, Tryz.ntmps106
  go_wp2_with fail
  go_ret
  exact ⟨⟨_, rfl, Tells.no (by first | omega | (unfold Amount; omega) | (unfold Within; omega))⟩, rfl⟩
theorem ref_number (w : World) (n : Int) : Calls Tryz.prog 92 #[.int .i64 n] w fun e w' => (∃ v, e = .returned v ∧ Tells (Amount n) v) ∧ w = w' := by
 by_cases h1 : 0 ≤ n
 ·by_cases h2 : n ≤ 1048576
  ·go_enter Tryz.func92, Tryz.ntmps92
   go_wp2_with fail
   go_ret
   exact ⟨⟨_, rfl, Tells.yes (by first | omega | (unfold Amount; omega) | (unfold Within; omega))⟩, rfl⟩
  ·go_enter Tryz.func92, Tryz.ntmps92
   go_wp2_with fail
   go_ret
   exact ⟨⟨_, rfl, Tells.no (by first | omega | (unfold Amount; omega) | (unfold Within; omega))⟩, rfl⟩
 ·go_enter Tryz.func92, Tryz.ntmps92
  go_wp2_with fail
  go_ret
  exact ⟨⟨_, rfl, Tells.no (by first | omega | (unfold Amount; omega) | (unfold Within; omega))⟩, rfl⟩
theorem cat_within (w : World) (n a b : Int) : Calls Tryz.prog 67 #[.int .i64 n, .int .i64 a, .int .i64 b] w fun e w' => (∃ v, e = .returned v ∧ Tells (Within n a b) v) ∧ w = w' := by
 by_cases h1 : a ≤ n
 ·by_cases h2 : n ≤ b
  ·go_enter Tryz.func67, Tryz.ntmps67
   go_wp2_with fail
   go_ret
   exact ⟨⟨_, rfl, Tells.yes (by first | omega | (unfold Amount; omega) | (unfold Within; omega))⟩, rfl⟩
  ·go_enter Tryz.func67, Tryz.ntmps67
   go_wp2_with fail
   go_ret
   exact ⟨⟨_, rfl, Tells.no (by first | omega | (unfold Amount; omega) | (unfold Within; omega))⟩, rfl⟩
 ·go_enter Tryz.func67, Tryz.ntmps67
  go_wp2_with fail
  go_ret
  exact ⟨⟨_, rfl, Tells.no (by first | omega | (unfold Amount; omega) | (unfold Within; omega))⟩, rfl⟩
theorem ref_within (w : World) (n a b : Int) : Calls Tryz.prog 65 #[.int .i64 n, .int .i64 a, .int .i64 b] w fun e w' => (∃ v, e = .returned v ∧ Tells (Within n a b) v) ∧ w = w' := by
 by_cases h1 : a ≤ n
 ·by_cases h2 : n ≤ b
  ·go_enter Tryz.func65, Tryz.ntmps65
   go_wp2_with fail
   go_ret
   exact ⟨⟨_, rfl, Tells.yes (by first | omega | (unfold Amount; omega) | (unfold Within; omega))⟩, rfl⟩
  ·go_enter Tryz.func65, Tryz.ntmps65
   go_wp2_with fail
   go_ret
   exact ⟨⟨_, rfl, Tells.no (by first | omega | (unfold Amount; omega) | (unfold Within; omega))⟩, rfl⟩
 ·go_enter Tryz.func65, Tryz.ntmps65
  go_wp2_with fail
  go_ret
  exact ⟨⟨_, rfl, Tells.no (by first | omega | (unfold Amount; omega) | (unfold Within; omega))⟩, rfl⟩

theorem exec_fnV {P : Program} {ρ : Operand → Value} {o : Oper} {w : World} {c : Call} {x : Operand} {f : FuncId} {first caps : Array Value} (hop : o.op = .call c) (hc : c.callee = .value x)
  (hx : ρ x = .func (.func f) first caps) (he : ∀ args w, (callFunc f args).run P w = .ok (.enter f args) w) :
  (execOp ρ o).run P w = .ok (.enter f ((first ++ c.args.map ρ) ++ caps)) w := by
 unfold execOp
 simp only [hop, resolve, hc, hx, Deferred.ofValue, invoke]
 simp [go_sem, he]
theorem wpE_fnV {P : Program} {ops : Array Oper} {Q : Exit → Act → World → Prop} {i : Nat} {rest : List (Nat × Bool)} {a : Act} {w : World} {o : Oper} {c : Call} {x : Operand} {f : FuncId} {first caps args : Array Value}
  (ho : ops[i]? = some o) (hw : Region.wanted o (yielded ops a.tmps) = true) (hop : o.op = .call c) (hc : c.callee = .value x) (hx : a.eval x = .func (.func f) first caps)
  (he : ∀ args w, (callFunc f args).run P w = .ok (.enter f args) w) (hargs : (first ++ c.args.map a.eval) ++ caps = args)
  (h : ∀ K : Act → World → Prop, (∀ a w, wpE P ops Q rest a w → K a w) → Calls P f args w fun e w' => ∃ v, e = .returned v ∧ Gr w w' ∧ K (a.put o.dst v) w') : wpE P ops Q ((i, false) :: rest) a w :=
 wpE_call ho hw (by rw [exec_fnV hop hc hx he, hargs]) h
def Chk {α : Type} (w : World) (v : Value) (sz : Nat) (enc : α → List Value) (ok : α → List α → Prop) : Prop := ∃ (f : Nat) (caps : Array Value), v = .func (.func f) #[] caps ∧ (∀ args w, (callFunc f args).run Tryz.prog w = .ok (.enter f args) w) ∧
 ∀ w', Gr w w' → ∀ (x : α) (l : List α) (p : Option Addr) (n c : Nat), SlL w' sz enc (.slice p n c) l → l.length = n → n ≤ 1000000 → Calls Tryz.prog f (#[.agg (enc x).toArray, .slice p n c] ++ caps) w' (Ret w' fun r _ => Tells (ok x l) r)
theorem Chk.grow {α : Type} {w w' : World} {v : Value} {sz : Nat} {enc : α → List Value} {ok : α → List α → Prop} (h : Chk w v sz enc ok) (g : Gr w w') : Chk w' v sz enc ok := by
 obtain ⟨f, caps, h1, h2, h5⟩ := h
 exact ⟨f, caps, h1, h2, fun w'' g' => h5 w'' (g.trans g')⟩
def Prd {α : Type} (w : World) (v : Value) (enc : α → List Value) (ok : α → Prop) : Prop := ∃ (f : Nat) (caps : Array Value), v = .func (.func f) #[] caps ∧ (∀ args w, (callFunc f args).run Tryz.prog w = .ok (.enter f args) w) ∧
 ∀ w', Gr w w' → ∀ x : α, Calls Tryz.prog f (#[.agg (enc x).toArray] ++ caps) w' (Ret w' fun r _ => Tells (ok x) r)
theorem Prd.grow {α : Type} {w w' : World} {v : Value} {enc : α → List Value} {ok : α → Prop} (h : Prd w v enc ok) (g : Gr w w') : Prd w' v enc ok := by
 obtain ⟨f, caps, h1, h2, h5⟩ := h
 exact ⟨f, caps, h1, h2, fun w'' g' => h5 w'' (g.trans g')⟩
theorem SlL.take {α : Type} {enc : α → List Value} {sz : Nat} {w : World} {p : Option Addr} {n c : Nat} {l : List α} (he : ∀ x, (enc x).length = sz) (h : SlL w sz enc (.slice p n c) l) (hn : l.length = n) (k : Nat) (hk : k ≤ n) : SlL w sz enc (.slice p k c) (l.take k) := by
 unfold SlL at h ⊢
 have hl : (l.take k).length = k := by rw [List.length_take]; omega
 obtain ⟨h0, p', c', hv, h1, h2, h3⟩ := h
 cases hv
 rw [hl]
 refine ⟨by rw [flat_len he, hl], p, c, rfl, by omega, h2, ?_⟩
 rcases h3 with h3 | ⟨b, o, hp, hc⟩
 ·exact .inl h3
 ·refine .inr ⟨b, o, hp, fun j u hu => hc j u ?_⟩
  have e : l.flatMap enc = (l.take k).flatMap enc ++ (l.drop k).flatMap enc := by rw [← List.flatMap_append, List.take_append_drop]
  rw [e, List.getElem?_append_left (by have := (List.getElem?_eq_some_iff.1 hu).1; exact this)]
  exact hu
theorem sound_step {α : Type} {ok : α → List α → Prop} {l : List α} {k : Nat} {x : α} (hx : l[k]? = some x) (h : ∀ i y, i < k → l[i]? = some y → ok y (l.take i)) (hk : ok x (l.take k)) : ∀ i y, i < k + 1 → l[i]? = some y → ok y (l.take i) := fun i y hi hy => by
 by_cases e : i = k
 ·subst e
  rw [hx] at hy
  cases hy
  exact hk
 ·exact h i y (by omega) hy

set_option maxRecDepth 100000 in
theorem rack_index (w : World) (p : Option Addr) (n c : Nat) (l : List RackM) (v : Value) (ok : RackM → Prop) (hl : SlL w 3 encRack (.slice p n c) l) (hn : l.length = n) (hb : n ≤ 1000000) (hv : Prd w v encRack ok) :
  Calls Tryz.prog 137 #[.slice p n c, v] w (Ret w fun r _ => ∃ z : Int, r = .int .i64 z ∧ (0 ≤ z ↔ ∃ x ∈ l, ok x)) := by
 obtain ⟨f, caps, rfl, he, h5⟩ := hv
 have H5 := Lib.hid h5
 have HL := Lib.hid hl
 have HN := Lib.hid hn
 clear h5 hl hn
 go_enter Tryz.func137, Tryz.ntmps137
 go_wp2_with fail
 go_loopw [8] (fun i w1 => ∃ k : Nat, i = .int .i64 k ∧ k ≤ n ∧ (∀ j x, j < k → l[j]? = some x → ¬ ok x) ∧ Gr w w1) (fun i _ => n - (RowKit.intOf i).toNat)
 case atStart => exact ⟨0, rfl, Nat.zero_le _, fun j x hj => by omega, Gr.refl _⟩
 case round =>
  obtain ⟨k, rfl, hk, hp, hg⟩ := hrel
  have Hp := Lib.hid hp
  have G := Lib.hid hg
  clear hp hg
  by_cases hlt : k < n
  ·have hlt' : (k : Int) < (n : Int) := by omega
   obtain ⟨b, o, x, rfl, hx, hc⟩ := rack_at HL.out HN.out hlt
   have HX := Lib.hid hx
   obtain ⟨c0, c1, c2⟩ := hc wr G.out
   clear hc hx
   go_wp2_with fail
   refine (H5.out wr G.out x).mono ?_
   rintro _ w2 ⟨r2, rfl, g2, h2⟩
   have G := Lib.hid (G.out.trans g2)
   obtain ⟨t, rfl, ht⟩ := h2
   have Ht := Lib.hid ht
   clear g2 ht
   cases t
   ·go_wp2_with fail
    refine ⟨⟨k + 1, by go_num, by omega, fun j y hj hy => ?_, G.out⟩, by simp [RowKit.intOf]; omega⟩
    by_cases e : j = k
    ·subst e
     rw [HX.out] at hy
     cases hy
     exact fun h => absurd (Ht.out.2 h) (by decide)
    ·exact Hp.out j y (by omega) hy
   ·go_wp2_with fail
    go_ret
    exact ⟨_, rfl, G.out, (k : Int), rfl, ⟨fun _ => ⟨x, List.mem_of_getElem? HX.out, (by have := Ht.out; simpa using this)⟩, fun _ => by omega⟩⟩
  ·obtain rfl : n = k := by omega
   go_wp2_with fail
   go_ret
   refine ⟨_, rfl, G.out, -1, rfl, ⟨fun h => absurd h (by decide), fun ⟨x, hx, h⟩ => ?_⟩⟩
   obtain ⟨j, hj, e⟩ := List.mem_iff_getElem.1 hx
   exact absurd h (Hp.out j x (by rw [HN.out] at hj; exact hj) (by rw [List.getElem?_eq_getElem hj, e]))
theorem rack_contains (w : World) (p : Option Addr) (n c : Nat) (l : List RackM) (v : Value) (ok : RackM → Prop) (hl : SlL w 3 encRack (.slice p n c) l) (hn : l.length = n) (hb : n ≤ 1000000) (hv : Prd w v encRack ok) :
  Calls Tryz.prog 103 #[.slice p n c, v] w (Ret w fun r _ => Tells (∃ x ∈ l, ok x) r) := by
 have H := Lib.hid (rack_index w p n c l v ok hl hn hb hv)
 obtain ⟨f, caps, rfl, he, h5⟩ := hv
 clear hl hn h5
 go_enter Tryz.func103, Tryz.ntmps103
 go_wp2_with fail
 refine H.out.mono ?_
 rintro _ w2 ⟨_, rfl, g2, z, rfl, hz⟩
 have G := Lib.hid g2
 have Hz := Lib.hid hz
 clear g2 hz
 go_wp2_with fail
 go_ret
 exact ⟨_, rfl, G.out, decide (0 ≤ z), rfl, by rw [← Hz.out]; simp⟩
set_option maxRecDepth 100000 in
theorem link_index (w : World) (p : Option Addr) (n c : Nat) (l : List LinkM) (v : Value) (ok : LinkM → Prop) (hl : SlL w 3 encLink (.slice p n c) l) (hn : l.length = n) (hb : n ≤ 1000000) (hv : Prd w v encLink ok) :
  Calls Tryz.prog 129 #[.slice p n c, v] w (Ret w fun r _ => ∃ z : Int, r = .int .i64 z ∧ (0 ≤ z ↔ ∃ x ∈ l, ok x)) := by
 obtain ⟨f, caps, rfl, he, h5⟩ := hv
 have H5 := Lib.hid h5
 have HL := Lib.hid hl
 have HN := Lib.hid hn
 clear h5 hl hn
 go_enter Tryz.func129, Tryz.ntmps129
 go_wp2_with fail
 go_loopw [8] (fun i w1 => ∃ k : Nat, i = .int .i64 k ∧ k ≤ n ∧ (∀ j x, j < k → l[j]? = some x → ¬ ok x) ∧ Gr w w1) (fun i _ => n - (RowKit.intOf i).toNat)
 case atStart => exact ⟨0, rfl, Nat.zero_le _, fun j x hj => by omega, Gr.refl _⟩
 case round =>
  obtain ⟨k, rfl, hk, hp, hg⟩ := hrel
  have Hp := Lib.hid hp
  have G := Lib.hid hg
  clear hp hg
  by_cases hlt : k < n
  ·have hlt' : (k : Int) < (n : Int) := by omega
   obtain ⟨b, o, x, rfl, hx, hc⟩ := link_at HL.out HN.out hlt
   have HX := Lib.hid hx
   obtain ⟨c0, c1, c2⟩ := hc wr G.out
   clear hc hx
   go_wp2_with fail
   refine (H5.out wr G.out x).mono ?_
   rintro _ w2 ⟨r2, rfl, g2, h2⟩
   have G := Lib.hid (G.out.trans g2)
   obtain ⟨t, rfl, ht⟩ := h2
   have Ht := Lib.hid ht
   clear g2 ht
   cases t
   ·go_wp2_with fail
    refine ⟨⟨k + 1, by go_num, by omega, fun j y hj hy => ?_, G.out⟩, by simp [RowKit.intOf]; omega⟩
    by_cases e : j = k
    ·subst e
     rw [HX.out] at hy
     cases hy
     exact fun h => absurd (Ht.out.2 h) (by decide)
    ·exact Hp.out j y (by omega) hy
   ·go_wp2_with fail
    go_ret
    exact ⟨_, rfl, G.out, (k : Int), rfl, ⟨fun _ => ⟨x, List.mem_of_getElem? HX.out, (by have := Ht.out; simpa using this)⟩, fun _ => by omega⟩⟩
  ·obtain rfl : n = k := by omega
   go_wp2_with fail
   go_ret
   refine ⟨_, rfl, G.out, -1, rfl, ⟨fun h => absurd h (by decide), fun ⟨x, hx, h⟩ => ?_⟩⟩
   obtain ⟨j, hj, e⟩ := List.mem_iff_getElem.1 hx
   exact absurd h (Hp.out j x (by rw [HN.out] at hj; exact hj) (by rw [List.getElem?_eq_getElem hj, e]))
theorem link_contains (w : World) (p : Option Addr) (n c : Nat) (l : List LinkM) (v : Value) (ok : LinkM → Prop) (hl : SlL w 3 encLink (.slice p n c) l) (hn : l.length = n) (hb : n ≤ 1000000) (hv : Prd w v encLink ok) :
  Calls Tryz.prog 110 #[.slice p n c, v] w (Ret w fun r _ => Tells (∃ x ∈ l, ok x) r) := by
 have H := Lib.hid (link_index w p n c l v ok hl hn hb hv)
 obtain ⟨f, caps, rfl, he, h5⟩ := hv
 clear hl hn h5
 go_enter Tryz.func110, Tryz.ntmps110
 go_wp2_with fail
 refine H.out.mono ?_
 rintro _ w2 ⟨_, rfl, g2, z, rfl, hz⟩
 have G := Lib.hid g2
 have Hz := Lib.hid hz
 clear g2 hz
 go_wp2_with fail
 go_ret
 exact ⟨_, rfl, G.out, decide (0 ≤ z), rfl, by rw [← Hz.out]; simp⟩
end Go.Proofs.YtnlocdijdfclcaaGreatDoor
namespace Go.Proofs.YtnlocdijdfclcaaGreatDoor
open Go.RowKit Go.Lib Lex
set_option linter.unusedVariables false
set_option linter.unusedSimpArgs false

set_option maxRecDepth 100000 in
set_option maxHeartbeats 800000 in
theorem rack_sound (w : World) (p : Option Addr) (n c : Nat) (l : List RackM) (v : Value) (ok : RackM → List RackM → Prop) (hl : SlL w 3 encRack (.slice p n c) l) (hn : l.length = n) (hb : n ≤ 1000000) (hcap : n ≤ c) (hv : Chk w v 3 encRack ok) :
  Calls Tryz.prog 100 #[.slice p n c, v] w (Ret w fun r _ => Tells (Sound ok l) r) := by
 obtain ⟨f, caps, rfl, he, h5⟩ := hv
 have H5 := Lib.hid h5
 have HL := Lib.hid hl
 have HN := Lib.hid hn
 have HCap := Lib.hid hcap
 clear h5 hl hn
 go_enter Tryz.func100, Tryz.ntmps100
 go_wp2_with fail
 go_loopw [9] (fun i w1 => ∃ k : Nat, i = .int .i64 k ∧ k ≤ n ∧ (∀ j x, j < k → l[j]? = some x → ok x (l.take j)) ∧ Gr w w1) (fun i _ => n - (RowKit.intOf i).toNat)
 case atStart => exact ⟨0, rfl, Nat.zero_le _, fun j x hj => by omega, Gr.refl _⟩
 case round =>
  obtain ⟨k, rfl, hk, hp, hg⟩ := hrel
  have Hp := Lib.hid hp
  have G := Lib.hid hg
  clear hp hg
  by_cases hlt : k < n
  ·have hlt' : (k : Int) < (n : Int) := by omega
   obtain ⟨b, o, x, rfl, hx, hc⟩ := rack_at HL.out HN.out hlt
   have HX := Lib.hid hx
   obtain ⟨c0, c1, c2⟩ := hc wr G.out
   clear hc hx
   go_wp2_with fail
   have B := Cells.new wr #[.string ⟨x.name.toArray⟩, .int .i64 x.site, .int .i64 x.feed] 56
   clear c0 c1 c2
   generalize wr.heap.size = b6 at B ⊢
   generalize wr.alloc _ = w6 at B ⊢
   obtain ⟨g6, t6⟩ := B
   have G := Lib.hid (G.out.trans g6)
   clear g6
   have T6 := Lib.hid t6
   clear t6
   refine wp_region_fast [(0, true), (1, true), (2, true), (3, true), (4, true), (5, false), (6, true)] (by kernel_rfl) (by kernel_rfl) rfl (by kernel_rfl) (fun _ _ d _ _ h => by cases d <;> exact h) ?_
   have d0 := T6.out.c 0 rfl; have d1 := T6.out.c 1 rfl; have d2 := T6.out.c 2 rfl
   have g0 : Gr w6 w6.drew := (Gr.refl _).drew
   have G := Lib.hid (G.out.trans g0)
   have htk := SlL.take encRack_len HL.out HN.out k (by omega)
   have hkc : k ≤ c := by omega
   repeat (refine wpE_readB (v := ?_) g0 rfl rfl (fun w' hg => ?_) (fun K hK => ?_); rotate_left; (go_simp; rfl); go_simp; refine hK _ _ ?_; clear hK K)
   refine wpE_fnV (args := ?_) rfl rfl rfl rfl rfl he ?_ (fun K hK => ?_)
   rotate_left
   ·go_simp; rfl
   refine (H5.out _ G.out x (l.take k) (some ⟨b, o, none⟩) k c (SlL.grow htk G.out) (by rw [List.length_take, HN.out]; omega) (by omega)).mono ?_
   rintro _ w7 ⟨r7, rfl, g7, h7⟩
   refine ⟨_, rfl, g7, ?_⟩
   go_simp
   refine hK _ _ ?_
   clear hK K
   obtain ⟨t, rfl, ht⟩ := h7
   have Ht := Lib.hid ht
   have G := Lib.hid (G.out.trans g7)
   replace g0 := g0.trans g7
   clear ht g7
   cases t
   ·repeat (refine wpE_readB (v := ?_) g0 rfl rfl (fun w' hg => ?_) (fun K hK => ?_); rotate_left; (go_simp; rfl); go_simp; refine hK _ _ ?_; clear hK K)
    refine wpE_nil ?_
    go_wp2_with fail
    go_ret
    refine ⟨_, rfl, G.out, Tells.no fun h => ?_⟩
    have h2 := h k x HX.out
    have h3 := Ht.out.2 h2
    cases h3
   ·repeat (refine wpE_readB (v := ?_) g0 rfl rfl (fun w' hg => ?_) (fun K hK => ?_); rotate_left; (go_simp; rfl); go_simp; refine hK _ _ ?_; clear hK K)
    refine wpE_nil ?_
    go_wp2_with fail
    refine ⟨⟨k + 1, by go_num, by omega, sound_step HX.out Hp.out (by have := Ht.out; simpa using this), G.out⟩, by simp [RowKit.intOf]; omega⟩
  ·obtain rfl : n = k := by omega
   have HS := Lib.hid (show Sound ok l from fun i x hx => Hp.out i x (by have := (List.getElem?_eq_some_iff.1 hx).1; rw [HN.out] at this; exact this) hx)
   go_wp2_with fail
   go_ret
   exact ⟨_, rfl, G.out, Tells.yes HS.out⟩
set_option maxRecDepth 100000 in
set_option maxHeartbeats 800000 in
theorem mach_sound (w : World) (p : Option Addr) (n c : Nat) (l : List MachM) (v : Value) (ok : MachM → List MachM → Prop) (hl : SlL w 3 encMach (.slice p n c) l) (hn : l.length = n) (hb : n ≤ 1000000) (hcap : n ≤ c) (hv : Chk w v 3 encMach ok) :
  Calls Tryz.prog 104 #[.slice p n c, v] w (Ret w fun r _ => Tells (Sound ok l) r) := by
 obtain ⟨f, caps, rfl, he, h5⟩ := hv
 have H5 := Lib.hid h5
 have HL := Lib.hid hl
 have HN := Lib.hid hn
 have HCap := Lib.hid hcap
 clear h5 hl hn
 go_enter Tryz.func104, Tryz.ntmps104
 go_wp2_with fail
 go_loopw [9] (fun i w1 => ∃ k : Nat, i = .int .i64 k ∧ k ≤ n ∧ (∀ j x, j < k → l[j]? = some x → ok x (l.take j)) ∧ Gr w w1) (fun i _ => n - (RowKit.intOf i).toNat)
 case atStart => exact ⟨0, rfl, Nat.zero_le _, fun j x hj => by omega, Gr.refl _⟩
 case round =>
  obtain ⟨k, rfl, hk, hp, hg⟩ := hrel
  have Hp := Lib.hid hp
  have G := Lib.hid hg
  clear hp hg
  by_cases hlt : k < n
  ·have hlt' : (k : Int) < (n : Int) := by omega
   obtain ⟨b, o, x, rfl, hx, hc⟩ := mach_at HL.out HN.out hlt
   have HX := Lib.hid hx
   obtain ⟨c0, c1, c2⟩ := hc wr G.out
   clear hc hx
   go_wp2_with fail
   have B := Cells.new wr #[.string ⟨x.name.toArray⟩, .int .i64 x.rack, .int .i64 x.cap] 58
   clear c0 c1 c2
   generalize wr.heap.size = b6 at B ⊢
   generalize wr.alloc _ = w6 at B ⊢
   obtain ⟨g6, t6⟩ := B
   have G := Lib.hid (G.out.trans g6)
   clear g6
   have T6 := Lib.hid t6
   clear t6
   refine wp_region_fast [(0, true), (1, true), (2, true), (3, true), (4, true), (5, false), (6, true)] (by kernel_rfl) (by kernel_rfl) rfl (by kernel_rfl) (fun _ _ d _ _ h => by cases d <;> exact h) ?_
   have d0 := T6.out.c 0 rfl; have d1 := T6.out.c 1 rfl; have d2 := T6.out.c 2 rfl
   have g0 : Gr w6 w6.drew := (Gr.refl _).drew
   have G := Lib.hid (G.out.trans g0)
   have htk := SlL.take encMach_len HL.out HN.out k (by omega)
   have hkc : k ≤ c := by omega
   repeat (refine wpE_readB (v := ?_) g0 rfl rfl (fun w' hg => ?_) (fun K hK => ?_); rotate_left; (go_simp; rfl); go_simp; refine hK _ _ ?_; clear hK K)
   refine wpE_fnV (args := ?_) rfl rfl rfl rfl rfl he ?_ (fun K hK => ?_)
   rotate_left
   ·go_simp; rfl
   refine (H5.out _ G.out x (l.take k) (some ⟨b, o, none⟩) k c (SlL.grow htk G.out) (by rw [List.length_take, HN.out]; omega) (by omega)).mono ?_
   rintro _ w7 ⟨r7, rfl, g7, h7⟩
   refine ⟨_, rfl, g7, ?_⟩
   go_simp
   refine hK _ _ ?_
   clear hK K
   obtain ⟨t, rfl, ht⟩ := h7
   have Ht := Lib.hid ht
   have G := Lib.hid (G.out.trans g7)
   replace g0 := g0.trans g7
   clear ht g7
   cases t
   ·repeat (refine wpE_readB (v := ?_) g0 rfl rfl (fun w' hg => ?_) (fun K hK => ?_); rotate_left; (go_simp; rfl); go_simp; refine hK _ _ ?_; clear hK K)
    refine wpE_nil ?_
    go_wp2_with fail
    go_ret
    refine ⟨_, rfl, G.out, Tells.no fun h => ?_⟩
    have h2 := h k x HX.out
    have h3 := Ht.out.2 h2
    cases h3
   ·repeat (refine wpE_readB (v := ?_) g0 rfl rfl (fun w' hg => ?_) (fun K hK => ?_); rotate_left; (go_simp; rfl); go_simp; refine hK _ _ ?_; clear hK K)
    refine wpE_nil ?_
    go_wp2_with fail
    refine ⟨⟨k + 1, by go_num, by omega, sound_step HX.out Hp.out (by have := Ht.out; simpa using this), G.out⟩, by simp [RowKit.intOf]; omega⟩
  ·obtain rfl : n = k := by omega
   have HS := Lib.hid (show Sound ok l from fun i x hx => Hp.out i x (by have := (List.getElem?_eq_some_iff.1 hx).1; rw [HN.out] at this; exact this) hx)
   go_wp2_with fail
   go_ret
   exact ⟨_, rfl, G.out, Tells.yes HS.out⟩
set_option maxRecDepth 100000 in
set_option maxHeartbeats 800000 in
theorem link_sound (w : World) (p : Option Addr) (n c : Nat) (l : List LinkM) (v : Value) (ok : LinkM → List LinkM → Prop) (hl : SlL w 3 encLink (.slice p n c) l) (hn : l.length = n) (hb : n ≤ 1000000) (hcap : n ≤ c) (hv : Chk w v 3 encLink ok) :
  Calls Tryz.prog 107 #[.slice p n c, v] w (Ret w fun r _ => Tells (Sound ok l) r) := by
 obtain ⟨f, caps, rfl, he, h5⟩ := hv
 have H5 := Lib.hid h5
 have HL := Lib.hid hl
 have HN := Lib.hid hn
 have HCap := Lib.hid hcap
 clear h5 hl hn
 go_enter Tryz.func107, Tryz.ntmps107
 go_wp2_with fail
 go_loopw [9] (fun i w1 => ∃ k : Nat, i = .int .i64 k ∧ k ≤ n ∧ (∀ j x, j < k → l[j]? = some x → ok x (l.take j)) ∧ Gr w w1) (fun i _ => n - (RowKit.intOf i).toNat)
 case atStart => exact ⟨0, rfl, Nat.zero_le _, fun j x hj => by omega, Gr.refl _⟩
 case round =>
  obtain ⟨k, rfl, hk, hp, hg⟩ := hrel
  have Hp := Lib.hid hp
  have G := Lib.hid hg
  clear hp hg
  by_cases hlt : k < n
  ·have hlt' : (k : Int) < (n : Int) := by omega
   obtain ⟨b, o, x, rfl, hx, hc⟩ := link_at HL.out HN.out hlt
   have HX := Lib.hid hx
   obtain ⟨c0, c1, c2⟩ := hc wr G.out
   clear hc hx
   go_wp2_with fail
   have B := Cells.new wr #[.int .i64 x.a, .int .i64 x.b, .int .i64 x.cap] 117
   clear c0 c1 c2
   generalize wr.heap.size = b6 at B ⊢
   generalize wr.alloc _ = w6 at B ⊢
   obtain ⟨g6, t6⟩ := B
   have G := Lib.hid (G.out.trans g6)
   clear g6
   have T6 := Lib.hid t6
   clear t6
   refine wp_region_fast [(0, true), (1, true), (2, true), (3, true), (4, true), (5, false), (6, true)] (by kernel_rfl) (by kernel_rfl) rfl (by kernel_rfl) (fun _ _ d _ _ h => by cases d <;> exact h) ?_
   have d0 := T6.out.c 0 rfl; have d1 := T6.out.c 1 rfl; have d2 := T6.out.c 2 rfl
   have g0 : Gr w6 w6.drew := (Gr.refl _).drew
   have G := Lib.hid (G.out.trans g0)
   have htk := SlL.take encLink_len HL.out HN.out k (by omega)
   have hkc : k ≤ c := by omega
   repeat (refine wpE_readB (v := ?_) g0 rfl rfl (fun w' hg => ?_) (fun K hK => ?_); rotate_left; (go_simp; rfl); go_simp; refine hK _ _ ?_; clear hK K)
   refine wpE_fnV (args := ?_) rfl rfl rfl rfl rfl he ?_ (fun K hK => ?_)
   rotate_left
   ·go_simp; rfl
   refine (H5.out _ G.out x (l.take k) (some ⟨b, o, none⟩) k c (SlL.grow htk G.out) (by rw [List.length_take, HN.out]; omega) (by omega)).mono ?_
   rintro _ w7 ⟨r7, rfl, g7, h7⟩
   refine ⟨_, rfl, g7, ?_⟩
   go_simp
   refine hK _ _ ?_
   clear hK K
   obtain ⟨t, rfl, ht⟩ := h7
   have Ht := Lib.hid ht
   have G := Lib.hid (G.out.trans g7)
   replace g0 := g0.trans g7
   clear ht g7
   cases t
   ·repeat (refine wpE_readB (v := ?_) g0 rfl rfl (fun w' hg => ?_) (fun K hK => ?_); rotate_left; (go_simp; rfl); go_simp; refine hK _ _ ?_; clear hK K)
    refine wpE_nil ?_
    go_wp2_with fail
    go_ret
    refine ⟨_, rfl, G.out, Tells.no fun h => ?_⟩
    have h2 := h k x HX.out
    have h3 := Ht.out.2 h2
    cases h3
   ·repeat (refine wpE_readB (v := ?_) g0 rfl rfl (fun w' hg => ?_) (fun K hK => ?_); rotate_left; (go_simp; rfl); go_simp; refine hK _ _ ?_; clear hK K)
    refine wpE_nil ?_
    go_wp2_with fail
    refine ⟨⟨k + 1, by go_num, by omega, sound_step HX.out Hp.out (by have := Ht.out; simpa using this), G.out⟩, by simp [RowKit.intOf]; omega⟩
  ·obtain rfl : n = k := by omega
   have HS := Lib.hid (show Sound ok l from fun i x hx => Hp.out i x (by have := (List.getElem?_eq_some_iff.1 hx).1; rw [HN.out] at this; exact this) hx)
   go_wp2_with fail
   go_ret
   exact ⟨_, rfl, G.out, Tells.yes HS.out⟩

theorem clo_rack (w : World) (bx : Nat) (x y : RackM) (hx : Cells w bx #[.string ⟨x.name.toArray⟩, .int .i64 x.site, .int .i64 x.feed]) :
  Calls Tryz.prog 102 #[.agg #[.string ⟨y.name.toArray⟩, .int .i64 y.site, .int .i64 y.feed], .pointer (some ⟨bx, 0, none⟩)] w (Ret w fun r _ => Tells (y.feed = x.feed ∧ y.site ≠ x.site) r) := by
 have G := Lib.hid (show Gr w (w.alloc (.cells #[.string ⟨y.name.toArray⟩, .int .i64 y.site, .int .i64 y.feed] 56)) from (Gr.refl w).alloc _)
 have HX := Lib.hid hx
 clear hx
 have d1 := (HX.out.grow G.out).at 1 rfl
 have d2 := (HX.out.grow G.out).at 2 rfl
 by_cases e1 : y.feed = x.feed
 ·have e1b : (y.feed == x.feed) = true := by simpa using e1
  have E1 := Lib.hid e1
  clear e1
  by_cases e2 : y.site = x.site
  ·have e2b : (y.site != x.site) = false := by simpa using e2
   have E2 := Lib.hid e2
   clear e2
   go_enter Tryz.func102, Tryz.ntmps102
   go_wp2_with fail
   go_ret
   exact ⟨_, rfl, G.out, Tells.no fun h => h.2 E2.out⟩
  ·have e3 : (y.site != x.site) = true := by simpa using e2
   have E2 := Lib.hid e2
   clear e2
   go_enter Tryz.func102, Tryz.ntmps102
   go_wp2_with fail
   go_ret
   exact ⟨_, rfl, G.out, Tells.yes ⟨E1.out, E2.out⟩⟩
 ·have e1b : (y.feed == x.feed) = false := by simpa using e1
  have E1 := Lib.hid e1
  clear e1
  go_enter Tryz.func102, Tryz.ntmps102
  go_wp2_with fail
  go_ret
  exact ⟨_, rfl, G.out, Tells.no fun h => E1.out h.1⟩
theorem prd_rack (w : World) (bx : Nat) (x : RackM) (hx : Cells w bx #[.string ⟨x.name.toArray⟩, .int .i64 x.site, .int .i64 x.feed]) :
  Prd w (.func (.func 102) #[] #[.pointer (some ⟨bx, 0, none⟩)]) encRack (fun y => y.feed = x.feed ∧ y.site ≠ x.site) :=
 ⟨_, _, rfl, enters_of Tryz.func102 (by kernel_rfl) rfl, fun w' g y => clo_rack w' bx x y (hx.grow g)⟩

set_option maxRecDepth 100000 in
theorem clo_racks (w : World) (bm : Nat) (P : Ptrs) (M : Mdl) (x : RackM) (l : List RackM) (p : Option Addr) (n c : Nat) (hm : Cells w bm (mcells P M)) (hl : SlL w 3 encRack (.slice p n c) l) (hn : l.length = n) (hb : n ≤ 1000000) :
  Calls Tryz.prog 101 #[.agg #[.string ⟨x.name.toArray⟩, .int .i64 x.site, .int .i64 x.feed], .slice p n c, .pointer (some ⟨bm, 0, none⟩)] w (Ret w fun r _ => Tells (RackOK M x l) r) := by
 have HM := Lib.hid hm
 have HL := Lib.hid hl
 have HN := Lib.hid hn
 have B := Cells.new w #[.string ⟨x.name.toArray⟩, .int .i64 x.site, .int .i64 x.feed] 56
 clear hm hl hn
 have m0 := mc0 HM.out _ B.1
 have x0 := B.2.at 1 rfl
 have x2 := B.2.at 2 rfl
 go_enter Tryz.func101, Tryz.ntmps101
 go_wp2_with fail
 clear m0 x0 x2
 generalize w.heap.size = b3 at B ⊢
 generalize w.alloc _ = W at B ⊢
 obtain ⟨g, t3⟩ := B
 have G := Lib.hid g
 have T3 := Lib.hid t3
 clear t3
 have m0 := mc0 HM.out _ g
 have m1 := mc1 HM.out _ g
 have x0 := T3.out.at 1 rfl
 have x2 := T3.out.at 2 rfl
 clear g
 refine (site_exists _ _ _).mono ?_
 rintro _ w1 ⟨⟨v1, rfl, h1⟩, rfl⟩
 rcases h1.cases with ⟨rfl, k1⟩ | ⟨rfl, k1⟩ <;> have H1 := Lib.hid k1 <;> clear k1 h1
 rotate_left
 ·go_wp2_with fail
  go_ret
  exact ⟨_, rfl, G.out, Tells.no fun h => H1.out h.1⟩
 ·go_wp2_with fail
  refine (site_exists _ _ _).mono ?_
  rintro _ w1 ⟨⟨v1, rfl, h1⟩, rfl⟩
  rcases h1.cases with ⟨rfl, k1⟩ | ⟨rfl, k1⟩ <;> have H2 := Lib.hid k1 <;> clear k1 h1
  rotate_left
  ·go_wp2_with fail
   go_ret
   exact ⟨_, rfl, G.out, Tells.no fun h => H2.out h.2.1⟩
  ·go_wp2_with fail
   clear m0 m1 x0 x2
   refine (rack_contains W p n c l _ _ (SlL.grow HL.out G.out) HN.out hb (prd_rack W b3 x T3.out)).mono ?_
   rintro _ w3 ⟨v3, rfl, g3, h3⟩
   have G := Lib.hid (G.out.trans g3)
   clear g3
   rcases h3.cases with ⟨rfl, k1⟩ | ⟨rfl, k1⟩ <;> have H3 := Lib.hid k1 <;> clear k1 h3
   ·go_wp2_with fail
    go_ret
    exact ⟨_, rfl, G.out, Tells.no fun h => by
     obtain ⟨y, hy, k⟩ := H3.out
     exact h.2.2 y hy k⟩
   ·go_wp2_with fail
    go_ret
    exact ⟨_, rfl, G.out, Tells.yes ⟨H1.out, H2.out, fun y hy h => H3.out ⟨y, hy, h⟩⟩⟩
end Go.Proofs.YtnlocdijdfclcaaGreatDoor
namespace Go.Proofs.YtnlocdijdfclcaaGreatDoor
open Go.RowKit Go.Lib Lex
set_option linter.unusedVariables false
set_option linter.unusedSimpArgs false

theorem chk_rack (w : World) (bm : Nat) (P : Ptrs) (M : Mdl) (hm : Cells w bm (mcells P M)) : Chk w (.func (.func 101) #[] #[.pointer (some ⟨bm, 0, none⟩)]) 3 encRack (RackOK M) :=
 ⟨_, _, rfl, enters_of Tryz.func101 (by kernel_rfl) rfl, fun w' g x l p n c hl hn hb => clo_racks w' bm P M x l p n c (hm.grow g) hl hn hb⟩
set_option maxRecDepth 100000 in
theorem clo_machs (w : World) (bm : Nat) (P : Ptrs) (M : Mdl) (x : MachM) (v : Value) (hm : Cells w bm (mcells P M)) :
  Calls Tryz.prog 105 #[.agg #[.string ⟨x.name.toArray⟩, .int .i64 x.rack, .int .i64 x.cap], v, .pointer (some ⟨bm, 0, none⟩)] w (Ret w fun r _ => Tells (MachOK M x) r) := by
 have HM := Lib.hid hm
 have B := Cells.new w #[.string ⟨x.name.toArray⟩, .int .i64 x.rack, .int .i64 x.cap] 58
 clear hm
 have m2 := mc2 HM.out _ B.1
 have x1 := B.2.at 1 rfl
 have x2 := B.2.at 2 rfl
 have G := Lib.hid B.1
 go_enter Tryz.func105, Tryz.ntmps105
 go_wp2_with fail
 refine (site_exists _ _ _).mono ?_
 rintro _ w1 ⟨⟨v1, rfl, h1⟩, rfl⟩
 rcases h1.cases with ⟨rfl, k1⟩ | ⟨rfl, k1⟩ <;> have H1 := Lib.hid k1 <;> clear k1 h1
 ·go_wp2_with fail
  refine (site_amount _ _).mono ?_
  rintro _ w1 ⟨⟨v1, rfl, h1⟩, rfl⟩
  rcases h1.cases with ⟨rfl, k1⟩ | ⟨rfl, k1⟩ <;> have H2 := Lib.hid k1 <;> clear k1 h1
  ·go_wp2_with fail
   go_ret
   exact ⟨_, rfl, G.out, Tells.yes ⟨H1.out, H2.out⟩⟩
  ·go_wp2_with fail
   go_ret
   exact ⟨_, rfl, G.out, Tells.no fun h => H2.out h.2⟩
 ·go_wp2_with fail
  go_ret
  exact ⟨_, rfl, G.out, Tells.no fun h => H1.out h.1⟩
theorem chk_mach (w : World) (bm : Nat) (P : Ptrs) (M : Mdl) (hm : Cells w bm (mcells P M)) : Chk w (.func (.func 105) #[] #[.pointer (some ⟨bm, 0, none⟩)]) 3 encMach (fun x _ => MachOK M x) :=
 ⟨_, _, rfl, enters_of Tryz.func105 (by kernel_rfl) rfl, fun w' g x l p n c hl hn hb => clo_machs w' bm P M x _ (hm.grow g)⟩
theorem clo_link (w : World) (bx : Nat) (x y : LinkM) (hx : Cells w bx #[.int .i64 x.a, .int .i64 x.b, .int .i64 x.cap]) :
  Calls Tryz.prog 109 #[.agg #[.int .i64 y.a, .int .i64 y.b, .int .i64 y.cap], .pointer (some ⟨bx, 0, none⟩)] w (Ret w fun r _ => Tells (y.a = x.a ∧ y.b = x.b) r) := by
 have G := Lib.hid (show Gr w (w.alloc (.cells #[.int .i64 y.a, .int .i64 y.b, .int .i64 y.cap] 117)) from (Gr.refl w).alloc _)
 have HX := Lib.hid hx
 clear hx
 have d1 := (HX.out.grow G.out).at 0 rfl
 have d2 := (HX.out.grow G.out).at 1 rfl
 by_cases e1 : y.a = x.a
 ·have e1b : (y.a == x.a) = true := by simpa using e1
  have E1 := Lib.hid e1
  clear e1
  by_cases e2 : y.b = x.b
  ·have e2b : (y.b == x.b) = true := by simpa using e2
   have E2 := Lib.hid e2
   clear e2
   go_enter Tryz.func109, Tryz.ntmps109
   go_wp2_with fail
   go_ret
   exact ⟨_, rfl, G.out, Tells.yes ⟨E1.out, E2.out⟩⟩
  ·have e3 : (y.b == x.b) = false := by simpa using e2
   have E2 := Lib.hid e2
   clear e2
   go_enter Tryz.func109, Tryz.ntmps109
   go_wp2_with fail
   go_ret
   exact ⟨_, rfl, G.out, Tells.no fun h => E2.out h.2⟩
 ·have e1b : (y.a == x.a) = false := by simpa using e1
  have E1 := Lib.hid e1
  clear e1
  go_enter Tryz.func109, Tryz.ntmps109
  go_wp2_with fail
  go_ret
  exact ⟨_, rfl, G.out, Tells.no fun h => E1.out h.1⟩
theorem prd_link (w : World) (bx : Nat) (x : LinkM) (hx : Cells w bx #[.int .i64 x.a, .int .i64 x.b, .int .i64 x.cap]) :
  Prd w (.func (.func 109) #[] #[.pointer (some ⟨bx, 0, none⟩)]) encLink (fun y => y.a = x.a ∧ y.b = x.b) :=
 ⟨_, _, rfl, enters_of Tryz.func109 (by kernel_rfl) rfl, fun w' g y => clo_link w' bx x y (hx.grow g)⟩
set_option maxRecDepth 100000 in
theorem clo_links (w : World) (bm : Nat) (P : Ptrs) (M : Mdl) (x : LinkM) (l : List LinkM) (p : Option Addr) (n c : Nat) (hm : Cells w bm (mcells P M)) (hl : SlL w 3 encLink (.slice p n c) l) (hn : l.length = n) (hb : n ≤ 1000000) :
  Calls Tryz.prog 108 #[.agg #[.int .i64 x.a, .int .i64 x.b, .int .i64 x.cap], .slice p n c, .pointer (some ⟨bm, 0, none⟩)] w (Ret w fun r _ => Tells (LinkOK M x l) r) := by
 have HM := Lib.hid hm
 have HL := Lib.hid hl
 have HN := Lib.hid hn
 have B := Cells.new w #[.int .i64 x.a, .int .i64 x.b, .int .i64 x.cap] 117
 clear hm hl hn
 have m0 := mc0 HM.out _ B.1
 have x0 := B.2.at 0 rfl
 have x1 := B.2.at 1 rfl
 have x2 := B.2.at 2 rfl
 have G := Lib.hid B.1
 have T3 := Lib.hid B.2
 clear B
 by_cases h1 : 1 ≤ x.a
 ·by_cases h2 : x.a < x.b
  ·by_cases h3 : x.b ≤ (M.sites.length : Int)
   ·go_enter Tryz.func108, Tryz.ntmps108
    go_wp2_with fail
    refine (site_amount _ _).mono ?_
    rintro _ w1 ⟨⟨v1, rfl, h1⟩, rfl⟩
    rcases h1.cases with ⟨rfl, k1⟩ | ⟨rfl, k1⟩ <;> have H2 := Lib.hid k1 <;> clear k1 h1
    ·go_wp2_with fail
     generalize w.alloc _ = W at m0 x0 x1 x2 G T3 ⊢
     generalize w.heap.size = b3 at x0 x1 x2 T3 ⊢
     clear m0 x0 x1 x2
     refine (link_contains W p n c l _ _ (SlL.grow HL.out G.out) HN.out hb (prd_link W b3 x T3.out)).mono ?_
     rintro _ w3 ⟨v1, rfl, g1, h1⟩
     have G := Lib.hid (G.out.trans g1)
     clear g1
     rcases h1.cases with ⟨rfl, k1⟩ | ⟨rfl, k1⟩ <;> have H3 := Lib.hid k1 <;> clear k1 h1
     ·go_wp2_with fail
      go_ret
      exact ⟨_, rfl, G.out, Tells.no fun h => by obtain ⟨y, hy, k⟩ := H3.out; exact h.2.2.2.2 y hy k⟩
     ·go_wp2_with fail
      go_ret
      exact ⟨_, rfl, G.out, Tells.yes ⟨h1, h2, h3, H2.out, fun y hy h => H3.out ⟨y, hy, h⟩⟩⟩
    ·go_wp2_with fail
     go_ret
     exact ⟨_, rfl, G.out, Tells.no fun h => H2.out h.2.2.2.1⟩
   ·go_enter Tryz.func108, Tryz.ntmps108
    go_wp2_with fail
    go_ret
    exact ⟨_, rfl, G.out, Tells.no fun h => by have := h.2.2.1; omega⟩
  ·go_enter Tryz.func108, Tryz.ntmps108
   go_wp2_with fail
   go_ret
   exact ⟨_, rfl, G.out, Tells.no fun h => by have := h.2.1; omega⟩
 ·go_enter Tryz.func108, Tryz.ntmps108
  go_wp2_with fail
  go_ret
  exact ⟨_, rfl, G.out, Tells.no fun h => by have := h.1; omega⟩
theorem chk_link (w : World) (bm : Nat) (P : Ptrs) (M : Mdl) (hm : Cells w bm (mcells P M)) : Chk w (.func (.func 108) #[] #[.pointer (some ⟨bm, 0, none⟩)]) 3 encLink (LinkOK M) :=
 ⟨_, _, rfl, enters_of Tryz.func108 (by kernel_rfl) rfl, fun w' g x l p n c hl hn hb => clo_links w' bm P M x l p n c (hm.grow g) hl hn hb⟩
end Go.Proofs.YtnlocdijdfclcaaGreatDoor
namespace Go.Proofs.YtnlocdijdfclcaaGreatDoor
open Go.RowKit Go.Lib Lex
set_option linter.unusedVariables false
set_option linter.unusedSimpArgs false

set_option maxRecDepth 100000 in
set_option maxHeartbeats 1600000 in
theorem site_Valid (w : World) (P : Ptrs) (M : Mdl) (hm : MdlAt w P M) (hf : Few M) :
  Calls Tryz.prog 66 #[.agg (mcells P M)] w (Ret w fun r _ => Tells (SiteOK M) r) := by
 obtain ⟨⟨l0, l1, l2, l3, l4, l5, l6⟩, -⟩ := hf
 have HM := Lib.hid hm
 have B := Cells.new w (mcells P M) 29
 clear hm
 have m0 := mc0 B.2 _ (Gr.refl _)
 have m1 := mc1 B.2 _ (Gr.refl _)
 have m2 := mc2 B.2 _ (Gr.refl _)
 have m3 := mc3 B.2 _ (Gr.refl _)
 have m4 := mc4 B.2 _ (Gr.refl _)
 have m5 := mc5 B.2 _ (Gr.refl _)
 have m6 := mc6 B.2 _ (Gr.refl _)
 have m7 := mc7 B.2 _ (Gr.refl _)
 have m8 := mc8 B.2 _ (Gr.refl _)
 have m9 := mc9 B.2 _ (Gr.refl _)
 have m10 := mc10 B.2 _ (Gr.refl _)
 unfold mcells at B m0 m1 m2 m3 m4 m5 m6 m7 m8 m9 m10 ⊢
 go_enter Tryz.func66, Tryz.ntmps66
 go_wp2_with fail
 clear m0 m1 m2 m3 m4 m5 m6 m7 m8 m9 m10
 generalize w.heap.size = bm at B ⊢
 generalize w.alloc _ = W at B ⊢
 obtain ⟨g0, tm⟩ := B
 have TM := Lib.hid (show Cells W bm (mcells P M) from tm)
 have G := Lib.hid g0
 have HM := Lib.hid (HM.out.grow g0)
 clear g0 tm
 have m0 := mc0 TM.out _ (Gr.refl _)
 have m1 := mc1 TM.out _ (Gr.refl _)
 have m2 := mc2 TM.out _ (Gr.refl _)
 have m3 := mc3 TM.out _ (Gr.refl _)
 have m4 := mc4 TM.out _ (Gr.refl _)
 have m5 := mc5 TM.out _ (Gr.refl _)
 have m6 := mc6 TM.out _ (Gr.refl _)
 have m7 := mc7 TM.out _ (Gr.refl _)
 have m8 := mc8 TM.out _ (Gr.refl _)
 have m9 := mc9 TM.out _ (Gr.refl _)
 have m10 := mc10 TM.out _ (Gr.refl _)
 refine (site_exists _ _ _).mono ?_
 rintro _ w1 ⟨⟨v1, rfl, h1⟩, rfl⟩
 rcases h1.cases with ⟨rfl, k1⟩ | ⟨rfl, k1⟩ <;> have H0 := Lib.hid k1 <;> clear k1 h1
 ·by_cases h1 : M.feeds.length ≤ 16
  ·have h1' : ¬ (16 : Int) < (M.feeds.length : Int) := by omega
   by_cases h2 : M.racks.length ≤ 16
   ·have h2' : ¬ (16 : Int) < (M.racks.length : Int) := by omega
    go_wp2_with fail
    refine (site_exists _ _ _).mono ?_
    rintro _ w1 ⟨⟨v1, rfl, h1⟩, rfl⟩
    rcases h1.cases with ⟨rfl, k1⟩ | ⟨rfl, k1⟩ <;> have H3 := Lib.hid k1 <;> clear k1 h1
    ·by_cases h4 : M.links.length ≤ 12
     ·have h4' : ¬ (12 : Int) < (M.links.length : Int) := by omega
      go_wp2_with fail
      clear m0 m1 m2 m3 m4 m5 m6 m7 m8 m9 m10
      refine (rack_sound W P.p2 M.racks.length P.c2 M.racks _ (RackOK M) HM.out.racks rfl (by omega) (by have := HM.out.racks.parts; obtain ⟨p, c, e, k, _⟩ := this; cases e; exact k) (chk_rack W bm P M TM.out)).mono ?_
      rintro _ w5 ⟨v5, rfl, g5, t5⟩
      have G := Lib.hid (G.out.trans g5)
      have HM := Lib.hid (HM.out.grow g5)
      have TM := Lib.hid (TM.out.grow g5)
      clear g5
      obtain ⟨b5, rfl, t5⟩ := t5
      have H5 := Lib.hid t5
      clear t5
      have m0 := mc0 TM.out _ (Gr.refl _)
      have m1 := mc1 TM.out _ (Gr.refl _)
      have m2 := mc2 TM.out _ (Gr.refl _)
      have m3 := mc3 TM.out _ (Gr.refl _)
      have m4 := mc4 TM.out _ (Gr.refl _)
      have m5 := mc5 TM.out _ (Gr.refl _)
      have m6 := mc6 TM.out _ (Gr.refl _)
      have m7 := mc7 TM.out _ (Gr.refl _)
      have m8 := mc8 TM.out _ (Gr.refl _)
      have m9 := mc9 TM.out _ (Gr.refl _)
      have m10 := mc10 TM.out _ (Gr.refl _)
      go_wp2_with fail
      clear m0 m1 m2 m3 m4 m5 m6 m7 m8 m9 m10
      refine (mach_sound w5 P.p3 M.machs.length P.c3 M.machs _ (fun x _ => MachOK M x) HM.out.machs rfl (by omega) (by have := HM.out.machs.parts; obtain ⟨p, c, e, k, _⟩ := this; cases e; exact k) (chk_mach w5 bm P M TM.out)).mono ?_
      rintro _ w6 ⟨v6, rfl, g6, t6⟩
      have G := Lib.hid (G.out.trans g6)
      have HM := Lib.hid (HM.out.grow g6)
      have TM := Lib.hid (TM.out.grow g6)
      clear g6
      obtain ⟨b6, rfl, t6⟩ := t6
      have H6 := Lib.hid t6
      clear t6
      have m0 := mc0 TM.out _ (Gr.refl _)
      have m1 := mc1 TM.out _ (Gr.refl _)
      have m2 := mc2 TM.out _ (Gr.refl _)
      have m3 := mc3 TM.out _ (Gr.refl _)
      have m4 := mc4 TM.out _ (Gr.refl _)
      have m5 := mc5 TM.out _ (Gr.refl _)
      have m6 := mc6 TM.out _ (Gr.refl _)
      have m7 := mc7 TM.out _ (Gr.refl _)
      have m8 := mc8 TM.out _ (Gr.refl _)
      have m9 := mc9 TM.out _ (Gr.refl _)
      have m10 := mc10 TM.out _ (Gr.refl _)
      go_wp2_with fail
      clear m0 m1 m2 m3 m4 m5 m6 m7 m8 m9 m10
      refine (link_sound w6 P.p4 M.links.length P.c4 M.links _ (LinkOK M) HM.out.links rfl (by omega) (by have := HM.out.links.parts; obtain ⟨p, c, e, k, _⟩ := this; cases e; exact k) (chk_link w6 bm P M TM.out)).mono ?_
      rintro _ w7 ⟨v7, rfl, g7, t7⟩
      have G := Lib.hid (G.out.trans g7)
      have HM := Lib.hid (HM.out.grow g7)
      have TM := Lib.hid (TM.out.grow g7)
      clear g7
      obtain ⟨b7, rfl, t7⟩ := t7
      have H7 := Lib.hid t7
      clear t7
      have HA := Lib.hid (show (b5 && (b6 && b7)) = true ↔ SiteOK M by
       have k0 := H0.out
       have e5 := H5.out
       have e6 := H6.out
       have e7 := H7.out
       have k3 := H3.out
       unfold SiteOK
       rw [← e5, ← e6, ← e7, Bool.and_eq_true, Bool.and_eq_true]
       constructor
       ·intro h; exact ⟨⟨by omega, by omega⟩, h1, h2, ⟨by omega, by omega⟩, h4, h⟩
       ·intro h; exact h.2.2.2.2.2)
      clear H0 H3 H5 H6 H7
      cases b5 <;> cases b6 <;> cases b7 <;> (go_wp2_with fail; go_ret; exact ⟨_, rfl, G.out, _, rfl, HA.out⟩)
     ·have h4' : (12 : Int) < (M.links.length : Int) := by omega
      go_wp2_with fail
      go_ret
      exact ⟨_, rfl, G.out, Tells.no fun h => by have := h.2.2.2.2.1; omega⟩
    ·go_wp2_with fail
     go_ret
     exact ⟨_, rfl, G.out, Tells.no fun h => H3.out (by have := h.2.2.2.1; omega)⟩
   ·have h2' : (16 : Int) < (M.racks.length : Int) := by omega
    go_wp2_with fail
    go_ret
    exact ⟨_, rfl, G.out, Tells.no fun h => by have := h.2.2.1; omega⟩
  ·have h1' : (16 : Int) < (M.feeds.length : Int) := by omega
   go_wp2_with fail
   go_ret
   exact ⟨_, rfl, G.out, Tells.no fun h => by have := h.2.1; omega⟩
 ·go_wp2_with fail
  go_ret
  exact ⟨_, rfl, G.out, Tells.no fun h => H0.out (by have := h.1; omega)⟩
end Go.Proofs.YtnlocdijdfclcaaGreatDoor

/-
 placement.State, exodusref20.State.
-/
import Derived.Test.YtnlocdijdfclcaaGreatDoorPlp
namespace Go.Proofs.YtnlocdijdfclcaaGreatDoor
open Go.RowKit Go.Lib Lex
set_option linter.unusedVariables false
set_option linter.unusedSimpArgs false

theorem firstAt_cases {α : Type} (p : α → Bool) (l : List α) : (firstAt p l = -1 ∧ l.find? p = none ∧ l.findIdx? p = none) ∨
  ∃ (k : Nat) (x : α), firstAt p l = (k : Int) ∧ l[k]? = some x ∧ p x = true ∧ l.find? p = some x ∧ l.findIdx? p = some k := by
 cases h : l.findIdx? p with
 | none =>
  left
  refine ⟨by unfold firstAt; rw [h], ?_, rfl⟩
  rw [List.find?_eq_none]
  intro x hx
  have := List.findIdx?_eq_none_iff.1 h x hx
  simpa using this
 | some k =>
  right
  obtain ⟨hk, hp, hb⟩ := List.findIdx?_eq_some_iff_getElem.1 h
  refine ⟨k, l[k], by unfold firstAt; rw [h], List.getElem?_eq_getElem hk, hp, ?_, rfl⟩
  rw [List.find?_eq_some_iff_getElem]
  exact ⟨hp, k, hk, rfl, fun j hj => by have := hb j hj; simpa using this⟩
theorem unitsP_few {X : Plc} (h : FewK X) (item : Int) : (unitsP X item).length ≤ 1000 := by
 unfold unitsP
 split
 ·rw [List.getD_eq_getElem?_getD]
  cases hx : X[(item - 1).toNat]? with
  | none => simp
  | some l => simpa using h.2 l (List.mem_of_getElem? hx)
 ·simp
def stateV (s : Int × Bool) : Value := .tuple #[.int .i64 s.1, .bool s.2]
set_option maxRecDepth 100000 in
set_option maxHeartbeats 800000 in
theorem ref_State (w : World) (p : Option Addr) (c : Nat) (L : List RowU) (item m : Int) (hp : PlcAt w p c L) (hf : FewK (usOf L)) :
  Calls Tryz.prog 30 #[plcV p c L, .int .i64 item, .int .i64 m] w (Ret w fun r _ => r = stateV (stateP (usOf L) item m)) := by
 have HF := Lib.hid hf
 have B := Cells.new w #[.slice p L.length c] 32
 have HB := Lib.hid B
 have HP := Lib.hid (hp.grow B.1)
 have p0 := B.2.at 0 rfl
 clear B hp hf
 unfold plcV
 go_enter Tryz.func30, Tryz.ntmps30
 go_wp2_with fail
 clear p0
 generalize w.heap.size = bp at HB ⊢
 generalize w.alloc _ = W at HB HP ⊢
 have G := Lib.hid HB.out.1
 clear HB
 refine (ref_Units W p c L item HP.out).mono ?_
 rintro _ w1 ⟨_, rfl, g1, x, rfl, hx, hon, hxb⟩
 have HX := Lib.hid hx
 have HON := Lib.hid hon
 have G := Lib.hid (G.out.trans g1)
 have hlen : x.us.length ≤ 1000000 := by rw [hx]; have := unitsP_few HF.out item; omega
 clear hx hon hxb g1
 unfold rowV
 go_wp2_with fail
 refine (ref_index w1 x m HON.out hlen).mono ?_
 rintro _ _ ⟨_, rfl, _, rfl, rfl⟩
 rcases firstAt_cases (onMach m) x.us with ⟨h1, h2, _⟩ | ⟨k, u, h1, h2, _, h3, _⟩
 ·have HS := Lib.hid (show stateP (usOf L) item m = (0, false) from by unfold stateP; rw [← HX.out, h2])
  rw [h1]
  clear h1 h2
  go_wp2_with fail
  try rw [Exit.noGoto_ret]
  go_ret2
  exact ⟨_, rfl, G.out, by rw [HS.out]; rfl⟩
 ·have HS := Lib.hid (show stateP (usOf L) item m = (u.st, true) from by unfold stateP; rw [← HX.out, h3])
  rw [h1]
  have hk := (List.getElem?_eq_some_iff.1 h2).1
  obtain ⟨b, o, u', hp, hu, hc⟩ := unit_at (n := x.us.length) HON.out rfl hk
  obtain rfl : u = u' := Option.some.inj (h2.symm.trans hu)
  have hlt' : (k : Int) < (x.us.length : Int) := by omega
  have hk0 : (0 : Int) ≤ (k : Int) := by omega
  have HPP := Lib.hid hp
  have HC := Lib.hid hc
  clear h1 h2 h3 hu hc hp
  have hpp := HPP.out
  obtain ⟨c0, c1⟩ := HC.out _ (Gr.refl _)
  rw [hpp]
  go_wp2_with fail
  go_ret2
  exact ⟨_, rfl, G.out, by rw [HS.out]; rfl⟩
set_option maxRecDepth 100000 in
set_option maxHeartbeats 800000 in
theorem plc_State (w : World) (p : Option Addr) (c : Nat) (L : List RowU) (item m : Int) (hp : PlcAt w p c L) (hf : FewK (usOf L)) :
  Calls Tryz.prog 15 #[plcV p c L, .int .i64 item, .int .i64 m] w (Ret w fun r _ => r = stateV (stateP (usOf L) item m)) := by
 have HF := Lib.hid hf
 have B := Cells.new w #[.slice p L.length c] 32
 have HB := Lib.hid B
 have HP := Lib.hid (hp.grow B.1)
 have p0 := B.2.at 0 rfl
 clear B hp hf
 unfold plcV
 go_enter Tryz.func15, Tryz.ntmps15
 go_wp2_with fail
 clear p0
 generalize w.heap.size = bp at HB ⊢
 generalize w.alloc _ = W at HB HP ⊢
 have G := Lib.hid HB.out.1
 have TP := Lib.hid HB.out.2
 clear HB
 refine (plc_find W p c L item m HP.out HF.out).mono ?_
 rintro _ w1 ⟨_, rfl, g1, rfl⟩
 have G := Lib.hid (G.out.trans g1)
 have TP := Lib.hid (TP.out.grow g1)
 have HP := Lib.hid (HP.out.grow g1)
 clear g1
 unfold idxP
 rcases firstAt_cases (onMach m) (unitsP (usOf L) item) with ⟨h1, h2, _⟩ | ⟨k, u, h1, h2, _, h3, _⟩
 ·have HS := Lib.hid (show stateP (usOf L) item m = (0, false) from by unfold stateP; rw [h2])
  rw [h1]
  clear h1 h2
  go_wp2_with fail
  try rw [Exit.noGoto_ret]
  go_ret2
  exact ⟨_, rfl, G.out, by rw [HS.out]; rfl⟩
 ·have HS := Lib.hid (show stateP (usOf L) item m = (u.st, true) from by unfold stateP; rw [h3])
  rw [h1]
  have H2 := Lib.hid h2
  have p0 := TP.out.at 0 rfl
  clear h1 h2 h3
  go_wp2_with fail
  clear p0
  refine (plc_units w1 p c L item HP.out).mono ?_
  rintro _ w2 ⟨_, rfl, g2, x, rfl, hx, hon, hxb⟩
  have G := Lib.hid (G.out.trans g2)
  have h2 := H2.out
  rw [← hx] at h2
  have hk := (List.getElem?_eq_some_iff.1 h2).1
  obtain ⟨b, o, u', hp, hu, hc⟩ := unit_at (n := x.us.length) hon rfl hk
  obtain rfl : u = u' := Option.some.inj (h2.symm.trans hu)
  have hlt' : (k : Int) < (x.us.length : Int) := by omega
  obtain ⟨c0, c1⟩ := hc _ (Gr.refl _)
  clear h2 hu hc hx hon
  unfold rowV
  rw [hp]
  go_wp2_with fail
  go_ret2
  exact ⟨_, rfl, G.out, by rw [HS.out]; rfl⟩
end Go.Proofs.YtnlocdijdfclcaaGreatDoor

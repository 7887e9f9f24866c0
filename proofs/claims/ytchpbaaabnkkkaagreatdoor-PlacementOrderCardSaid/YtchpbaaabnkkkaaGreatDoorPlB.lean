/-
  placement.State, exodusref20.State.
  placement.filtered, mapped to numbers; Machines; exodusref20.Machines; exodusref14.Ints.
-/
import Derived.Test.YtchpbaaabnkkkaaGreatDoorPlp
import Derived.Test.YtchpbaaabnkkkaaGreatDoorPlq
namespace Go.Proofs.YtchpbaaabnkkkaaGreatDoor
open Go.RowKit Go.Lib Lex
set_option linter.unusedVariables false
set_option linter.unusedSimpArgs false

theorem firstAt_cases {α : Type} (p : α → Bool) (l : List α) : (firstAt p l = -1 ∧ l.find? p = none ∧ l.findIdx? p = none) ∨
  ∃ (k : Nat) (x : α), firstAt p l = (k : Int) ∧ l[k]? = some x ∧ p x = true ∧ l.find? p = some x ∧ l.findIdx? p = some k := by
 cases h : l.findIdx? p with
 | none =>
  left
  refine ⟨by unfold firstAt; rw [h], ?_, rfl⟩
  rw [List.find?_eq_none]
  intro x hx
  have := List.findIdx?_eq_none_iff.1 h x hx
  simpa using this
 | some k =>
  right
  obtain ⟨hk, hp, hb⟩ := List.findIdx?_eq_some_iff_getElem.1 h
  refine ⟨k, l[k], by unfold firstAt; rw [h], List.getElem?_eq_getElem hk, hp, ?_, rfl⟩
  rw [List.find?_eq_some_iff_getElem]
  exact ⟨hp, k, hk, rfl, fun j hj => by have := hb j hj; simpa using this⟩
theorem unitsP_few {X : Plc} (h : FewK X) (item : Int) : (unitsP X item).length ≤ 1000 := by
 unfold unitsP
 split
 ·rw [List.getD_eq_getElem?_getD]
  cases hx : X[(item - 1).toNat]? with
  | none => simp
  | some l => simpa using h.2 l (List.mem_of_getElem? hx)
 ·simp
def stateV (s : Int × Bool) : Value := .tuple #[.int .i64 s.1, .bool s.2]
set_option maxRecDepth 100000 in
set_option maxHeartbeats 800000 in
theorem ref_State (w : World) (p : Option Addr) (c : Nat) (L : List RowU) (item m : Int) (hp : PlcAt w p c L) (hf : FewK (usOf L)) :
  Calls Tryz.prog 31 #[plcV p c L, .int .i64 item, .int .i64 m] w (Ret w fun r _ => r = stateV (stateP (usOf L) item m)) := by
 have HF := Lib.hid hf
 have B := Cells.new w #[.slice p L.length c] 34
 have HB := Lib.hid B
 have HP := Lib.hid (hp.grow B.1)
 have p0 := B.2.at 0 rfl
 clear B hp hf
 unfold plcV
 go_enter Tryz.func31, Tryz.ntmps31
 go_wp2_with fail
 clear p0
 generalize w.heap.size = bp at HB ⊢
 generalize w.alloc _ = W at HB HP ⊢
 have G := Lib.hid HB.out.1
 clear HB
 refine (ref_Units W p c L item HP.out).mono ?_
 rintro _ w1 ⟨_, rfl, g1, x, rfl, hx, hon, hxb⟩
 have HX := Lib.hid hx
 have HON := Lib.hid hon
 have G := Lib.hid (G.out.trans g1)
 have hlen : x.us.length ≤ 1000000 := by rw [hx]; have := unitsP_few HF.out item; omega
 clear hx hon hxb g1
 unfold rowV
 go_wp2_with fail
 refine (ref_index w1 x m HON.out hlen).mono ?_
 rintro _ _ ⟨_, rfl, _, rfl, rfl⟩
 rcases firstAt_cases (onMach m) x.us with ⟨h1, h2, _⟩ | ⟨k, u, h1, h2, _, h3, _⟩
 ·have HS := Lib.hid (show stateP (usOf L) item m = (0, false) from by unfold stateP; rw [← HX.out, h2])
  rw [h1]
  clear h1 h2
  go_wp2_with fail
  try rw [Exit.noGoto_ret]
  go_ret2
  exact ⟨_, rfl, G.out, by rw [HS.out]; rfl⟩
 ·have HS := Lib.hid (show stateP (usOf L) item m = (u.st, true) from by unfold stateP; rw [← HX.out, h3])
  rw [h1]
  have hk := (List.getElem?_eq_some_iff.1 h2).1
  obtain ⟨b, o, u', hp, hu, hc⟩ := unit_at (n := x.us.length) HON.out rfl hk
  obtain rfl : u = u' := Option.some.inj (h2.symm.trans hu)
  have hlt' : (k : Int) < (x.us.length : Int) := by omega
  have hk0 : (0 : Int) ≤ (k : Int) := by omega
  have HPP := Lib.hid hp
  have HC := Lib.hid hc
  clear h1 h2 h3 hu hc hp
  have hpp := HPP.out
  obtain ⟨c0, c1⟩ := HC.out _ (Gr.refl _)
  rw [hpp]
  go_wp2_with fail
  go_ret2
  exact ⟨_, rfl, G.out, by rw [HS.out]; rfl⟩
set_option maxRecDepth 100000 in
set_option maxHeartbeats 800000 in
theorem plc_State (w : World) (p : Option Addr) (c : Nat) (L : List RowU) (item m : Int) (hp : PlcAt w p c L) (hf : FewK (usOf L)) :
  Calls Tryz.prog 30 #[plcV p c L, .int .i64 item, .int .i64 m] w (Ret w fun r _ => r = stateV (stateP (usOf L) item m)) := by
 have HF := Lib.hid hf
 have B := Cells.new w #[.slice p L.length c] 34
 have HB := Lib.hid B
 have HP := Lib.hid (hp.grow B.1)
 have p0 := B.2.at 0 rfl
 clear B hp hf
 unfold plcV
 go_enter Tryz.func30, Tryz.ntmps30
 go_wp2_with fail
 clear p0
 generalize w.heap.size = bp at HB ⊢
 generalize w.alloc _ = W at HB HP ⊢
 have G := Lib.hid HB.out.1
 have TP := Lib.hid HB.out.2
 clear HB
 refine (plc_find W p c L item m HP.out HF.out).mono ?_
 rintro _ w1 ⟨_, rfl, g1, rfl⟩
 have G := Lib.hid (G.out.trans g1)
 have TP := Lib.hid (TP.out.grow g1)
 have HP := Lib.hid (HP.out.grow g1)
 clear g1
 unfold idxP
 rcases firstAt_cases (onMach m) (unitsP (usOf L) item) with ⟨h1, h2, _⟩ | ⟨k, u, h1, h2, _, h3, _⟩
 ·have HS := Lib.hid (show stateP (usOf L) item m = (0, false) from by unfold stateP; rw [h2])
  rw [h1]
  clear h1 h2
  go_wp2_with fail
  try rw [Exit.noGoto_ret]
  go_ret2
  exact ⟨_, rfl, G.out, by rw [HS.out]; rfl⟩
 ·have HS := Lib.hid (show stateP (usOf L) item m = (u.st, true) from by unfold stateP; rw [h3])
  rw [h1]
  have H2 := Lib.hid h2
  have p0 := TP.out.at 0 rfl
  clear h1 h2 h3
  go_wp2_with fail
  clear p0
  refine (plc_units w1 p c L item HP.out).mono ?_
  rintro _ w2 ⟨_, rfl, g2, x, rfl, hx, hon, hxb⟩
  have G := Lib.hid (G.out.trans g2)
  have h2 := H2.out
  rw [← hx] at h2
  have hk := (List.getElem?_eq_some_iff.1 h2).1
  obtain ⟨b, o, u', hp, hu, hc⟩ := unit_at (n := x.us.length) hon rfl hk
  obtain rfl : u = u' := Option.some.inj (h2.symm.trans hu)
  have hlt' : (k : Int) < (x.us.length : Int) := by omega
  obtain ⟨c0, c1⟩ := hc _ (Gr.refl _)
  clear h2 hu hc hx hon
  unfold rowV
  rw [hp]
  go_wp2_with fail
  go_ret2
  exact ⟨_, rfl, G.out, by rw [HS.out]; rfl⟩
end Go.Proofs.YtchpbaaabnkkkaaGreatDoor
namespace Go.Proofs.YtchpbaaabnkkkaaGreatDoor
open Go.RowKit Go.Lib Lex
set_option linter.unusedVariables false
set_option linter.unusedSimpArgs false

theorem int_info : (Tryz.prog.info? 3).map (fun i => (i.zero, i.size, i.bytes)) = some (some (.int .i64 0), 1, 8) := by kernel_rfl
theorem encI_one : ∀ x, ∀ u ∈ encI x, u.oneCell' = true := fun x u hu => by
 unfold encI at hu
 simp only [List.mem_cons, List.not_mem_nil, or_false] at hu
 subst hu; rfl
def MapU (w : World) (v : Value) (l : List UnitM) (out : UnitM → Value) : Prop := ∃ (f : Nat) (caps : Array Value), v = .func (.func f) #[] caps ∧ (∀ args w, (callFunc f args).run Tryz.prog w = .ok (.enter f args) w) ∧
 ∀ w', Gr w w' → ∀ x ∈ l, Calls Tryz.prog f (#[.agg #[.int .i64 x.mach, .int .i64 x.st]] ++ caps) w' (Ret w' fun r _ => r = out x)
theorem filter_take {α : Type} (p : α → Bool) {l : List α} {k : Nat} {x : α} (h : l[k]? = some x) : (l.take (k + 1)).filter p = (l.take k).filter p ++ if p x = true then [x] else [] := by
 rw [List.take_add_one, h, List.filter_append]
 congr 1
 simp only [Option.toList_some, List.filter_cons, List.filter_nil]
theorem map_take {α β : Type} (g : α → β) {l : List α} {k : Nat} {x : α} (h : l[k]? = some x) : (l.take (k + 1)).map g = (l.take k).map g ++ [g x] := by
 rw [List.take_add_one, h, List.map_append]
 rfl
set_option maxRecDepth 100000 in
set_option maxHeartbeats 800000 in
theorem plc_filtered (w : World) (p : Option Addr) (n c : Nat) (l : List UnitM) (v : Value) (ok : UnitM → Bool) (hl : UnL w (.slice p n c) l) (hn : l.length = n) (hb : n ≤ 1000) (hv : PrdB w v encU ok) :
  Calls Tryz.prog 78 #[.slice p n c, v] w (Ret w fun r w' => OwnU w' w.heap.size r (l.filter ok)) := by
 obtain ⟨f, caps, rfl, he, h5⟩ := hv
 have H5 := Lib.hid h5
 have HL := Lib.hid hl
 have HN := Lib.hid hn
 clear h5 hl hn
 go_enter Tryz.func78, Tryz.ntmps78
 go_wp2_with fail
 go_loopw [5, 10] (fun v i w9 => ∃ (k : Nat) (x : Value), v = x ∧ i = .int .i64 (k : Int) ∧ k ≤ n ∧ OwnU w9 w.heap.size v ((l.take k).filter ok) ∧ Gr w w9) (fun _ i _ => n - (RowKit.intOf i).toNat)
 case atStart => exact ⟨0, _, rfl, rfl, Nat.zero_le _, OwnL.nil _ _ _, Gr.refl _⟩
 case round =>
  obtain ⟨k, v, rfl, rfl, hk, ho, hg⟩ := hrel
  have HO := Lib.hid ho
  have GL := Lib.hid hg
  clear ho hg
  by_cases hlt : k < n
  ·have hlt' : (k : Int) < (n : Int) := by omega
   obtain ⟨b, o, x, rfl, hx, hc⟩ := unit_at (HL.out.grow GL.out) HN.out hlt
   have HX := Lib.hid hx
   obtain ⟨c0, c1⟩ := hc _ (Gr.refl _)
   have HF := Lib.hid (filter_take ok hx)
   have HLE := Lib.hid (show ((l.take k).filter ok).length ≤ 1000 from Nat.le_trans (List.length_filter_le _ _) (by rw [List.length_take]; omega))
   clear hx hc
   obtain ⟨pv, cv, hv, _, _⟩ := HO.out.read.parts
   subst hv
   have B := Cells.new wr #[.int .i64 x.mach, .int .i64 x.st] 74
   have a0 := B.2.at 0 rfl
   have a1 := B.2.at 1 rfl
   have HB := Lib.hid B
   clear B
   go_wp2_with fail
   clear a0 a1 c0 c1
   generalize wr.heap.size = b8 at HB ⊢
   generalize wr.alloc _ = W8 at HB ⊢
   have T8 := Lib.hid HB.out.2
   have GL := Lib.hid (GL.out.trans HB.out.1)
   have HO := Lib.hid (HO.out.grow HB.out.1)
   clear HB
   refine (H5.out W8 GL.out x).mono ?_
   rintro _ w2 ⟨_, rfl, g2, rfl⟩
   have HO := Lib.hid (HO.out.grow g2)
   have GL := Lib.hid (GL.out.trans g2)
   have T8 := Lib.hid (T8.out.grow g2)
   obtain ⟨t, ht⟩ : ∃ t, ok x = t := ⟨_, rfl⟩
   have HF := Lib.hid (show (l.take (k + 1)).filter ok = (l.take k).filter ok ++ if t = true then [x] else [] from by rw [HF.out, ht])
   rw [ht]
   clear ht g2
   cases t
   ·go_wp2_with fail
    exact ⟨⟨k + 1, _, rfl, by go_num, by omega, by rw [HF.out]; simpa using HO.out, GL.out⟩, by simp [RowKit.intOf]; omega⟩
   ·have a0 := T8.out.at 0 rfl
    have a1 := T8.out.at 1 rfl
    go_wp2_with (at_builtin; refine Hold.hold ?_)
    clear a0 a1
    have B8 := SlL.new w2 74 encU_len [x] #[.int .i64 x.mach, .int .i64 x.st] 1 rfl rfl (by decide)
    generalize w2.heap.size = b9 at B8 ⊢
    generalize w2.alloc _ = w8 at B8 ⊢
    obtain ⟨g8, t8⟩ := B8
    refine Hold.go ?_
    refine wpList_appendL rfl _ _ 71 74 _ 16 rfl Tryz.underlying71 unit_info rfl (by decide) encU_len encU_one w.heap.size _ _ _ [x] rfl (HO.out.grow g8) rfl t8 (by have := HLE.out; simp only [List.length_singleton]; omega) (by have := HLE.out; simp only [List.length_singleton]; omega) ((GL.out.trans g8).size) ?_
    intro v' w9 ho9 k9
    have HO9 := Lib.hid ho9
    have G9 := Lib.hid ((HO.out.grow g8).gr (GL.out.trans g8) k9)
    clear ho9 k9 g8 t8
    go_wp2_with fail
    exact ⟨⟨k + 1, _, rfl, by go_num, by omega, by rw [HF.out]; exact HO9.out, G9.out⟩, by simp [RowKit.intOf]; omega⟩
  ·obtain rfl : k = n := by omega
   have h9 := HO.out
   rw [List.take_of_length_le (by rw [HN.out]; exact Nat.le_refl _)] at h9
   have HO := Lib.hid h9
   clear h9
   go_wp2_with fail
   go_ret
   exact ⟨_, rfl, GL.out, HO.out⟩
set_option maxRecDepth 100000 in
set_option maxHeartbeats 800000 in
theorem plc_mapped_int (w : World) (p : Option Addr) (n c : Nat) (l : List UnitM) (v : Value) (g : UnitM → Int) (hl : UnL w (.slice p n c) l) (hn : l.length = n) (hb : n ≤ 1000) (hv : MapU w v l (fun u => .int .i64 (g u))) :
  Calls Tryz.prog 80 #[.slice p n c, v] w (Ret w fun r w' => OwnL w' w.heap.size 3 1 encI r (l.map g)) := by
 obtain ⟨f, caps, rfl, he, h5⟩ := hv
 have H5 := Lib.hid h5
 have HL := Lib.hid hl
 have HN := Lib.hid hn
 clear h5 hl hn
 go_enter Tryz.func80, Tryz.ntmps80
 go_wp2_with fail
 go_loopw [5, 10] (fun v i w9 => ∃ (k : Nat) (x : Value), v = x ∧ i = .int .i64 (k : Int) ∧ k ≤ n ∧ OwnL w9 w.heap.size 3 1 encI v ((l.take k).map g) ∧ Gr w w9) (fun _ i _ => n - (RowKit.intOf i).toNat)
 case atStart => exact ⟨0, _, rfl, rfl, Nat.zero_le _, OwnL.nil _ _ _, Gr.refl _⟩
 case round =>
  obtain ⟨k, v, rfl, rfl, hk, ho, hg⟩ := hrel
  have HO := Lib.hid ho
  have GL := Lib.hid hg
  clear ho hg
  by_cases hlt : k < n
  ·have hlt' : (k : Int) < (n : Int) := by omega
   obtain ⟨b, o, x, rfl, hx, hc⟩ := unit_at (HL.out.grow GL.out) HN.out hlt
   have HX := Lib.hid (List.mem_of_getElem? hx)
   obtain ⟨c0, c1⟩ := hc _ (Gr.refl _)
   have HF := Lib.hid (map_take g hx)
   have HLE := Lib.hid (show ((l.take k).map g).length ≤ 1000 from by rw [List.length_map, List.length_take]; omega)
   clear hx hc
   obtain ⟨pv, cv, hv, _, _⟩ := HO.out.read.parts
   generalize ((l.take k).map g).length = N at hv
   subst hv
   have B := Cells.new wr #[.int .i64 x.mach, .int .i64 x.st] 74
   have a0 := B.2.at 0 rfl
   have a1 := B.2.at 1 rfl
   have HB := Lib.hid B
   clear B
   go_wp2_with fail
   clear a0 a1 c0 c1
   generalize wr.heap.size = b8 at HB ⊢
   generalize wr.alloc _ = W8 at HB ⊢
   have T8 := Lib.hid HB.out.2
   have GL := Lib.hid (GL.out.trans HB.out.1)
   have HO := Lib.hid (HO.out.grow HB.out.1)
   clear HB
   refine (H5.out W8 GL.out x HX.out).mono ?_
   rintro _ w2 ⟨_, rfl, g2, rfl⟩
   have HO := Lib.hid (HO.out.grow g2)
   have GL := Lib.hid (GL.out.trans g2)
   clear g2
   go_wp2_with (at_builtin; refine Hold.hold ?_)
   have B8 := SlL.new w2 3 encI_len [g x] #[.int .i64 (g x)] 1 rfl rfl (by decide)
   generalize w2.heap.size = b9 at B8 ⊢
   generalize w2.alloc _ = w8 at B8 ⊢
   obtain ⟨g8, t8⟩ := B8
   refine Hold.go ?_
   refine wpList_appendL rfl _ _ 49 3 _ 8 rfl Tryz.underlying49 int_info rfl (by decide) encI_len encI_one w.heap.size _ _ _ [g x] rfl (HO.out.grow g8) rfl t8 (by have := HLE.out; simp only [List.length_singleton]; omega) (by have := HLE.out; simp only [List.length_singleton]; omega) ((GL.out.trans g8).size) ?_
   intro v' w9 ho9 k9
   have HO9 := Lib.hid ho9
   have G9 := Lib.hid ((HO.out.grow g8).gr (GL.out.trans g8) k9)
   clear ho9 k9 g8 t8
   go_wp2_with fail
   exact ⟨⟨k + 1, _, rfl, by go_num, by omega, by rw [HF.out]; exact HO9.out, G9.out⟩, by simp [RowKit.intOf]; omega⟩
  ·obtain rfl : k = n := by omega
   have h9 := HO.out
   rw [List.take_of_length_le (by rw [HN.out]; exact Nat.le_refl _)] at h9
   have HO := Lib.hid h9
   clear h9
   go_wp2_with fail
   go_ret
   exact ⟨_, rfl, GL.out, HO.out⟩
theorem OwnL.toMono {w : World} {b c : Nat} {v : Value} {l : List Int} (h : OwnL w b 3 1 encI v l) (hb : c ≤ b) : OwnL w c 3 1 encI v l := by
 obtain ⟨h1, h2⟩ := h
 refine ⟨h1, ?_⟩
 rcases h2 with h2 | ⟨g, cap, cur, hv, hbg, r⟩
 ·exact .inl h2
 ·exact .inr ⟨g, cap, cur, hv, Nat.le_trans hb hbg, r⟩
theorem state_prd (w : World) (b : Nat) (s : Int) (hb : Cells w b #[.int .i64 s]) : PrdB w (.func (.func 79) #[] #[.pointer (some ⟨b, 0, none⟩)]) encU (inState s) := by
 refine ⟨_, _, rfl, enters_of Tryz.func79 (by kernel_rfl) rfl, fun w' g x => ?_⟩
 have B := Cells.new w' #[.int .i64 x.mach, .int .i64 x.st] 74
 have u0 := B.2.at 1 rfl
 have d0 := (hb.grow (g.trans B.1)).at 0 rfl
 have G := Lib.hid B.1
 clear B g hb
 show Calls _ _ #[.agg #[.int .i64 x.mach, .int .i64 x.st], .pointer (some ⟨b, 0, none⟩)] _ _
 go_enter Tryz.func79, Tryz.ntmps79
 go_wp2_with fail
 go_ret
 exact ⟨_, rfl, G.out, rfl⟩
theorem mach_map (w : World) (l : List UnitM) : MapU w (.func (.func 81) #[] #[]) l (fun u => .int .i64 u.mach) := by
 refine ⟨_, _, rfl, enters_of Tryz.func81 (by kernel_rfl) rfl, fun w' g x _ => ?_⟩
 have B := Cells.new w' #[.int .i64 x.mach, .int .i64 x.st] 74
 have u0 := B.2.at 0 rfl
 have G := Lib.hid B.1
 clear B g
 show Calls _ _ #[.agg #[.int .i64 x.mach, .int .i64 x.st]] _ _
 go_enter Tryz.func81, Tryz.ntmps81
 go_wp2_with fail
 go_ret
 exact ⟨_, rfl, G.out, rfl⟩
set_option maxRecDepth 100000 in
set_option maxHeartbeats 800000 in
theorem plc_Machines (w : World) (p : Option Addr) (c : Nat) (L : List RowU) (item s : Int) (hp : PlcAt w p c L) (hf : FewK (usOf L)) :
  Calls Tryz.prog 35 #[plcV p c L, .int .i64 item, .int .i64 s] w (Ret w fun r w' => OwnL w' w.heap.size 3 1 encI r (machinesP (usOf L) item s)) := by
 have HF := Lib.hid hf
 have B0 := Cells.new w #[.slice p L.length c] 34
 have B1 := Cells.new (w.alloc (.cells #[.slice p L.length c] 34)) #[.int .i64 s] 3
 simp only [World.size_alloc] at B1
 have p0 := (B0.2.grow B1.1).at 0 rfl
 have H := Lib.hid (show _ ∧ _ from ⟨B0.1.trans B1.1, B1.2⟩)
 have HP := Lib.hid (hp.grow (B0.1.trans B1.1))
 clear B0 B1 hp hf
 unfold plcV
 go_enter Tryz.func35, Tryz.ntmps35
 go_wp2_with fail
 clear p0
 generalize w.heap.size + 1 = bs at H ⊢
 generalize (w.alloc _).alloc _ = W at H HP ⊢
 have G := Lib.hid H.out.1
 have TS := Lib.hid H.out.2
 clear H
 refine (plc_units W p c L item HP.out).mono ?_
 rintro _ w1 ⟨_, rfl, g1, x, rfl, hx, hon, hxb⟩
 have HX := Lib.hid hx
 have HON := Lib.hid hon
 have hxl : x.us.length ≤ 1000 := by rw [hx]; exact unitsP_few HF.out item
 have G := Lib.hid (G.out.trans g1)
 have TS := Lib.hid (TS.out.grow g1)
 clear g1
 clear hx hon hxb
 unfold rowV
 go_wp2_with fail
 refine (plc_filtered w1 x.p x.us.length x.c x.us _ (inState s) HON.out rfl hxl (state_prd w1 bs s TS.out)).mono ?_
 rintro _ w2 ⟨r2, rfl, g2, h2⟩
 have G := Lib.hid (G.out.trans g2)
 obtain ⟨p2, c2, rfl, _, _⟩ := h2.read.parts
 have H2 := Lib.hid h2
 clear h2 g2
 go_wp2_with fail
 have GS := Lib.hid G.out.size
 refine (plc_mapped_int w2 p2 _ c2 (x.us.filter (inState s)) _ UnitM.mach H2.out.read rfl (Nat.le_trans (List.length_filter_le _ _) hxl) (mach_map w2 _)).mono ?_
 rintro _ w3 ⟨r3, rfl, g3, h3⟩
 have G := Lib.hid (G.out.trans g3)
 have H3 := Lib.hid h3
 clear h3 g3
 go_wp2_with fail
 go_ret
 exact ⟨_, rfl, G.out, by unfold machinesP; rw [← HX.out]; exact H3.out.toMono GS.out⟩
set_option maxRecDepth 100000 in
set_option maxHeartbeats 800000 in
theorem ref_Machines20 (w : World) (p : Option Addr) (c : Nat) (L : List RowU) (item s : Int) (hp : PlcAt w p c L) (hf : FewK (usOf L)) :
  Calls Tryz.prog 36 #[plcV p c L, .int .i64 item, .int .i64 s] w (Ret w fun r w' => OwnL w' w.heap.size 3 1 encI r (machinesP (usOf L) item s)) := by
 have HF := Lib.hid hf
 have B := Cells.new w #[.slice p L.length c] 34
 have p0 := B.2.at 0 rfl
 have HB := Lib.hid B
 have HP := Lib.hid (hp.grow B.1)
 clear B hp hf
 unfold plcV
 go_enter Tryz.func36, Tryz.ntmps36
 go_wp2_with fail
 clear p0
 generalize w.heap.size = bp at HB ⊢
 generalize w.alloc _ = W at HB HP ⊢
 have G := Lib.hid HB.out.1
 clear HB
 refine (ref_Units W p c L item HP.out).mono ?_
 rintro _ w1 ⟨_, rfl, g1, x, rfl, hx, hon, hxb⟩
 have HX := Lib.hid hx
 have hxl : x.us.length ≤ 1000 := by rw [hx]; exact unitsP_few HF.out item
 have o1 := OwnL.made0 (sz := 1) (enc := encI) w1 w1.heap.size 3 (Nat.le_refl _)
 have gA : Gr w1 (w1.alloc (.cells #[] 3)) := (Gr.refl _).alloc _
 have HON := Lib.hid hon
 have G := Lib.hid (G.out.trans g1)
 have O1 := Lib.hid o1
 have GA := Lib.hid gA
 clear hx hon hxb g1 o1 gA
 obtain ⟨px, cx, lx⟩ := x
 have HON := Lib.hid (show UnL w1 (.slice px lx.length cx) lx from HON.out)
 have HX := Lib.hid (show lx = unitsP (usOf L) item from HX.out)
 dsimp only at hxl
 unfold rowV
 go_wp2_with fail
 generalize w1.alloc _ = W1 at O1 GA ⊢
 generalize Value.slice (some ⟨w1.heap.size, 0, none⟩) 0 0 = v0 at O1 ⊢
 go_loopw [8, 9] (fun v i w9 => ∃ (k : Nat) (x : Value), v = x ∧ i = .int .i64 (k : Int) ∧ k ≤ lx.length ∧ OwnL w9 w1.heap.size 3 1 encI v (((lx.take k).filter (inState s)).map UnitM.mach) ∧ Gr w1 w9) (fun _ i _ => lx.length - (RowKit.intOf i).toNat)
 case atStart => exact ⟨0, _, rfl, rfl, Nat.zero_le _, O1.out, GA.out⟩
 case round =>
  obtain ⟨k, v, rfl, rfl, hk, ho, hg⟩ := hrel
  have HO := Lib.hid ho
  have GL := Lib.hid hg
  clear ho hg
  by_cases hlt : k < lx.length
  ·have hlt' : (k : Int) < (lx.length : Int) := by omega
   obtain ⟨b, o, y, rfl, hy, hc⟩ := unit_at (HON.out.grow GL.out) rfl hlt
   obtain ⟨c0, c1⟩ := hc _ (Gr.refl _)
   have HFT := Lib.hid (filter_take (inState s) hy)
   have HLE := Lib.hid (show (((lx.take k).filter (inState s)).map UnitM.mach).length ≤ 1000 from by rw [List.length_map]; exact Nat.le_trans (List.length_filter_le _ _) (by rw [List.length_take]; omega))
   have hk1 : IntKind.i64.wrap ((k : Int) + 1) = (k : Int) + 1 := by rw [IntKind.wrap_i64]; omega
   clear hy hc
   obtain ⟨pv, cv, hv, _, _⟩ := HO.out.read.parts
   generalize (((lx.take k).filter (inState s)).map UnitM.mach).length = N at hv
   subst hv
   obtain ⟨t, ht⟩ : ∃ t, inState s y = t := ⟨_, rfl⟩
   have HFT := Lib.hid (show (lx.take (k + 1)).filter (inState s) = (lx.take k).filter (inState s) ++ if t = true then [y] else [] from by rw [HFT.out, ht])
   have ht : (y.st == s) = t := ht
   cases t
   ·go_wp2_with fail
    exact ⟨⟨k + 1, _, rfl, by go_num, by omega, by rw [HFT.out]; simpa using HO.out, GL.out⟩, by simp [RowKit.intOf]; omega⟩
   ·go_wp2_with (at_builtin; refine Hold.hold ?_)
    clear c0 c1 ht
    have B8 := SlL.new wr 3 encI_len [y.mach] #[.int .i64 y.mach] 1 rfl rfl (by decide)
    generalize wr.heap.size = b9 at B8 ⊢
    generalize wr.alloc _ = w8 at B8 ⊢
    obtain ⟨g8, t8⟩ := B8
    refine Hold.go ?_
    refine wpList_appendL rfl _ _ 49 3 _ 8 rfl Tryz.underlying49 int_info rfl (by decide) encI_len encI_one w1.heap.size _ _ _ [y.mach] rfl (HO.out.grow g8) rfl t8 (by have := HLE.out; simp only [List.length_singleton]; omega) (by have := HLE.out; simp only [List.length_singleton]; omega) ((GL.out.trans g8).size) ?_
    intro v' w9 ho9 k9
    have HO9 := Lib.hid ho9
    have G9 := Lib.hid ((HO.out.grow g8).gr (GL.out.trans g8) k9)
    clear ho9 k9 g8 t8
    go_wp2_with fail
    exact ⟨⟨k + 1, _, rfl, by go_num, by omega, by rw [HFT.out]; simpa using HO9.out, G9.out⟩, by simp [RowKit.intOf]; omega⟩
  ·obtain rfl : k = lx.length := by omega
   go_wp2_with fail
   go_ret
   exact ⟨_, rfl, G.out.trans GL.out, by have := HO.out.toMono G.out.size; rw [List.take_length] at this; unfold machinesP; rw [← HX.out]; exact this⟩
end Go.Proofs.YtchpbaaabnkkkaaGreatDoor

/-
  The closures of catalog.each.
  catalog.each: what it goes through.
  catalog.each.
-/
import Derived.Test.YtnlocdijdfclcaaGreatDoorCatR
import Derived.Test.YtnlocdijdfclcaaGreatDoorStir
import Derived.Laws.EntriesVeiled
namespace Go.Proofs.YtnlocdijdfclcaaGreatDoor
open Go.RowKit Go.Lib Lex
set_option linter.unusedVariables false
set_option linter.unusedSimpArgs false

set_option maxRecDepth 100000 in
theorem each_1 (w : World) (P : Ptrs) (M : Mdl) (bm k : Nat) (x : List UInt8) (hm : MdlAt w P M) (hb : Cells w bm (mcells P M)) (hx : M.sites[k]? = some x) :
  Calls Tryz.prog 138 #[.int .i64 (k : Int), .pointer (some ⟨bm, 0, none⟩)] w fun e w' => e = .returned (.string ⟨x.toArray⟩) ∧ w = w' := by
 have hlt : k < M.sites.length := (List.getElem?_eq_some_iff.1 hx).1
 have hlt' : (k : Int) < (M.sites.length : Int) := by omega
 have hbig := hm.big
 obtain ⟨b, o, y, hp, hy, hc⟩ := str_at hm.sites rfl hlt
 obtain rfl : y = x := by have := hy.symm.trans hx; simpa using this
 have m := mc0 hb _ (Gr.refl _)
 rw [hp] at m
 have cc := hc _ (Gr.refl _)
 clear hm hb hp hx hy hc hbig
 go_enter Tryz.func138, Tryz.ntmps138
 go_wp2_with fail
 go_ret
 exact ⟨rfl, rfl⟩
set_option maxRecDepth 100000 in
theorem each_3 (w : World) (P : Ptrs) (M : Mdl) (bm k : Nat) (x : List UInt8) (hm : MdlAt w P M) (hb : Cells w bm (mcells P M)) (hx : M.feeds[k]? = some x) :
  Calls Tryz.prog 140 #[.int .i64 (k : Int), .pointer (some ⟨bm, 0, none⟩)] w fun e w' => e = .returned (.string ⟨x.toArray⟩) ∧ w = w' := by
 have hlt : k < M.feeds.length := (List.getElem?_eq_some_iff.1 hx).1
 have hlt' : (k : Int) < (M.feeds.length : Int) := by omega
 have hbig := hm.big
 obtain ⟨b, o, y, hp, hy, hc⟩ := str_at hm.feeds rfl hlt
 obtain rfl : y = x := by have := hy.symm.trans hx; simpa using this
 have m := mc1 hb _ (Gr.refl _)
 rw [hp] at m
 have cc := hc _ (Gr.refl _)
 clear hm hb hp hx hy hc hbig
 go_enter Tryz.func140, Tryz.ntmps140
 go_wp2_with fail
 go_ret
 exact ⟨rfl, rfl⟩
set_option maxRecDepth 100000 in
theorem each_5 (w : World) (P : Ptrs) (M : Mdl) (bm k : Nat) (x : RackM) (hm : MdlAt w P M) (hb : Cells w bm (mcells P M)) (hx : M.racks[k]? = some x) :
  Calls Tryz.prog 142 #[.int .i64 (k : Int), .pointer (some ⟨bm, 0, none⟩)] w fun e w' => e = .returned (.string ⟨x.name.toArray⟩) ∧ w = w' := by
 have hlt : k < M.racks.length := (List.getElem?_eq_some_iff.1 hx).1
 have hlt' : (k : Int) < (M.racks.length : Int) := by omega
 have hbig := hm.big
 obtain ⟨b, o, y, hp, hy, hc⟩ := rack_at hm.racks rfl hlt
 obtain rfl : y = x := by have := hy.symm.trans hx; simpa using this
 have m := mc2 hb _ (Gr.refl _)
 rw [hp] at m
 have cc := (hc _ (Gr.refl _)).1
 clear hm hb hp hx hy hc hbig
 go_enter Tryz.func142, Tryz.ntmps142
 go_wp2_with fail
 go_ret
 exact ⟨rfl, rfl⟩
set_option maxRecDepth 100000 in
theorem each_7 (w : World) (P : Ptrs) (M : Mdl) (bm k : Nat) (x : MachM) (hm : MdlAt w P M) (hb : Cells w bm (mcells P M)) (hx : M.machs[k]? = some x) :
  Calls Tryz.prog 144 #[.int .i64 (k : Int), .pointer (some ⟨bm, 0, none⟩)] w fun e w' => e = .returned (.string ⟨x.name.toArray⟩) ∧ w = w' := by
 have hlt : k < M.machs.length := (List.getElem?_eq_some_iff.1 hx).1
 have hlt' : (k : Int) < (M.machs.length : Int) := by omega
 have hbig := hm.big
 obtain ⟨b, o, y, hp, hy, hc⟩ := mach_at hm.machs rfl hlt
 obtain rfl : y = x := by have := hy.symm.trans hx; simpa using this
 have m := mc3 hb _ (Gr.refl _)
 rw [hp] at m
 have cc := (hc _ (Gr.refl _)).1
 clear hm hb hp hx hy hc hbig
 go_enter Tryz.func144, Tryz.ntmps144
 go_wp2_with fail
 go_ret
 exact ⟨rfl, rfl⟩
set_option maxRecDepth 100000 in
theorem each_9 (w : World) (P : Ptrs) (M : Mdl) (bm k : Nat) (x : ItemM) (hm : MdlAt w P M) (hb : Cells w bm (mcells P M)) (hx : M.items[k]? = some x) :
  Calls Tryz.prog 146 #[.int .i64 (k : Int), .pointer (some ⟨bm, 0, none⟩)] w fun e w' => e = .returned (.string ⟨x.name.toArray⟩) ∧ w = w' := by
 have hlt : k < M.items.length := (List.getElem?_eq_some_iff.1 hx).1
 have hlt' : (k : Int) < (M.items.length : Int) := by omega
 have hbig := hm.big
 obtain ⟨b, o, y, hp, hy, hc⟩ := item_at hm.items rfl hlt
 obtain rfl : y = x := by have := hy.symm.trans hx; simpa using this
 have m := mc5 hb _ (Gr.refl _)
 rw [hp] at m
 have cc := (hc _ (Gr.refl _)).1
 clear hm hb hp hx hy hc hbig
 go_enter Tryz.func146, Tryz.ntmps146
 go_wp2_with fail
 go_ret
 exact ⟨rfl, rfl⟩
theorem each_2 (w : World) (n : Int) : Calls Tryz.prog 139 #[.int .i64 n] w fun e w' => e = .returned (.int .i64 0) ∧ w = w' := by
 go_enter Tryz.func139, Tryz.ntmps139
 go_wp2_with fail
 go_ret
 exact ⟨rfl, rfl⟩
theorem each_4 (w : World) (n : Int) : Calls Tryz.prog 141 #[.int .i64 n] w fun e w' => e = .returned (.int .i64 1) ∧ w = w' := by
 go_enter Tryz.func141, Tryz.ntmps141
 go_wp2_with fail
 go_ret
 exact ⟨rfl, rfl⟩
theorem each_6 (w : World) (n : Int) : Calls Tryz.prog 143 #[.int .i64 n] w fun e w' => e = .returned (.int .i64 2) ∧ w = w' := by
 go_enter Tryz.func143, Tryz.ntmps143
 go_wp2_with fail
 go_ret
 exact ⟨rfl, rfl⟩
theorem each_8 (w : World) (n : Int) : Calls Tryz.prog 145 #[.int .i64 n] w fun e w' => e = .returned (.int .i64 3) ∧ w = w' := by
 go_enter Tryz.func145, Tryz.ntmps145
 go_wp2_with fail
 go_ret
 exact ⟨rfl, rfl⟩
def kindOf (n : Int) : Int := if n = 0 then 5 else if n = 1 then 6 else 7
theorem cat_itemKind (w : World) (n : Int) : Calls Tryz.prog 148 #[.int .i64 n] w fun e w' => e = .returned (.int .i64 (kindOf n)) ∧ w = w' := by
 by_cases h0 : n = 0
 ·subst h0
  go_enter Tryz.func148, Tryz.ntmps148
  go_wp2_with fail
  try rw [Exit.noGoto_ret]
  go_ret
  exact ⟨rfl, rfl⟩
 ·by_cases h1 : n = 1
  ·subst h1
   go_enter Tryz.func148, Tryz.ntmps148
   go_wp2_with fail
   try rw [Exit.noGoto_ret]
   go_ret
   exact ⟨rfl, rfl⟩
  ·have e0 : (n == 0) = false := by simpa using h0
   have e1 : (n == 1) = false := by simpa using h1
   have HK := Lib.hid (show kindOf n = 7 by unfold kindOf; rw [if_neg h0, if_neg h1])
   clear h0 h1
   go_enter Tryz.func148, Tryz.ntmps148
   go_wp2_with fail
   try rw [Exit.noGoto_ret]
   go_ret
   exact ⟨by rw [HK.out]; rfl, rfl⟩
set_option maxRecDepth 100000 in
theorem each_10 (w : World) (P : Ptrs) (M : Mdl) (bm k : Nat) (x : ItemM) (hm : MdlAt w P M) (hb : Cells w bm (mcells P M)) (hx : M.items[k]? = some x) :
  Calls Tryz.prog 147 #[.int .i64 (k : Int), .pointer (some ⟨bm, 0, none⟩)] w fun e w' => e = .returned (.int .i64 (kindOf x.kind)) ∧ w = w' := by
 have hlt : k < M.items.length := (List.getElem?_eq_some_iff.1 hx).1
 have hlt' : (k : Int) < (M.items.length : Int) := by omega
 obtain ⟨b, o, y, hp, hy, hc⟩ := item_at hm.items rfl hlt
 obtain rfl : y = x := by have := hy.symm.trans hx; simpa using this
 have m := mc5 hb _ (Gr.refl _)
 rw [hp] at m
 have cc := (hc _ (Gr.refl _)).2.1
 clear hm hb hp hx hy hc
 go_enter Tryz.func147, Tryz.ntmps147
 go_wp2_with fail
 refine (cat_itemKind _ _).mono ?_
 rintro _ _ ⟨rfl, rfl⟩
 go_wp2_with fail
 go_ret
 exact ⟨rfl, rfl⟩
end Go.Proofs.YtnlocdijdfclcaaGreatDoor
namespace Go.Proofs.YtnlocdijdfclcaaGreatDoor
open Go.RowKit Go.Lib Lex
set_option linter.unusedVariables false
set_option linter.unusedSimpArgs false

abbrev Entry := List UInt8 × Int × Int
def numbered {α : Type} (f : α → List UInt8 × Int) (l : List α) : List Entry := l.mapIdx fun i x => ((f x).1, (f x).2, (i : Int) + 1)
theorem numbered_len {α : Type} (f : α → List UInt8 × Int) (l : List α) : (numbered f l).length = l.length := by simp [numbered]
theorem numbered_get {α : Type} (f : α → List UInt8 × Int) (l : List α) {i : Nat} {x : α} (h : l[i]? = some x) : (numbered f l)[i]? = some ((f x).1, (f x).2, (i : Int) + 1) := by
 simp [numbered, h]
def sec0 (M : Mdl) : List Entry := numbered (fun s => (s, 0)) M.sites
def sec1 (M : Mdl) : List Entry := numbered (fun s => (s, 1)) M.feeds
def sec2 (M : Mdl) : List Entry := numbered (fun x : RackM => (x.name, 2)) M.racks
def sec3 (M : Mdl) : List Entry := numbered (fun x : MachM => (x.name, 3)) M.machs
def sec4 (M : Mdl) : List Entry := numbered (fun x : ItemM => (x.name, kindOf x.kind)) M.items
def secs (M : Mdl) : List (List Entry) := [sec0 M, sec1 M, sec2 M, sec3 M, sec4 M]
def entries (M : Mdl) : List Entry := (secs M).flatten
def secOff (M : Mdl) (k : Nat) : Nat := ((secs M).take k).flatten.length
theorem flatten_at {α : Type} : ∀ (L : List (List α)) (k i : Nat) (l : List α) (x : α), L[k]? = some l → l[i]? = some x → L.flatten[(L.take k).flatten.length + i]? = some x
 | [], k, i, l, x, h, _ => by simp at h
 | a :: L, 0, i, l, x, h, hx => by
  simp at h; subst h
  simp only [List.take_zero, List.flatten_nil, List.length_nil, Nat.zero_add, List.flatten_cons]
  rw [List.getElem?_append_left (List.getElem?_eq_some_iff.1 hx).1]; exact hx
 | a :: L, k + 1, i, l, x, h, hx => by
  simp only [List.take_succ_cons, List.flatten_cons, List.length_append]
  rw [List.getElem?_append_right (by omega), ← flatten_at L k i l x (by simpa using h) hx]
  congr 1
  omega
theorem secOff_succ {M : Mdl} {k : Nat} {l : List Entry} (h : (secs M)[k]? = some l) : secOff M (k + 1) = secOff M k + l.length := by
 unfold secOff
 rw [List.take_add_one, h]
 simp
theorem secOff_five (M : Mdl) : secOff M 5 = (entries M).length := rfl
def secCells (M : Mdl) (bm : Nat) : Array Value := #[.int .i64 (M.sites.length : Int), .func (.func 138) #[] #[.pointer (some ⟨bm, 0, none⟩)], .func (.func 139) #[] #[],
 .int .i64 (M.feeds.length : Int), .func (.func 140) #[] #[.pointer (some ⟨bm, 0, none⟩)], .func (.func 141) #[] #[],
 .int .i64 (M.racks.length : Int), .func (.func 142) #[] #[.pointer (some ⟨bm, 0, none⟩)], .func (.func 143) #[] #[],
 .int .i64 (M.machs.length : Int), .func (.func 144) #[] #[.pointer (some ⟨bm, 0, none⟩)], .func (.func 145) #[] #[],
 .int .i64 (M.items.length : Int), .func (.func 146) #[] #[.pointer (some ⟨bm, 0, none⟩)], .func (.func 147) #[] #[.pointer (some ⟨bm, 0, none⟩)]]
structure Sec (P : Ptrs) (M : Mdl) (bm k len : Nat) (f1 : FuncId) (c1 : Array Value) (f2 : FuncId) (c2 : Array Value) : Prop where
 v0 : (secCells M bm)[k * 3]? = some (.int .i64 (len : Int))
 v1 : (secCells M bm)[k * 3 + 1]? = some (.func (.func f1) #[] c1)
 v2 : (secCells M bm)[k * 3 + 2]? = some (.func (.func f2) #[] c2)
 e1 : ∀ args w, (callFunc f1 args).run Tryz.prog w = .ok (.enter f1 args) w
 e2 : ∀ args w, (callFunc f2 args).run Tryz.prog w = .ok (.enter f2 args) w
 off : secOff M (k + 1) = secOff M k + len
 get : ∀ i, i < len → ∃ (s : List UInt8) (kd : Int), (entries M)[secOff M k + i]? = some (s, kd, (i : Int) + 1) ∧
  (∀ w, MdlAt w P M → Cells w bm (mcells P M) → Calls Tryz.prog f1 (#[.int .i64 (i : Int)] ++ c1) w fun e w' => e = .returned (.string ⟨s.toArray⟩) ∧ w = w') ∧
  (∀ w, MdlAt w P M → Cells w bm (mcells P M) → Calls Tryz.prog f2 (#[.int .i64 (i : Int)] ++ c2) w fun e w' => e = .returned (.int .i64 kd) ∧ w = w')
theorem sec_at0 (P : Ptrs) (M : Mdl) (bm : Nat) : Sec P M bm 0 M.sites.length 138 #[.pointer (some ⟨bm, 0, none⟩)] 139 #[] := by
 have h : (secs M)[0]? = some (sec0 M) := rfl
 refine ⟨rfl, rfl, rfl, enters_of Tryz.func138 (by kernel_rfl) rfl, enters_of Tryz.func139 (by kernel_rfl) rfl, ?_, fun i hi => ?_⟩
 ·rw [secOff_succ h, show (sec0 M).length = M.sites.length from numbered_len _ _]
 ·obtain ⟨x, hx⟩ : ∃ x, M.sites[i]? = some x := ⟨_, List.getElem?_eq_getElem hi⟩
  refine ⟨_, _, flatten_at (secs M) 0 i _ _ h (numbered_get _ _ hx), fun w hm hb => each_1 w P M bm i x hm hb hx, fun w hm hb => each_2 w _⟩
theorem sec_at1 (P : Ptrs) (M : Mdl) (bm : Nat) : Sec P M bm 1 M.feeds.length 140 #[.pointer (some ⟨bm, 0, none⟩)] 141 #[] := by
 have h : (secs M)[1]? = some (sec1 M) := rfl
 refine ⟨rfl, rfl, rfl, enters_of Tryz.func140 (by kernel_rfl) rfl, enters_of Tryz.func141 (by kernel_rfl) rfl, ?_, fun i hi => ?_⟩
 ·rw [secOff_succ h, show (sec1 M).length = M.feeds.length from numbered_len _ _]
 ·obtain ⟨x, hx⟩ : ∃ x, M.feeds[i]? = some x := ⟨_, List.getElem?_eq_getElem hi⟩
  refine ⟨_, _, flatten_at (secs M) 1 i _ _ h (numbered_get _ _ hx), fun w hm hb => each_3 w P M bm i x hm hb hx, fun w hm hb => each_4 w _⟩
theorem sec_at2 (P : Ptrs) (M : Mdl) (bm : Nat) : Sec P M bm 2 M.racks.length 142 #[.pointer (some ⟨bm, 0, none⟩)] 143 #[] := by
 have h : (secs M)[2]? = some (sec2 M) := rfl
 refine ⟨rfl, rfl, rfl, enters_of Tryz.func142 (by kernel_rfl) rfl, enters_of Tryz.func143 (by kernel_rfl) rfl, ?_, fun i hi => ?_⟩
 ·rw [secOff_succ h, show (sec2 M).length = M.racks.length from numbered_len _ _]
 ·obtain ⟨x, hx⟩ : ∃ x, M.racks[i]? = some x := ⟨_, List.getElem?_eq_getElem hi⟩
  refine ⟨_, _, flatten_at (secs M) 2 i _ _ h (numbered_get _ _ hx), fun w hm hb => each_5 w P M bm i x hm hb hx, fun w hm hb => each_6 w _⟩
theorem sec_at3 (P : Ptrs) (M : Mdl) (bm : Nat) : Sec P M bm 3 M.machs.length 144 #[.pointer (some ⟨bm, 0, none⟩)] 145 #[] := by
 have h : (secs M)[3]? = some (sec3 M) := rfl
 refine ⟨rfl, rfl, rfl, enters_of Tryz.func144 (by kernel_rfl) rfl, enters_of Tryz.func145 (by kernel_rfl) rfl, ?_, fun i hi => ?_⟩
 ·rw [secOff_succ h, show (sec3 M).length = M.machs.length from numbered_len _ _]
 ·obtain ⟨x, hx⟩ : ∃ x, M.machs[i]? = some x := ⟨_, List.getElem?_eq_getElem hi⟩
  refine ⟨_, _, flatten_at (secs M) 3 i _ _ h (numbered_get _ _ hx), fun w hm hb => each_7 w P M bm i x hm hb hx, fun w hm hb => each_8 w _⟩
theorem sec_at4 (P : Ptrs) (M : Mdl) (bm : Nat) : Sec P M bm 4 M.items.length 146 #[.pointer (some ⟨bm, 0, none⟩)] 147 #[.pointer (some ⟨bm, 0, none⟩)] := by
 have h : (secs M)[4]? = some (sec4 M) := rfl
 refine ⟨rfl, rfl, rfl, enters_of Tryz.func146 (by kernel_rfl) rfl, enters_of Tryz.func147 (by kernel_rfl) rfl, ?_, fun i hi => ?_⟩
 ·rw [secOff_succ h, show (sec4 M).length = M.items.length from numbered_len _ _]
 ·obtain ⟨x, hx⟩ : ∃ x, M.items[i]? = some x := ⟨_, List.getElem?_eq_getElem hi⟩
  refine ⟨_, _, flatten_at (secs M) 4 i _ _ h (numbered_get _ _ hx), fun w hm hb => each_9 w P M bm i x hm hb hx, fun w hm hb => each_10 w P M bm i x hm hb hx⟩
theorem sec_at (P : Ptrs) (M : Mdl) (bm k : Nat) (hk : k < 5) : ∃ len f1 c1 f2 c2, Sec P M bm k len f1 c1 f2 c2 ∧ len ≤ max M.sites.length (max M.feeds.length (max M.racks.length (max M.machs.length M.items.length))) := by
 rcases k with _ | _ | _ | _ | _ | k
 ·exact ⟨_, _, _, _, _, sec_at0 P M bm, by omega⟩
 ·exact ⟨_, _, _, _, _, sec_at1 P M bm, by omega⟩
 ·exact ⟨_, _, _, _, _, sec_at2 P M bm, by omega⟩
 ·exact ⟨_, _, _, _, _, sec_at3 P M bm, by omega⟩
 ·exact ⟨_, _, _, _, _, sec_at4 P M bm, by omega⟩
 ·omega
structure Visit (B : World) (fn : FuncId) (caps : Array Value) (es : List Entry) (I : (Nat → Prop) → Nat → World → Prop) (R : World → Prop) : Prop where
 enters : ∀ args w, (callFunc fn args).run Tryz.prog w = .ok (.enter fn args) w
 base : ∀ F k w, I F k w → Gr B w
 grow : ∀ F k w w', I F k w → Gr w w' → I (fun b => F b ∨ (w.heap.size ≤ b ∧ b < w'.heap.size)) k w'
 step : ∀ F k e w, es[k]? = some e → I F k w → Calls Tryz.prog fn (#[.string ⟨e.1.toArray⟩, .int .i64 e.2.1, .int .i64 e.2.2] ++ caps) w fun r w' => ∃ t, r = .returned (.bool t) ∧ w.heap.size ≤ w'.heap.size ∧
  (∀ b, F b → b < w.heap.size → w'.heap[b]? = w.heap[b]?) ∧ (t = true → R w') ∧ (t = false → I F (k + 1) w')
end Go.Proofs.YtnlocdijdfclcaaGreatDoor
namespace Go.Proofs.YtnlocdijdfclcaaGreatDoor
open Go.RowKit Go.Lib Lex
set_option linter.unusedVariables false
set_option linter.unusedSimpArgs false

namespace Stir
theorem wpE_fnV {P : Program} {ops : Array Oper} {Q : Exit → Act → World → Prop} {i : Nat} {rest : List (Nat × Bool)} {a : Act} {w : World} {o : Oper} {c : Call} {x : Operand} {f : FuncId} {first caps args : Array Value}
  (ho : ops[i]? = some o) (hw : Region.wanted o (yielded ops a.tmps) = true) (hop : o.op = .call c) (hc : c.callee = .value x) (hx : a.eval x = .func (.func f) first caps)
  (he : ∀ args w, (callFunc f args).run P w = .ok (.enter f args) w) (hargs : (first ++ c.args.map a.eval) ++ caps = args)
  (h : ∀ K : Act → World → Prop, (∀ a w, wpE P ops Q rest a w → K a w) → Calls P f args w fun e w' => ∃ v, e = .returned v ∧ Gr w w' ∧ K (a.put o.dst v) w') : wpE P ops Q ((i, false) :: rest) a w :=
 wpE_call ho hw (by rw [exec_fnV hop hc hx he, hargs]) h
theorem wpE_fnS {P : Program} {ops : Array Oper} {Q : Exit → Act → World → Prop} {i : Nat} {rest : List (Nat × Bool)} {a : Act} {w : World} {o : Oper} {c : Call} {x : Operand} {f : FuncId} {first caps args : Array Value}
  (ho : ops[i]? = some o) (hw : Region.wanted o (yielded ops a.tmps) = true) (hop : o.op = .call c) (hc : c.callee = .value x) (hst : isStore o = true) (hx : a.eval x = .func (.func f) first caps)
  (he : ∀ args w, (callFunc f args).run P w = .ok (.enter f args) w) (hargs : (first ++ c.args.map a.eval) ++ caps = args)
  (h : ∀ K : Act → World → Prop, (∀ a w, wpE P ops Q rest a w → K a w) → Calls P f args w fun e w' => ∃ v, e = .returned v ∧ K (a.put o.dst v) w') : wpE P ops Q ((i, false) :: rest) a w := by
 refine wpE_do ho hw fun K hK => ?_
 unfold Oper.wp
 rw [exec_fnV hop hc hx he, hargs]
 simp only [Oper.upon]
 refine (h K hK).mono ?_
 rintro e w' ⟨v, rfl, hk⟩
 exact ⟨fun hf => Bool.noConfusion (hst.symm.trans hf), hk⟩
end Stir
theorem Cells.kept {w w' : World} {b : Nat} {vs : Array Value} (h : Cells w b vs) (e : w'.heap[b]? = w.heap[b]?) : Cells w' b vs := by
 obtain ⟨t, h⟩ := h
 exact ⟨t, by rw [e]; exact h⟩
set_option maxRecDepth 100000 in
set_option maxHeartbeats 1600000 in
theorem cat_each (w B : World) (P : Ptrs) (M : Mdl) (fn : FuncId) (caps : Array Value) (I : (Nat → Prop) → Nat → World → Prop) (R : World → Prop) (F0 : Nat → Prop) (hm : MdlAt B P M) (hf : Few M) (hv : Visit B fn caps (entries M) I R) (hi : I F0 0 w) :
  Calls Tryz.prog 111 #[.agg (mcells P M), .func (.func fn) #[] caps] w fun r w' => r = .returned (.tuple #[]) ∧ (R w' ∨ ∃ F, I F (entries M).length w') := by
 have HF := Lib.hid hf.1
 have HV := Lib.hid hv
 have HI := Lib.hid hi
 have HM := Lib.hid hm
 have B0 := Cells.new w (mcells P M) 29
 clear hf hv hi hm
 have m0 := mc0 B0.2 _ (Gr.refl _)
 have m1 := mc1 B0.2 _ (Gr.refl _)
 have m2 := mc2 B0.2 _ (Gr.refl _)
 have m3 := mc3 B0.2 _ (Gr.refl _)
 have m5 := mc5 B0.2 _ (Gr.refl _)
 have B1 := Cells.new (w.alloc (.cells (mcells P M) 29)) (secCells M w.heap.size) 143
 rw [World.size_alloc] at B1
 have H0 := Lib.hid (show ∃ F, I F 0 ((w.alloc (.cells (mcells P M) 29)).alloc (.cells (secCells M w.heap.size) 143)) ∧ F w.heap.size ∧ F (w.heap.size + 1) from
  ⟨_, HV.out.grow _ _ _ _ HI.out (B0.1.trans B1.1), .inr ⟨Nat.le_refl _, by simp; omega⟩, .inr ⟨Nat.le_succ _, by simp; try omega⟩⟩)
 have H1 := Lib.hid (B0.2.grow B1.1)
 have H2 := Lib.hid B1.2
 clear B0 B1 HI
 unfold mcells secCells at H0
 unfold mcells at H1 m0 m1 m2 m3 m5 ⊢
 unfold secCells at H1 H2
 unfold mcells at H2
 go_enter Tryz.func111, Tryz.ntmps111
 go_wp2_with fail
 clear m0 m1 m2 m3 m5
 generalize w.heap.size + 1 = bs at H0 H2 ⊢
 generalize w.heap.size = bm at H0 H1 H2 ⊢
 generalize (w.alloc _).alloc _ = W at H0 H1 H2 ⊢
 have H1 := Lib.hid (show Cells W bm (mcells P M) from H1.out)
 have H2 := Lib.hid (show Cells W bs (secCells M bm) from H2.out)
 go_loopw [37] (fun j w1 => ∃ (k : Nat) (F : Nat → Prop), j = .int .i64 k ∧ k ≤ 5 ∧ I F (secOff M k) w1 ∧ F bm ∧ F bs ∧ Cells w1 bm (mcells P M) ∧ Cells w1 bs (secCells M bm)) (fun j _ => 5 - (RowKit.intOf j).toNat)
 case atStart =>
  obtain ⟨F, h1, h2, h3⟩ := H0.out
  exact ⟨0, F, rfl, by omega, h1, h2, h3, H1.out, H2.out⟩
 case round =>
  clear H0 H1 H2
  obtain ⟨k, F, rfl, hk, hI, hFm, hFs, hCm, hCs⟩ := hrel
  have HI := Lib.hid hI
  have HFm := Lib.hid hFm
  have HFs := Lib.hid hFs
  have HCm := Lib.hid hCm
  have HCs := Lib.hid hCs
  clear hI hFm hFs hCm hCs
  by_cases hlt : k < 5
  ·have hlt' : (k : Int) < 5 := by omega
   obtain ⟨len, f1, c1, f2, c2, sec, hlen⟩ := sec_at P M bm k hlt
   have hlen : len ≤ 24 := by have := HF.out; omega
   have s0 := HCs.out.at _ sec.v0
   have s1 := HCs.out.at _ sec.v1
   have s2 := HCs.out.at _ sec.v2
   have SEC := Lib.hid sec
   clear sec
   go_wp2_with fail
   clear s0 s1 s2
   have B6 := Cells.new wr #[.int .i64 (len : Int), .func (.func f1) #[] c1, .func (.func f2) #[] c2] 143
   have H6 := Lib.hid (show ∃ F, I F (secOff M k + 0) (wr.alloc (.cells #[.int .i64 (len : Int), .func (.func f1) #[] c1, .func (.func f2) #[] c2] 143)) ∧ F bm ∧ F bs ∧ F wr.heap.size from
    ⟨_, HV.out.grow _ _ _ _ HI.out B6.1, .inl HFm.out, .inl HFs.out, .inr ⟨Nat.le_refl _, by simp⟩⟩)
   have HCm := Lib.hid (HCm.out.grow B6.1)
   have HCs := Lib.hid (HCs.out.grow B6.1)
   have H7 := Lib.hid B6.2
   clear B6 HI HFm HFs
   generalize wr.heap.size = b6 at H6 H7 ⊢
   generalize wr.alloc _ = W6 at H6 H7 HCm HCs ⊢
   go_loopw [43] (fun j w1 => ∃ (i : Nat) (F : Nat → Prop), j = .int .i64 i ∧ i ≤ len ∧ I F (secOff M k + i) w1 ∧ F bm ∧ F bs ∧ F b6 ∧ Cells w1 bm (mcells P M) ∧ Cells w1 bs (secCells M bm) ∧ Cells w1 b6 #[.int .i64 (len : Int), .func (.func f1) #[] c1, .func (.func f2) #[] c2]) (fun j _ => len - (RowKit.intOf j).toNat)
   case atStart =>
    obtain ⟨F, h1, h2, h3, h4⟩ := H6.out
    exact ⟨0, F, rfl, by omega, h1, h2, h3, h4, HCm.out, HCs.out, H7.out⟩
   case round =>
    clear H6 H7 HCm HCs
    obtain ⟨i, F, rfl, hi, hI, hFm, hFs, hF6, hCm, hCs, hC6⟩ := hrel
    have HI := Lib.hid hI
    have HFm := Lib.hid hFm
    have HFs := Lib.hid hFs
    have HF6 := Lib.hid hF6
    have HCm := Lib.hid hCm
    have HCs := Lib.hid hCs
    have HC6 := Lib.hid hC6
    clear hI hFm hFs hF6 hCm hCs hC6
    by_cases hil : i < len
    ·have hil' : (i : Int) < (len : Int) := by omega
     obtain ⟨s, kd, hget, hc1, hc2⟩ := SEC.out.get i hil
     have HGet := Lib.hid hget
     have H1 := Lib.hid hc1
     have H2 := Lib.hid hc2
     clear hget hc1 hc2
     go_wp2_with fail
     have g0 : Gr wr wr.drew := (Gr.refl _).drew
     have d0 := HC6.out.c 0 rfl
     have d1 := HC6.out.c 1 rfl
     have d2 := HC6.out.c 2 rfl
     refine Stir.wp_region_fast [(0, true), (1, true), (2, true), (3, true), (5, true), (6, true), (7, true), (9, true), (10, true), (4, false), (8, false), (11, false)] (by kernel_rfl) (by kernel_rfl) rfl (by kernel_rfl) (fun _ _ d _ _ h => by cases d <;> exact h) ?_
     repeat (refine Stir.wpE_readB (v := ?_) g0 rfl rfl (fun w' hg => ?_) (fun K hK => ?_); rotate_left; (go_simp; rfl); go_simp; refine hK _ _ ?_; clear hK K)
     refine Stir.wpE_fnV (args := ?_) rfl rfl rfl rfl rfl SEC.out.e1 ?_ (fun K hK => ?_)
     rotate_left
     ·go_simp; rfl
     refine (H1.out _ (HM.out.grow ((HV.out.base _ _ _ HI.out).trans g0)) (HCm.out.grow g0)).mono ?_
     rintro _ _ ⟨rfl, rfl⟩
     refine ⟨_, rfl, Gr.refl _, ?_⟩
     go_simp
     refine hK _ _ ?_
     clear hK K
     refine Stir.wpE_fnV (args := ?_) rfl rfl rfl rfl rfl SEC.out.e2 ?_ (fun K hK => ?_)
     rotate_left
     ·go_simp; rfl
     refine (H2.out _ (HM.out.grow ((HV.out.base _ _ _ HI.out).trans g0)) (HCm.out.grow g0)).mono ?_
     rintro _ _ ⟨rfl, rfl⟩
     refine ⟨_, rfl, Gr.refl _, ?_⟩
     go_simp
     refine hK _ _ ?_
     clear hK K
     refine Stir.wpE_fnS (args := ?_) rfl rfl rfl rfl rfl rfl HV.out.enters ?_ (fun K hK => ?_)
     rotate_left
     ·go_simp; rfl
     rw [show IntKind.i64.wrap ((i : Int) + 1) = (i : Int) + 1 by rw [IntKind.wrap_i64]; omega]
     refine (HV.out.step _ _ _ _ HGet.out (HV.out.grow _ _ _ _ HI.out g0)).mono ?_
     rintro _ w4 ⟨t, rfl, hsz, hkp, hR, hN⟩
     refine ⟨_, rfl, ?_⟩
     go_simp
     refine hK _ _ ?_
     clear hK K
     have hCm := Cells.kept (HCm.out.grow g0) (hkp bm (.inl HFm.out) (HCm.out.grow g0).lt)
     have hCs := Cells.kept (HCs.out.grow g0) (hkp bs (.inl HFs.out) (HCs.out.grow g0).lt)
     have hC6 := Cells.kept (HC6.out.grow g0) (hkp b6 (.inl HF6.out) (HC6.out.grow g0).lt)
     have HCm := Lib.hid hCm
     have HCs := Lib.hid hCs
     have HC6 := Lib.hid hC6
     have HR := Lib.hid hR
     have HN := Lib.hid hN
     clear hCm hCs hC6 hR hN hkp hsz g0 d0 d1 d2
     cases t
     ·refine Stir.wpE_nil ?_
      go_wp2_with fail
      refine ⟨⟨i + 1, _, by go_num, by omega, HN.out (by first | rfl | trivial), .inl HFm.out, .inl HFs.out, .inl HF6.out, HCm.out, HCs.out, HC6.out⟩, by simp [RowKit.intOf]; omega⟩
     ·refine Stir.wpE_nil ?_
      go_wp2_with fail
      try rw [Exit.noGoto_ret]
      refine bodyPost_ret (results_none rfl _ _ _) rfl ?_
      exact ⟨rfl, .inl (HR.out (by first | rfl | trivial))⟩
    ·obtain rfl : i = len := by omega
     go_wp2_with fail
     refine ⟨⟨k + 1, F, by go_num, by omega, by rw [SEC.out.off]; exact HI.out, HFm.out, HFs.out, HCm.out, HCs.out⟩, by simp [RowKit.intOf]; omega⟩
  ·obtain rfl : k = 5 := by omega
   go_wp2_with fail
   refine bodyPost_end (results_none rfl _ _ _) rfl ?_
   exact ⟨rfl, .inr ⟨F, by have := HI.out; rw [secOff_five] at this; exact this⟩⟩
end Go.Proofs.YtnlocdijdfclcaaGreatDoor

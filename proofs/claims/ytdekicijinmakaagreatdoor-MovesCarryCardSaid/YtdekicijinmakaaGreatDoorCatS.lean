/-
  The closures of catalog.each.
  catalog.each: what it goes through.
-/
import Derived.Test.YtdekicijinmakaaGreatDoorCatR
import Derived.Test.YtdekicijinmakaaGreatDoorStir
namespace Go.Proofs.YtdekicijinmakaaGreatDoor
open Go.RowKit Go.Lib Lex
set_option linter.unusedVariables false
set_option linter.unusedSimpArgs false

set_option maxRecDepth 100000 in
theorem each_1 (w : World) (P : Ptrs) (M : Mdl) (bm k : Nat) (x : List UInt8) (hm : MdlAt w P M) (hb : Cells w bm (mcells P M)) (hx : M.sites[k]? = some x) :
    Calls Tryz.prog 151 #[.int .i64 (k : Int), .pointer (some ⟨bm, 0, none⟩)] w fun e w' => e = .returned (.string ⟨x.toArray⟩) ∧ w = w' := by
  have hlt : k < M.sites.length := (List.getElem?_eq_some_iff.1 hx).1
  have hlt' : (k : Int) < (M.sites.length : Int) := by omega
  have hbig := hm.big
  obtain ⟨b, o, y, hp, hy, hc⟩ := str_at hm.sites rfl hlt
  obtain rfl : y = x := by have := hy.symm.trans hx; simpa using this
  have m := mc0 hb _ (Gr.refl _)
  rw [hp] at m
  have cc := hc _ (Gr.refl _)
  clear hm hb hp hx hy hc hbig
  go_enter Tryz.func151, Tryz.ntmps151
  go_wp2_with fail
  go_ret
  exact ⟨rfl, rfl⟩
set_option maxRecDepth 100000 in
theorem each_3 (w : World) (P : Ptrs) (M : Mdl) (bm k : Nat) (x : List UInt8) (hm : MdlAt w P M) (hb : Cells w bm (mcells P M)) (hx : M.feeds[k]? = some x) :
    Calls Tryz.prog 153 #[.int .i64 (k : Int), .pointer (some ⟨bm, 0, none⟩)] w fun e w' => e = .returned (.string ⟨x.toArray⟩) ∧ w = w' := by
  have hlt : k < M.feeds.length := (List.getElem?_eq_some_iff.1 hx).1
  have hlt' : (k : Int) < (M.feeds.length : Int) := by omega
  have hbig := hm.big
  obtain ⟨b, o, y, hp, hy, hc⟩ := str_at hm.feeds rfl hlt
  obtain rfl : y = x := by have := hy.symm.trans hx; simpa using this
  have m := mc1 hb _ (Gr.refl _)
  rw [hp] at m
  have cc := hc _ (Gr.refl _)
  clear hm hb hp hx hy hc hbig
  go_enter Tryz.func153, Tryz.ntmps153
  go_wp2_with fail
  go_ret
  exact ⟨rfl, rfl⟩
set_option maxRecDepth 100000 in
theorem each_5 (w : World) (P : Ptrs) (M : Mdl) (bm k : Nat) (x : RackM) (hm : MdlAt w P M) (hb : Cells w bm (mcells P M)) (hx : M.racks[k]? = some x) :
    Calls Tryz.prog 155 #[.int .i64 (k : Int), .pointer (some ⟨bm, 0, none⟩)] w fun e w' => e = .returned (.string ⟨x.name.toArray⟩) ∧ w = w' := by
  have hlt : k < M.racks.length := (List.getElem?_eq_some_iff.1 hx).1
  have hlt' : (k : Int) < (M.racks.length : Int) := by omega
  have hbig := hm.big
  obtain ⟨b, o, y, hp, hy, hc⟩ := rack_at hm.racks rfl hlt
  obtain rfl : y = x := by have := hy.symm.trans hx; simpa using this
  have m := mc2 hb _ (Gr.refl _)
  rw [hp] at m
  have cc := (hc _ (Gr.refl _)).1
  clear hm hb hp hx hy hc hbig
  go_enter Tryz.func155, Tryz.ntmps155
  go_wp2_with fail
  go_ret
  exact ⟨rfl, rfl⟩
set_option maxRecDepth 100000 in
theorem each_7 (w : World) (P : Ptrs) (M : Mdl) (bm k : Nat) (x : MachM) (hm : MdlAt w P M) (hb : Cells w bm (mcells P M)) (hx : M.machs[k]? = some x) :
    Calls Tryz.prog 157 #[.int .i64 (k : Int), .pointer (some ⟨bm, 0, none⟩)] w fun e w' => e = .returned (.string ⟨x.name.toArray⟩) ∧ w = w' := by
  have hlt : k < M.machs.length := (List.getElem?_eq_some_iff.1 hx).1
  have hlt' : (k : Int) < (M.machs.length : Int) := by omega
  have hbig := hm.big
  obtain ⟨b, o, y, hp, hy, hc⟩ := mach_at hm.machs rfl hlt
  obtain rfl : y = x := by have := hy.symm.trans hx; simpa using this
  have m := mc3 hb _ (Gr.refl _)
  rw [hp] at m
  have cc := (hc _ (Gr.refl _)).1
  clear hm hb hp hx hy hc hbig
  go_enter Tryz.func157, Tryz.ntmps157
  go_wp2_with fail
  go_ret
  exact ⟨rfl, rfl⟩
set_option maxRecDepth 100000 in
theorem each_9 (w : World) (P : Ptrs) (M : Mdl) (bm k : Nat) (x : ItemM) (hm : MdlAt w P M) (hb : Cells w bm (mcells P M)) (hx : M.items[k]? = some x) :
    Calls Tryz.prog 159 #[.int .i64 (k : Int), .pointer (some ⟨bm, 0, none⟩)] w fun e w' => e = .returned (.string ⟨x.name.toArray⟩) ∧ w = w' := by
  have hlt : k < M.items.length := (List.getElem?_eq_some_iff.1 hx).1
  have hlt' : (k : Int) < (M.items.length : Int) := by omega
  have hbig := hm.big
  obtain ⟨b, o, y, hp, hy, hc⟩ := item_at hm.items rfl hlt
  obtain rfl : y = x := by have := hy.symm.trans hx; simpa using this
  have m := mc5 hb _ (Gr.refl _)
  rw [hp] at m
  have cc := (hc _ (Gr.refl _)).1
  clear hm hb hp hx hy hc hbig
  go_enter Tryz.func159, Tryz.ntmps159
  go_wp2_with fail
  go_ret
  exact ⟨rfl, rfl⟩
theorem each_2 (w : World) (n : Int) : Calls Tryz.prog 152 #[.int .i64 n] w fun e w' => e = .returned (.int .i64 0) ∧ w = w' := by
  go_enter Tryz.func152, Tryz.ntmps152
  go_wp2_with fail
  go_ret
  exact ⟨rfl, rfl⟩
theorem each_4 (w : World) (n : Int) : Calls Tryz.prog 154 #[.int .i64 n] w fun e w' => e = .returned (.int .i64 1) ∧ w = w' := by
  go_enter Tryz.func154, Tryz.ntmps154
  go_wp2_with fail
  go_ret
  exact ⟨rfl, rfl⟩
theorem each_6 (w : World) (n : Int) : Calls Tryz.prog 156 #[.int .i64 n] w fun e w' => e = .returned (.int .i64 2) ∧ w = w' := by
  go_enter Tryz.func156, Tryz.ntmps156
  go_wp2_with fail
  go_ret
  exact ⟨rfl, rfl⟩
theorem each_8 (w : World) (n : Int) : Calls Tryz.prog 158 #[.int .i64 n] w fun e w' => e = .returned (.int .i64 3) ∧ w = w' := by
  go_enter Tryz.func158, Tryz.ntmps158
  go_wp2_with fail
  go_ret
  exact ⟨rfl, rfl⟩
/-- the kind of name that an item has -/
def kindOf (n : Int) : Int := if n = 0 then 5 else if n = 1 then 6 else 7
theorem cat_itemKind (w : World) (n : Int) : Calls Tryz.prog 161 #[.int .i64 n] w fun e w' => e = .returned (.int .i64 (kindOf n)) ∧ w = w' := by
  by_cases h0 : n = 0
  · subst h0
    go_enter Tryz.func161, Tryz.ntmps161
    go_wp2_with fail
    try rw [Exit.noGoto_ret]
    go_ret
    exact ⟨rfl, rfl⟩
  · by_cases h1 : n = 1
    · subst h1
      go_enter Tryz.func161, Tryz.ntmps161
      go_wp2_with fail
      try rw [Exit.noGoto_ret]
      go_ret
      exact ⟨rfl, rfl⟩
    · have e0 : (n == 0) = false := by simpa using h0
      have e1 : (n == 1) = false := by simpa using h1
      have HK := Lib.hid (show kindOf n = 7 by unfold kindOf; rw [if_neg h0, if_neg h1])
      clear h0 h1
      go_enter Tryz.func161, Tryz.ntmps161
      go_wp2_with fail
      try rw [Exit.noGoto_ret]
      go_ret
      exact ⟨by rw [HK.out]; rfl, rfl⟩
set_option maxRecDepth 100000 in
theorem each_10 (w : World) (P : Ptrs) (M : Mdl) (bm k : Nat) (x : ItemM) (hm : MdlAt w P M) (hb : Cells w bm (mcells P M)) (hx : M.items[k]? = some x) :
    Calls Tryz.prog 160 #[.int .i64 (k : Int), .pointer (some ⟨bm, 0, none⟩)] w fun e w' => e = .returned (.int .i64 (kindOf x.kind)) ∧ w = w' := by
  have hlt : k < M.items.length := (List.getElem?_eq_some_iff.1 hx).1
  have hlt' : (k : Int) < (M.items.length : Int) := by omega
  obtain ⟨b, o, y, hp, hy, hc⟩ := item_at hm.items rfl hlt
  obtain rfl : y = x := by have := hy.symm.trans hx; simpa using this
  have m := mc5 hb _ (Gr.refl _)
  rw [hp] at m
  have cc := (hc _ (Gr.refl _)).2.1
  clear hm hb hp hx hy hc
  go_enter Tryz.func160, Tryz.ntmps160
  go_wp2_with fail
  refine (cat_itemKind _ _).mono ?_
  rintro _ _ ⟨rfl, rfl⟩
  go_wp2_with fail
  go_ret
  exact ⟨rfl, rfl⟩
end Go.Proofs.YtdekicijinmakaaGreatDoor
namespace Go.Proofs.YtdekicijinmakaaGreatDoor
open Go.RowKit Go.Lib Lex
set_option linter.unusedVariables false
set_option linter.unusedSimpArgs false

/-- a name, its kind, its number -/
abbrev Entry := List UInt8 × Int × Int
def numbered {α : Type} (f : α → List UInt8 × Int) (l : List α) : List Entry := l.mapIdx fun i x => ((f x).1, (f x).2, (i : Int) + 1)
theorem numbered_len {α : Type} (f : α → List UInt8 × Int) (l : List α) : (numbered f l).length = l.length := by simp [numbered]
theorem numbered_get {α : Type} (f : α → List UInt8 × Int) (l : List α) {i : Nat} {x : α} (h : l[i]? = some x) : (numbered f l)[i]? = some ((f x).1, (f x).2, (i : Int) + 1) := by
  simp [numbered, h]
def sec0 (M : Mdl) : List Entry := numbered (fun s => (s, 0)) M.sites
def sec1 (M : Mdl) : List Entry := numbered (fun s => (s, 1)) M.feeds
def sec2 (M : Mdl) : List Entry := numbered (fun x : RackM => (x.name, 2)) M.racks
def sec3 (M : Mdl) : List Entry := numbered (fun x : MachM => (x.name, 3)) M.machs
def sec4 (M : Mdl) : List Entry := numbered (fun x : ItemM => (x.name, kindOf x.kind)) M.items
def secs (M : Mdl) : List (List Entry) := [sec0 M, sec1 M, sec2 M, sec3 M, sec4 M]
def entries (M : Mdl) : List Entry := (secs M).flatten
def secOff (M : Mdl) (k : Nat) : Nat := ((secs M).take k).flatten.length
theorem flatten_at {α : Type} : ∀ (L : List (List α)) (k i : Nat) (l : List α) (x : α), L[k]? = some l → l[i]? = some x → L.flatten[(L.take k).flatten.length + i]? = some x
  | [], k, i, l, x, h, _ => by simp at h
  | a :: L, 0, i, l, x, h, hx => by
    simp at h; subst h
    simp only [List.take_zero, List.flatten_nil, List.length_nil, Nat.zero_add, List.flatten_cons]
    rw [List.getElem?_append_left (List.getElem?_eq_some_iff.1 hx).1]; exact hx
  | a :: L, k + 1, i, l, x, h, hx => by
    simp only [List.take_succ_cons, List.flatten_cons, List.length_append]
    rw [List.getElem?_append_right (by omega), ← flatten_at L k i l x (by simpa using h) hx]
    congr 1
    omega
theorem secOff_succ {M : Mdl} {k : Nat} {l : List Entry} (h : (secs M)[k]? = some l) : secOff M (k + 1) = secOff M k + l.length := by
  unfold secOff
  rw [List.take_add_one, h]
  simp
theorem secOff_five (M : Mdl) : secOff M 5 = (entries M).length := rfl
/-- the sections as each lays them -/
def secCells (M : Mdl) (bm : Nat) : Array Value := #[.int .i64 (M.sites.length : Int), .func (.func 151) #[] #[.pointer (some ⟨bm, 0, none⟩)], .func (.func 152) #[] #[],
  .int .i64 (M.feeds.length : Int), .func (.func 153) #[] #[.pointer (some ⟨bm, 0, none⟩)], .func (.func 154) #[] #[],
  .int .i64 (M.racks.length : Int), .func (.func 155) #[] #[.pointer (some ⟨bm, 0, none⟩)], .func (.func 156) #[] #[],
  .int .i64 (M.machs.length : Int), .func (.func 157) #[] #[.pointer (some ⟨bm, 0, none⟩)], .func (.func 158) #[] #[],
  .int .i64 (M.items.length : Int), .func (.func 159) #[] #[.pointer (some ⟨bm, 0, none⟩)], .func (.func 160) #[] #[.pointer (some ⟨bm, 0, none⟩)]]
/-- a section: its functions give its entries -/
structure Sec (P : Ptrs) (M : Mdl) (bm k len : Nat) (f1 : FuncId) (c1 : Array Value) (f2 : FuncId) (c2 : Array Value) : Prop where
  v0 : (secCells M bm)[k * 3]? = some (.int .i64 (len : Int))
  v1 : (secCells M bm)[k * 3 + 1]? = some (.func (.func f1) #[] c1)
  v2 : (secCells M bm)[k * 3 + 2]? = some (.func (.func f2) #[] c2)
  e1 : ∀ args w, (callFunc f1 args).run Tryz.prog w = .ok (.enter f1 args) w
  e2 : ∀ args w, (callFunc f2 args).run Tryz.prog w = .ok (.enter f2 args) w
  off : secOff M (k + 1) = secOff M k + len
  get : ∀ i, i < len → ∃ (s : List UInt8) (kd : Int), (entries M)[secOff M k + i]? = some (s, kd, (i : Int) + 1) ∧
    (∀ w, MdlAt w P M → Cells w bm (mcells P M) → Calls Tryz.prog f1 (#[.int .i64 (i : Int)] ++ c1) w fun e w' => e = .returned (.string ⟨s.toArray⟩) ∧ w = w') ∧
    (∀ w, MdlAt w P M → Cells w bm (mcells P M) → Calls Tryz.prog f2 (#[.int .i64 (i : Int)] ++ c2) w fun e w' => e = .returned (.int .i64 kd) ∧ w = w')
theorem sec_at0 (P : Ptrs) (M : Mdl) (bm : Nat) : Sec P M bm 0 M.sites.length 151 #[.pointer (some ⟨bm, 0, none⟩)] 152 #[] := by
  have h : (secs M)[0]? = some (sec0 M) := rfl
  refine ⟨rfl, rfl, rfl, enters_of Tryz.func151 (by kernel_rfl) rfl, enters_of Tryz.func152 (by kernel_rfl) rfl, ?_, fun i hi => ?_⟩
  · rw [secOff_succ h, show (sec0 M).length = M.sites.length from numbered_len _ _]
  · obtain ⟨x, hx⟩ : ∃ x, M.sites[i]? = some x := ⟨_, List.getElem?_eq_getElem hi⟩
    refine ⟨_, _, flatten_at (secs M) 0 i _ _ h (numbered_get _ _ hx), fun w hm hb => each_1 w P M bm i x hm hb hx, fun w hm hb => each_2 w _⟩
theorem sec_at1 (P : Ptrs) (M : Mdl) (bm : Nat) : Sec P M bm 1 M.feeds.length 153 #[.pointer (some ⟨bm, 0, none⟩)] 154 #[] := by
  have h : (secs M)[1]? = some (sec1 M) := rfl
  refine ⟨rfl, rfl, rfl, enters_of Tryz.func153 (by kernel_rfl) rfl, enters_of Tryz.func154 (by kernel_rfl) rfl, ?_, fun i hi => ?_⟩
  · rw [secOff_succ h, show (sec1 M).length = M.feeds.length from numbered_len _ _]
  · obtain ⟨x, hx⟩ : ∃ x, M.feeds[i]? = some x := ⟨_, List.getElem?_eq_getElem hi⟩
    refine ⟨_, _, flatten_at (secs M) 1 i _ _ h (numbered_get _ _ hx), fun w hm hb => each_3 w P M bm i x hm hb hx, fun w hm hb => each_4 w _⟩
theorem sec_at2 (P : Ptrs) (M : Mdl) (bm : Nat) : Sec P M bm 2 M.racks.length 155 #[.pointer (some ⟨bm, 0, none⟩)] 156 #[] := by
  have h : (secs M)[2]? = some (sec2 M) := rfl
  refine ⟨rfl, rfl, rfl, enters_of Tryz.func155 (by kernel_rfl) rfl, enters_of Tryz.func156 (by kernel_rfl) rfl, ?_, fun i hi => ?_⟩
  · rw [secOff_succ h, show (sec2 M).length = M.racks.length from numbered_len _ _]
  · obtain ⟨x, hx⟩ : ∃ x, M.racks[i]? = some x := ⟨_, List.getElem?_eq_getElem hi⟩
    refine ⟨_, _, flatten_at (secs M) 2 i _ _ h (numbered_get _ _ hx), fun w hm hb => each_5 w P M bm i x hm hb hx, fun w hm hb => each_6 w _⟩
theorem sec_at3 (P : Ptrs) (M : Mdl) (bm : Nat) : Sec P M bm 3 M.machs.length 157 #[.pointer (some ⟨bm, 0, none⟩)] 158 #[] := by
  have h : (secs M)[3]? = some (sec3 M) := rfl
  refine ⟨rfl, rfl, rfl, enters_of Tryz.func157 (by kernel_rfl) rfl, enters_of Tryz.func158 (by kernel_rfl) rfl, ?_, fun i hi => ?_⟩
  · rw [secOff_succ h, show (sec3 M).length = M.machs.length from numbered_len _ _]
  · obtain ⟨x, hx⟩ : ∃ x, M.machs[i]? = some x := ⟨_, List.getElem?_eq_getElem hi⟩
    refine ⟨_, _, flatten_at (secs M) 3 i _ _ h (numbered_get _ _ hx), fun w hm hb => each_7 w P M bm i x hm hb hx, fun w hm hb => each_8 w _⟩
theorem sec_at4 (P : Ptrs) (M : Mdl) (bm : Nat) : Sec P M bm 4 M.items.length 159 #[.pointer (some ⟨bm, 0, none⟩)] 160 #[.pointer (some ⟨bm, 0, none⟩)] := by
  have h : (secs M)[4]? = some (sec4 M) := rfl
  refine ⟨rfl, rfl, rfl, enters_of Tryz.func159 (by kernel_rfl) rfl, enters_of Tryz.func160 (by kernel_rfl) rfl, ?_, fun i hi => ?_⟩
  · rw [secOff_succ h, show (sec4 M).length = M.items.length from numbered_len _ _]
  · obtain ⟨x, hx⟩ : ∃ x, M.items[i]? = some x := ⟨_, List.getElem?_eq_getElem hi⟩
    refine ⟨_, _, flatten_at (secs M) 4 i _ _ h (numbered_get _ _ hx), fun w hm hb => each_9 w P M bm i x hm hb hx, fun w hm hb => each_10 w P M bm i x hm hb hx⟩
theorem sec_at (P : Ptrs) (M : Mdl) (bm k : Nat) (hk : k < 5) : ∃ len f1 c1 f2 c2, Sec P M bm k len f1 c1 f2 c2 ∧ len ≤ max M.sites.length (max M.feeds.length (max M.racks.length (max M.machs.length M.items.length))) := by
  rcases k with _ | _ | _ | _ | _ | k
  · exact ⟨_, _, _, _, _, sec_at0 P M bm, by omega⟩
  · exact ⟨_, _, _, _, _, sec_at1 P M bm, by omega⟩
  · exact ⟨_, _, _, _, _, sec_at2 P M bm, by omega⟩
  · exact ⟨_, _, _, _, _, sec_at3 P M bm, by omega⟩
  · exact ⟨_, _, _, _, _, sec_at4 P M bm, by omega⟩
  · omega
/-- a function value that each may visit the entries with: I: its state, k entries seen, the blocks F not its own; R: it has said that it is done -/
structure Visit (B : World) (fn : FuncId) (caps : Array Value) (es : List Entry) (I : (Nat → Prop) → Nat → World → Prop) (R : World → Prop) : Prop where
  enters : ∀ args w, (callFunc fn args).run Tryz.prog w = .ok (.enter fn args) w
  base : ∀ F k w, I F k w → Gr B w
  grow : ∀ F k w w', I F k w → Gr w w' → I (fun b => F b ∨ (w.heap.size ≤ b ∧ b < w'.heap.size)) k w'
  step : ∀ F k e w, es[k]? = some e → I F k w → Calls Tryz.prog fn (#[.string ⟨e.1.toArray⟩, .int .i64 e.2.1, .int .i64 e.2.2] ++ caps) w fun r w' => ∃ t, r = .returned (.bool t) ∧ w.heap.size ≤ w'.heap.size ∧
    (∀ b, F b → b < w.heap.size → w'.heap[b]? = w.heap[b]?) ∧ (t = true → R w') ∧ (t = false → I F (k + 1) w')
end Go.Proofs.YtdekicijinmakaaGreatDoor

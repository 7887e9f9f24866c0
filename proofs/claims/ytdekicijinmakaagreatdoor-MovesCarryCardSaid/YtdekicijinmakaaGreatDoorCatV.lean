/-
  catalog.Names: its closure.
  catalog.Names.
-/
import Derived.Test.YtdekicijinmakaaGreatDoorCatU
import Derived.Test.YtdekicijinmakaaGreatDoorApp
namespace Go.Proofs.YtdekicijinmakaaGreatDoor
open Go.RowKit Go.Lib Lex
set_option linter.unusedVariables false
set_option linter.unusedSimpArgs false

/-- the state of Names' closure: the captured box b3 holds a row of its own, l -/
def NI (B : World) (b3 : Nat) (F : Nat → Prop) (l : List (List UInt8)) (w : World) : Prop := ∃ v, Cells w b3 #[v] ∧ OwnS w B.heap.size v l ∧ Gr B w ∧ B.heap.size ≤ b3 ∧ ¬ F b3 ∧ (∀ b, v.ownBlock = some b → ¬ F b ∧ b ≠ b3) ∧ (∀ b, F b → b < w.heap.size)
theorem NI.grow {B w w' : World} {b3 : Nat} {F : Nat → Prop} {l : List (List UInt8)} (h : NI B b3 F l w) (g : Gr w w') : NI B b3 (fun b => F b ∨ (w.heap.size ≤ b ∧ b < w'.heap.size)) l w' := by
  obtain ⟨v, h1, h2, h3, h4, h5, h6, h7⟩ := h
  refine ⟨v, h1.grow g, h2.grow g, h3.trans g, h4, ?_, fun b hb => ⟨?_, (h6 b hb).2⟩, ?_⟩
  · rintro (h | ⟨h, _⟩)
    · exact h5 h
    · have := h1.lt; omega
  · rintro (h | ⟨h, _⟩)
    · exact (h6 b hb).1 h
    · have := (h2.lt b hb).2; omega
  · rintro b (h | ⟨_, h⟩)
    · have := h7 b h; have := g.size; omega
    · exact h
theorem own_set {w : World} {base b3 : Nat} {v u : Value} {l : List (List UInt8)} (h : OwnS w base v l) (hne : v.ownBlock ≠ some b3) : OwnS (w.setCell ⟨b3, 0, none⟩ u) base v l := by
  refine World.ownsRow.kept (row := some b3) h ⟨rfl, rfl, rfl, ?_, fun k hk hn => Below.heap_setCell _ _ _ _ (fun e => hn (congrArg some e))⟩ (.inr hne)
  simp [World.setCell]
set_option maxRecDepth 100000 in
theorem names_clo (w B : World) (b3 : Nat) (F : Nat → Prop) (l : List (List UInt8)) (s : List UInt8) (kd n : Int) (h : NI B b3 F l w) (hl : l.length ≤ 1000) :
    Calls Tryz.prog 125 #[.string ⟨s.toArray⟩, .int .i64 kd, .int .i64 n, .pointer (some ⟨b3, 0, none⟩)] w fun r w' => r = .returned (.bool false) ∧ w.heap.size ≤ w'.heap.size ∧
      (∀ b, F b → b < w.heap.size → w'.heap[b]? = w.heap[b]?) ∧ NI B b3 F (l ++ [s]) w' := by
  obtain ⟨v, h1, h2, h3, h4, h5, h6, h7⟩ := h
  have T3 := Lib.hid h1
  have HO := Lib.hid h2
  have HG := Lib.hid h3
  have HB := Lib.hid h4
  have HF3 := Lib.hid h5
  have HFv := Lib.hid h6
  have HFl := Lib.hid h7
  clear h1 h2 h3 h4 h5 h6 h7
  have d0 := T3.out.at 0 rfl
  go_enter Tryz.func125, Tryz.ntmps125
  go_wp2_with (at_builtin; refine Hold.hold ?_)
  clear d0
  have B8 := SlL.new w 9 encS_len [s] #[.string ⟨s.toArray⟩] 1 rfl rfl (by decide)
  have hz : (w.alloc (.cells #[.string ⟨s.toArray⟩] 9)).heap.size = w.heap.size + 1 := World.size_alloc _ _
  have hkeep : ∀ b, b < w.heap.size → (w.alloc (.cells #[.string ⟨s.toArray⟩] 9)).heap[b]? = w.heap[b]? := fun b hb => by first | exact heap_alloc_old w _ hb | exact Go.heap_alloc_old w _ b hb | exact (MapKept.heap_alloc w _).2 b hb
  generalize hb8 : w.heap.size = b8 at B8 hz hkeep ⊢
  generalize w.alloc _ = w8 at B8 hz hkeep ⊢
  obtain ⟨g8, t8⟩ := B8
  have Hb8 := Lib.hid hb8
  refine Hold.go ?_
  refine wpList_appendB rfl _ _ 22 9 _ 16 rfl Tryz.underlying22 str_info rfl (by decide) encS_len encS_one B.heap.size v _ l [s] rfl (HO.out.grow g8) rfl t8 (by simp; omega) (by simp; omega) ((HG.out.trans g8).size) (by simp) ?_
  intro v' w9 ho9 k9 hblk
  obtain ⟨p9, c9, rfl, _, _⟩ := (OwnL.read ho9).parts
  have hne3 : some b3 ≠ v.ownBlock := fun e => (HFv.out b3 e.symm).2 rfl
  have T9 := (T3.out.grow g8).grown k9 hne3
  have hlt3 := T3.out.lt
  have hne9 : (Value.slice p9 (l ++ [s]).length c9).ownBlock ≠ some b3 := by
    rcases hblk with e | e
    · rw [e]; exact hne3.symm
    · rw [e, hz]; intro e; injection e with e; omega
  have G9 := (HO.out.grow g8).gr (HG.out.trans g8) k9
  have d0 := T9.at 0 rfl
  have f0 := Cells.f T9 0
  have HX := Lib.hid (show NI B b3 F (l ++ [s]) (w9.setCell ⟨b3, 0, none⟩ (.slice p9 (l ++ [s]).length c9)) from by
    refine ⟨(.slice p9 (l ++ [s]).length c9), ?_, own_set ho9 hne9, G9.set (by have := HB.out; omega) _, HB.out, HF3.out, fun b hb => ⟨fun hf => ?_, fun e => hne9 (by rw [hb, e])⟩, fun b hb => ?_⟩
    · have := T9.set 0 (.slice p9 (l ++ [s]).length c9)
      simpa using this
    · rcases hblk with e | e
      · exact (HFv.out b (e ▸ hb)).1 hf
      · have := HFl.out b hf
        rw [e, hz] at hb
        injection hb with hb
        omega
    · have h1 := HFl.out b hb
      have h2 := k9.size
      have h3 : (w9.setCell ⟨b3, 0, none⟩ (.slice p9 (l ++ [s]).length c9)).heap.size = w9.heap.size := by simp [World.setCell]
      omega)
  have HK := Lib.hid (show ∀ b, F b → b < b8 → (w9.setCell ⟨b3, 0, none⟩ (.slice p9 (l ++ [s]).length c9)).heap[b]? = w.heap[b]? from fun b hb hlt => by
    rw [Below.heap_setCell _ _ _ _ (fun e => HF3.out (by have e : b = b3 := e; exact e ▸ hb)), k9.block b (by omega) (fun e => (HFv.out b e.symm).1 hb), hkeep b hlt])
  have HZ := Lib.hid (show b8 ≤ (w9.setCell ⟨b3, 0, none⟩ (.slice p9 (l ++ [s]).length c9)).heap.size from by
    have h2 := k9.size
    have h3 : (w9.setCell ⟨b3, 0, none⟩ (.slice p9 (l ++ [s]).length c9)).heap.size = w9.heap.size := by simp [World.setCell]
    omega)
  clear hb8 T9 G9 hblk hne9 hne3 k9 ho9 hkeep hz g8 t8 hlt3
  go_wp2_with fail
  go_ret
  have e : (l ++ [s]).length = l.length + 1 := by simp
  have z := HZ.out
  have k := HK.out
  have x := HX.out
  rw [e] at z k x
  exact ⟨rfl, Hb8.out ▸ z, fun b hb hlt => k b hb (Hb8.out ▸ hlt), x⟩
end Go.Proofs.YtdekicijinmakaaGreatDoor
namespace Go.Proofs.YtdekicijinmakaaGreatDoor
open Go.RowKit Go.Lib Lex
set_option linter.unusedVariables false
set_option linter.unusedSimpArgs false

theorem numbered_names {α : Type} (f : α → List UInt8 × Int) (l : List α) : (numbered f l).map Prod.fst = l.map fun x => (f x).1 := by
  apply List.ext_getElem?
  intro i
  simp [numbered]
  cases l[i]? <;> rfl
theorem entries_names (M : Mdl) : (entries M).map Prod.fst = names M := by
  unfold entries secs names sec0 sec1 sec2 sec3 sec4
  simp only [List.flatten_cons, List.flatten_nil, List.append_nil, List.map_append, numbered_names]
  simp only [List.map_id']
theorem entries_len (M : Mdl) : (entries M).length = (names M).length := by rw [← entries_names, List.length_map]
theorem names_visit (B : World) (b3 : Nat) (M : Mdl) (hf : Few M) : Visit B 125 #[.pointer (some ⟨b3, 0, none⟩)] (entries M) (fun F k w => NI B b3 F ((names M).take k) w) (fun _ => False) where
  enters := enters_of Tryz.func125 (by kernel_rfl) rfl
  base F k w h := by obtain ⟨v, _, _, h3, _⟩ := h; exact h3
  grow F k w w' h g := NI.grow h g
  step F k e w he h := by
    refine (names_clo w B b3 F ((names M).take k) e.1 e.2.1 e.2.2 h (by have := names_len hf; rw [List.length_take]; omega)).mono ?_
    rintro _ w' ⟨rfl, h1, h2, h3⟩
    refine ⟨false, rfl, h1, h2, by simp, fun _ => ?_⟩
    have : (names M)[k]? = some e.1 := by rw [← entries_names, List.getElem?_map, he]; rfl
    show NI B b3 F ((names M).take (k + 1)) w'
    rw [List.take_add_one, this]
    exact h3
set_option maxRecDepth 100000 in
theorem cat_Names (w : World) (P : Ptrs) (M : Mdl) (hm : MdlAt w P M) (hf : Few M) :
    Calls Tryz.prog 77 #[.agg (mcells P M)] w (Ret w fun r w' => StrL w' r (names M)) := by
  have HM := Lib.hid hm
  have HF := Lib.hid hf
  have B0 := Cells.new w (mcells P M) 29
  have B1 := Cells.new (w.alloc (.cells (mcells P M) 29)) #[.slice none 0 0] 22
  have hz := World.size_alloc w (.cells (mcells P M) 29)
  clear hm hf
  have m0 := mc0 B0.2 _ B1.1
  have m1 := mc1 B0.2 _ B1.1
  have m2 := mc2 B0.2 _ B1.1
  have m3 := mc3 B0.2 _ B1.1
  have m4 := mc4 B0.2 _ B1.1
  have m5 := mc5 B0.2 _ B1.1
  have m6 := mc6 B0.2 _ B1.1
  have m7 := mc7 B0.2 _ B1.1
  have m8 := mc8 B0.2 _ B1.1
  have m9 := mc9 B0.2 _ B1.1
  have m10 := mc10 B0.2 _ B1.1
  have H0 := Lib.hid B0.1
  have H1 := Lib.hid B1
  have HZ := Lib.hid hz
  clear B0 B1 hz
  unfold mcells at H0 H1 HZ m0 m1 m2 m3 m4 m5 m6 m7 m8 m9 m10 ⊢
  go_enter Tryz.func77, Tryz.ntmps77
  go_wp2_with fail
  clear m0 m1 m2 m3 m4 m5 m6 m7 m8 m9 m10
  rw [← HZ.out]
  generalize w.alloc _ = B at H0 H1 HZ ⊢
  obtain ⟨g1, t1⟩ := H1.out
  have h1 : NI B B.heap.size (fun b => b < B.heap.size) [] (B.alloc (.cells #[.slice none 0 0] 22)) :=
    ⟨_, t1, OwnL.nil _ _ _, g1, Nat.le_refl _, Nat.lt_irrefl _, fun b hb => (by cases hb), fun b hb => by have := g1.size; omega⟩
  generalize B.alloc _ = W at h1 g1 t1 H1 ⊢
  refine (cat_each W B P M 125 #[.pointer (some ⟨B.heap.size, 0, none⟩)] _ _ _ (HM.out.grow H0.out) HF.out (names_visit B B.heap.size M HF.out) h1).mono ?_
  rintro _ w2 ⟨rfl, h | ⟨F, h⟩⟩
  · exact h.elim
  · rw [entries_len] at h
    obtain ⟨v, t2, ho, g2, _⟩ := (show NI B B.heap.size F ((names M).take (names M).length) w2 from h)
    rw [List.take_length] at ho
    have HO := Lib.hid ho
    have G2 := Lib.hid g2
    have d := t2.at 0 rfl
    clear t2 ho g2 h h1 g1 t1
    obtain ⟨p, c, rfl, _, _⟩ := (OwnL.read HO.out).parts
    go_wp2_with fail
    go_ret
    exact ⟨_, rfl, H0.out.trans G2.out, OwnL.read HO.out⟩
end Go.Proofs.YtdekicijinmakaaGreatDoor

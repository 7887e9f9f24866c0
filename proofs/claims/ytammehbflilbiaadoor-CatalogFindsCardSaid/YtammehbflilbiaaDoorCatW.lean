/-
  catalog.Names.
-/
import Derived.Test.YtammehbflilbiaaDoorCatV
namespace Go.Proofs.YtammehbflilbiaaDoor
open Go.RowKit Go.Lib Lex
set_option linter.unusedVariables false
set_option linter.unusedSimpArgs false

theorem numbered_names {α : Type} (f : α → List UInt8 × Int) (l : List α) : (numbered f l).map Prod.fst = l.map fun x => (f x).1 := by
  apply List.ext_getElem?
  intro i
  simp [numbered]
  cases l[i]? <;> rfl
theorem entries_names (M : Mdl) : (entries M).map Prod.fst = names M := by
  unfold entries secs names sec0 sec1 sec2 sec3 sec4
  simp only [List.flatten_cons, List.flatten_nil, List.append_nil, List.map_append, numbered_names]
  simp only [List.map_id']
theorem entries_len (M : Mdl) : (entries M).length = (names M).length := by rw [← entries_names, List.length_map]
theorem names_visit (B : World) (b3 : Nat) (M : Mdl) (hf : Few M) : Visit B 29 #[.pointer (some ⟨b3, 0, none⟩)] (entries M) (fun F k w => NI B b3 F ((names M).take k) w) (fun _ => False) where
  enters := enters_of Tryd.func29 (by kernel_rfl) rfl
  base F k w h := by obtain ⟨v, _, _, h3, _⟩ := h; exact h3
  grow F k w w' h g := NI.grow h g
  step F k e w he h := by
    refine (names_clo w B b3 F ((names M).take k) e.1 e.2.1 e.2.2 h (by have := names_len hf; rw [List.length_take]; omega)).mono ?_
    rintro _ w' ⟨rfl, h1, h2, h3⟩
    refine ⟨false, rfl, h1, h2, by simp, fun _ => ?_⟩
    have : (names M)[k]? = some e.1 := by rw [← entries_names, List.getElem?_map, he]; rfl
    show NI B b3 F ((names M).take (k + 1)) w'
    rw [List.take_add_one, this]
    exact h3
set_option maxRecDepth 100000 in
theorem cat_Names (w : World) (P : Ptrs) (M : Mdl) (hm : MdlAt w P M) (hf : Few M) :
    Calls Tryd.prog 14 #[.agg (mcells P M)] w (Ret w fun r w' => StrL w' r (names M)) := by
  have HM := Lib.hid hm
  have HF := Lib.hid hf
  have B0 := Cells.new w (mcells P M) 33
  have B1 := Cells.new (w.alloc (.cells (mcells P M) 33)) #[.slice none 0 0] 25
  have hz := World.size_alloc w (.cells (mcells P M) 33)
  clear hm hf
  have m0 := mc0 B0.2 _ B1.1
  have m1 := mc1 B0.2 _ B1.1
  have m2 := mc2 B0.2 _ B1.1
  have m3 := mc3 B0.2 _ B1.1
  have m4 := mc4 B0.2 _ B1.1
  have m5 := mc5 B0.2 _ B1.1
  have m6 := mc6 B0.2 _ B1.1
  have m7 := mc7 B0.2 _ B1.1
  have m8 := mc8 B0.2 _ B1.1
  have m9 := mc9 B0.2 _ B1.1
  have m10 := mc10 B0.2 _ B1.1
  have H0 := Lib.hid B0.1
  have H1 := Lib.hid B1
  have HZ := Lib.hid hz
  clear B0 B1 hz
  unfold mcells at H0 H1 HZ m0 m1 m2 m3 m4 m5 m6 m7 m8 m9 m10 ⊢
  go_enter Tryd.func14, Tryd.ntmps14
  go_wp2_with fail
  clear m0 m1 m2 m3 m4 m5 m6 m7 m8 m9 m10
  rw [← HZ.out]
  generalize w.alloc _ = B at H0 H1 HZ ⊢
  obtain ⟨g1, t1⟩ := H1.out
  have h1 : NI B B.heap.size (fun b => b < B.heap.size) [] (B.alloc (.cells #[.slice none 0 0] 25)) :=
    ⟨_, t1, OwnL.nil _ _ _, g1, Nat.le_refl _, Nat.lt_irrefl _, fun b hb => (by cases hb), fun b hb => by have := g1.size; omega⟩
  generalize B.alloc _ = W at h1 g1 t1 H1 ⊢
  refine (cat_each W B P M 29 #[.pointer (some ⟨B.heap.size, 0, none⟩)] _ _ _ (HM.out.grow H0.out) HF.out (names_visit B B.heap.size M HF.out) h1).mono ?_
  rintro _ w2 ⟨rfl, h | ⟨F, h⟩⟩
  · exact h.elim
  · rw [entries_len] at h
    obtain ⟨v, t2, ho, g2, _⟩ := (show NI B B.heap.size F ((names M).take (names M).length) w2 from h)
    rw [List.take_length] at ho
    have HO := Lib.hid ho
    have G2 := Lib.hid g2
    have d := t2.at 0 rfl
    clear t2 ho g2 h h1 g1 t1
    obtain ⟨p, c, rfl, _, _⟩ := (OwnL.read HO.out).parts
    go_wp2_with fail
    go_ret
    exact ⟨_, rfl, H0.out.trans G2.out, OwnL.read HO.out⟩
end Go.Proofs.YtammehbflilbiaaDoor

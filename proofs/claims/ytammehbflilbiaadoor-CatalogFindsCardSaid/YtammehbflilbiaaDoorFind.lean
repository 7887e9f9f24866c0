/-
  catalog.Find: its closure, itself.
-/
import Derived.Test.YtammehbflilbiaaDoorCatW
import Derived.Test.YtammehbflilbiaaDoorLoose
namespace Go.Proofs.YtammehbflilbiaaDoor
open Go.RowKit Go.Lib Lex
set_option linter.unusedVariables false
set_option linter.unusedSimpArgs false

/-- the kind and the number of the first entry with a name -/
def findM (M : Mdl) (s : List UInt8) : Option Entry := (entries M).find? fun e => e.1 == s
def findR (M : Mdl) (s : List UInt8) : Int × Int × Bool := match findM M s with
  | some e => (e.2.1, e.2.2, true)
  | none => (0, 0, false)
theorem find_some {es : List Entry} {s : List UInt8} {k : Nat} {e : Entry} (h : es[k]? = some e) (he : e.1 = s) (hb : ∀ j x, j < k → es[j]? = some x → x.1 ≠ s) : es.find? (fun e => e.1 == s) = some e := by
  induction es generalizing k with
  | nil => simp at h
  | cons y es ih =>
    cases k with
    | zero =>
      simp at h
      subst h
      simp [he]
    | succ k =>
      have h0 := hb 0 y (by omega) rfl
      rw [List.find?_cons_of_neg (by simpa using h0)]
      exact ih (by simpa using h) (fun j x hj hx => hb (j + 1) x (by omega) (by simpa using hx))
theorem find_none {es : List Entry} {s : List UInt8} (hb : ∀ j x, j < es.length → es[j]? = some x → x.1 ≠ s) : es.find? (fun e => e.1 == s) = none := by
  rw [List.find?_eq_none]
  intro x hx
  obtain ⟨i, hi, e⟩ := List.getElem_of_mem hx
  simpa using hb i x hi (by rw [List.getElem?_eq_getElem hi, e])

/-- storing what is there changes nothing -/
theorem setCell_same {w : World} {b o : Nat} {v : Value} (h : w.cell? ⟨b, o, none⟩ = some v) : w.setCell ⟨b, o, none⟩ v = w := by
  unfold World.cell? at h
  have e : (w.setCell ⟨b, o, none⟩ v).heap = w.heap := by
    apply Array.ext_getElem?
    intro i
    unfold World.setCell
    rw [Array.getElem?_modify]
    split
    · next hi =>
      subst hi
      cases hb : w.heap[b]? with
      | none => rfl
      | some x =>
        simp only [hb] at h
        cases x with
        | cells c e f =>
          have h' : c[o]? = some v := by simpa using h
          have e1 : c.setIfInBounds o v = c := by
            apply Array.ext_getElem?
            intro i
            rw [Array.getElem?_setIfInBounds]
            split
            · next hi => subst hi; rw [h']; have := (Array.getElem?_eq_some_iff.1 h').1; simp [this]
            · rfl
          simp [e1]
        | _ => cases h
    · rfl
  have e2 : w.setCell ⟨b, o, none⟩ v = { w with heap := (w.setCell ⟨b, o, none⟩ v).heap } := rfl
  rw [e2, e]
theorem upd3 (w : World) (b4 b5 b6 : Nat) (u v x : Value) : ∀ b, b ≠ b4 → b ≠ b5 → b ≠ b6 → (((w.setCell ⟨b4, 0, none⟩ u).setCell ⟨b5, 0, none⟩ v).setCell ⟨b6, 0, none⟩ x).heap[b]? = w.heap[b]? := fun b h4 h5 h6 => by
  rw [Below.heap_setCell _ _ _ _ h6, Below.heap_setCell _ _ _ _ h5, Below.heap_setCell _ _ _ _ h4]
/-- the three results' cells -/
def Three3 (w : World) (b4 b5 b6 : Nat) (kd n : Int) (t : Bool) : Prop := Cells w b4 #[.int .i64 kd] ∧ Cells w b5 #[.int .i64 n] ∧ Cells w b6 #[.bool t]
set_option maxRecDepth 100000 in
theorem find_clo (w : World) (b3 b4 b5 b6 : Nat) (x s : List UInt8) (kd n : Int) (h3 : Cells w b3 #[.string ⟨s.toArray⟩]) (h : Three3 w b4 b5 b6 0 0 false) (n45 : b4 ≠ b5) (n46 : b4 ≠ b6) (n56 : b5 ≠ b6) :
    Calls Tryd.prog 28 #[.string ⟨x.toArray⟩, .int .i64 kd, .int .i64 n, .pointer (some ⟨b3, 0, none⟩), .pointer (some ⟨b4, 0, none⟩), .pointer (some ⟨b5, 0, none⟩), .pointer (some ⟨b6, 0, none⟩)] w fun r w' =>
      (x = s ∧ r = .returned (.bool true) ∧ Three3 w' b4 b5 b6 kd n true ∧ (∀ b, b ≠ b4 → b ≠ b5 → b ≠ b6 → w'.heap[b]? = w.heap[b]?) ∧ w'.heap.size = w.heap.size ∧ ∀ w0, Gr w0 w → ¬ b4 < w0.heap.size → ¬ b5 < w0.heap.size → ¬ b6 < w0.heap.size → Gr w0 w') ∨
      (x ≠ s ∧ r = .returned (.bool false) ∧ w' = w) := by
  obtain ⟨h4, h5, h6⟩ := h
  have d3 := h3.at 0 rfl
  have d4 := h4.at 0 rfl
  have d5 := h5.at 0 rfl
  have d6 := h6.at 0 rfl
  have f4 := Cells.f h4 0
  have f5 := Cells.f h5 0
  have f6 := Cells.f h6 0
  by_cases hxs : x = s
  · subst hxs
    have k5 := h5.upd (upd_set w b4 0 (.int .i64 kd)) n45.symm
    have k6 := (h6.upd (upd_set w b4 0 (.int .i64 kd)) n46.symm).upd (upd_set _ b5 0 (.int .i64 n)) n56.symm
    have k4' := ((h4.set 0 (.int .i64 kd)).upd (upd_set _ b5 0 (.int .i64 n)) n45).upd (upd_set _ b6 0 (.bool true)) n46
    have k5' := (k5.set 0 (.int .i64 n)).upd (upd_set _ b6 0 (.bool true)) n56
    have k6' := k6.set 0 (.bool true)
    have e5 := k5.at 0 rfl
    have e6 := k6.at 0 rfl
    have g5 := Cells.f k5 0
    have g6 := Cells.f k6 0
    have e7 := k6'.at 0 rfl
    have H := Lib.hid (show Three3 _ b4 b5 b6 kd n true from ⟨k4', k5', k6'⟩)
    have HU := Lib.hid (upd3 w b4 b5 b6 (.int .i64 kd) (.int .i64 n) (.bool true))
    clear k4' k5' k6' k5 k6 h3 h4 h5 h6
    go_enter Tryd.func28, Tryd.ntmps28
    go_wp2_with fail
    go_ret
    refine .inl ⟨by first | trivial | rfl, rfl, H.out, HU.out, by simp [World.setCell], fun w0 g h4 h5 h6 => ((g.set h4 _).set h5 _).set h6 _⟩
  · have hne := str_inj hxs
    have hb := str_beq hxs
    clear h3 h4 h5 h6
    go_enter Tryd.func28, Tryd.ntmps28
    go_wp2_with fail
    go_ret
    exact .inr ⟨hxs, rfl, rfl⟩
theorem cellsB {w : World} {b : Nat} {vs : Array Value} (h : Cells w b vs) : b < w.heap.size := h.lt
/-- what the visitor keeps -/
def FI (B : World) (b4 b5 b6 : Nat) (s : List UInt8) (es : List Entry) (F : Nat → Prop) (k : Nat) (w : World) : Prop :=
  Three3 w b4 b5 b6 0 0 false ∧ Gr B w ∧ (¬ F b4 ∧ ¬ F b5 ∧ ¬ F b6) ∧ (∀ b, F b → b < w.heap.size) ∧ ∀ j x, j < k → es[j]? = some x → x.1 ≠ s
def FR (B : World) (b4 b5 b6 : Nat) (s : List UInt8) (M : Mdl) (w : World) : Prop := Gr B w ∧ ∃ e, findM M s = some e ∧ Three3 w b4 b5 b6 e.2.1 e.2.2 true
theorem Three3.grow {w w' : World} {b4 b5 b6 : Nat} {kd n : Int} {t : Bool} (h : Three3 w b4 b5 b6 kd n t) (g : Gr w w') : Three3 w' b4 b5 b6 kd n t := ⟨h.1.grow g, h.2.1.grow g, h.2.2.grow g⟩
theorem find_visit (B : World) (b3 b4 b5 b6 : Nat) (s : List UInt8) (M : Mdl) (h3 : Cells B b3 #[.string ⟨s.toArray⟩]) (n45 : b4 ≠ b5) (n46 : b4 ≠ b6) (n56 : b5 ≠ b6) (l4 : ¬ b4 < B.heap.size) (l5 : ¬ b5 < B.heap.size) (l6 : ¬ b6 < B.heap.size) :
    Visit B 28 #[.pointer (some ⟨b3, 0, none⟩), .pointer (some ⟨b4, 0, none⟩), .pointer (some ⟨b5, 0, none⟩), .pointer (some ⟨b6, 0, none⟩)] (entries M) (fun F k w => FI B b4 b5 b6 s (entries M) F k w) (fun w => FR B b4 b5 b6 s M w) where
  enters := enters_of Tryd.func28 (by kernel_rfl) rfl
  base F k w h := h.2.1
  grow F k w w' h g := by
    obtain ⟨h1, h2, ⟨q4, q5, q6⟩, h4, h5⟩ := h
    have z4 := h1.1.lt
    have z5 := h1.2.1.lt
    have z6 := h1.2.2.lt
    have z := g.size
    exact ⟨h1.grow g, h2.trans g, ⟨fun h => h.elim q4 (fun h => by omega), fun h => h.elim q5 (fun h => by omega), fun h => h.elim q6 (fun h => by omega)⟩, fun b hb => hb.elim (fun hb => by have := h4 b hb; omega) (fun hb => hb.2), h5⟩
  step F k e w he h := by
    obtain ⟨h1, h2, ⟨q4, q5, q6⟩, h4, h5⟩ := h
    refine (find_clo w b3 b4 b5 b6 e.1 s e.2.1 e.2.2 (h3.grow h2) h1 n45 n46 n56).mono ?_
    rintro r w' (⟨hx, rfl, k1, k2, k3, k4⟩ | ⟨hx, rfl, rfl⟩)
    · refine ⟨true, rfl, by omega, fun b hb _ => k2 b (fun h => q4 (h ▸ hb)) (fun h => q5 (h ▸ hb)) (fun h => q6 (h ▸ hb)), fun _ => ⟨k4 B h2 l4 l5 l6, e, ?_, k1⟩, fun h => (by cases h)⟩
      exact find_some he hx h5
    · refine ⟨false, rfl, Nat.le_refl _, fun _ _ _ => rfl, fun h => (by cases h), fun _ => ⟨h1, h2, ⟨q4, q5, q6⟩, h4, fun j x hj hxx => ?_⟩⟩
      by_cases hk : j = k
      · subst hk
        rw [he] at hxx
        cases hxx
        exact hx
      · exact h5 j x (by omega) hxx
theorem new5 (w : World) (ms : Array Value) (s : Value) : ∃ B, Gr w B ∧ Cells B w.heap.size ms ∧ Cells B (w.heap.size + 1) #[s] ∧ B.heap.size = w.heap.size + 1 + 1 ∧
    Gr B (((((w.alloc (.cells ms 33)).alloc (.cells #[s] 9)).alloc (.cells #[.int .i64 0] 3)).alloc (.cells #[.int .i64 0] 3)).alloc (.cells #[.bool false] 4)) ∧
    Three3 (((((w.alloc (.cells ms 33)).alloc (.cells #[s] 9)).alloc (.cells #[.int .i64 0] 3)).alloc (.cells #[.int .i64 0] 3)).alloc (.cells #[.bool false] 4)) (w.heap.size + 1 + 1) (w.heap.size + 1 + 1 + 1) (w.heap.size + 1 + 1 + 1 + 1) 0 0 false := by
  have b0 := Cells.new w ms 33
  have b1 := Cells.new (w.alloc (.cells ms 33)) #[s] 9
  have b2 := Cells.new ((w.alloc (.cells ms 33)).alloc (.cells #[s] 9)) #[.int .i64 0] 3
  have b3 := Cells.new (((w.alloc (.cells ms 33)).alloc (.cells #[s] 9)).alloc (.cells #[.int .i64 0] 3)) #[.int .i64 0] 3
  have b4 := Cells.new ((((w.alloc (.cells ms 33)).alloc (.cells #[s] 9)).alloc (.cells #[.int .i64 0] 3)).alloc (.cells #[.int .i64 0] 3)) #[.bool false] 4
  simp only [World.size_alloc] at b1 b2 b3 b4
  exact ⟨_, b0.1.trans b1.1, b0.2.grow b1.1, b1.2, by simp only [World.size_alloc], (b2.1.trans b3.1).trans b4.1, (b2.2.grow b3.1).grow b4.1, b3.2.grow b4.1, b4.2⟩
set_option maxRecDepth 100000 in
theorem cat_Find (w : World) (P : Ptrs) (M : Mdl) (s : List UInt8) (hm : MdlAt w P M) (hf : Few M) :
    Calls Tryd.prog 12 #[.agg (mcells P M), .string ⟨s.toArray⟩] w (Ret w fun r _ => r = .tuple #[.int .i64 (findR M s).1, .int .i64 (findR M s).2.1, .bool (findR M s).2.2]) := by
  have HM := Lib.hid hm
  have HF := Lib.hid hf
  obtain ⟨B, gwB, tm, ts, hz, gBW, t3⟩ := new5 w (mcells P M) (.string ⟨s.toArray⟩)
  clear hm hf
  have m0 := mc0 tm _ gBW
  have m1 := mc1 tm _ gBW
  have m2 := mc2 tm _ gBW
  have m3 := mc3 tm _ gBW
  have m4 := mc4 tm _ gBW
  have m5 := mc5 tm _ gBW
  have m6 := mc6 tm _ gBW
  have m7 := mc7 tm _ gBW
  have m8 := mc8 tm _ gBW
  have m9 := mc9 tm _ gBW
  have m10 := mc10 tm _ gBW
  have H0 := Lib.hid gwB
  have H1 := Lib.hid ts
  have H2 := Lib.hid hz
  have H3 := Lib.hid gBW
  have H4 := Lib.hid t3
  clear gwB tm ts hz gBW t3
  unfold mcells at *
  go_enter Tryd.func12, Tryd.ntmps12
  go_wp2_with fail
  clear m0 m1 m2 m3 m4 m5 m6 m7 m8 m9 m10
  generalize ((((w.alloc _).alloc _).alloc _).alloc _).alloc _ = W at H3 H4 ⊢
  generalize h6 : w.heap.size + 1 + 1 + 1 + 1 = b6 at H4 ⊢
  generalize h5 : w.heap.size + 1 + 1 + 1 = b5 at H4 ⊢
  generalize h4 : w.heap.size + 1 + 1 = b4 at H2 H4 ⊢
  generalize h3 : w.heap.size + 1 = b3 at H1 ⊢
  have hz := H2.out
  have h1 : FI B b4 b5 b6 s (entries M) (fun b => b < B.heap.size) 0 W := ⟨H4.out, H3.out, ⟨by omega, by omega, by omega⟩, fun b hb => by have := H3.out.size; omega, fun j x hj => by omega⟩
  have hv := find_visit B b3 b4 b5 b6 s M H1.out (by omega) (by omega) (by omega) (by omega) (by omega) (by omega)
  clear hz h3 h4 h5 h6
  refine (cat_each W B P M 28 _ _ _ _ (HM.out.grow H0.out) HF.out hv h1).mono ?_
  rintro _ w2 ⟨rfl, h⟩
  have hq : ∃ kd n t, Three3 w2 b4 b5 b6 kd n t ∧ Gr B w2 ∧ findR M s = (kd, n, t) := by
    rcases h with ⟨hg, e, he, ht⟩ | ⟨F, hF⟩
    · exact ⟨_, _, _, ht, hg, by unfold findR; rw [he]⟩
    · obtain ⟨h1, h2, _, _, h5⟩ := (show FI B b4 b5 b6 s (entries M) F (entries M).length w2 from hF)
      exact ⟨_, _, _, h1, h2, by unfold findR findM; rw [find_none h5]⟩
  clear h h1 hv
  obtain ⟨kd, n, t, h3, hg, he⟩ := hq
  have HE := Lib.hid he
  have HG := Lib.hid hg
  clear he hg
  obtain ⟨t4, t5, t6⟩ := h3
  have e4 : ∀ w', Gr w2 w' → w'.cell? ⟨b4, 0, none⟩ = some (.int .i64 kd) := t4.c 0 rfl
  have e5 : ∀ w', Gr w2 w' → w'.cell? ⟨b5, 0, none⟩ = some (.int .i64 n) := t5.c 0 rfl
  have e6 : ∀ w', Gr w2 w' → w'.cell? ⟨b6, 0, none⟩ = some (.bool t) := t6.c 0 rfl
  have g0 : Gr w2 w2.drew := (Gr.refl _).drew
  have f4 := Cells.f (t4.grow g0) 0
  have f5 := Cells.f (t5.grow g0) 0
  have f6 := Cells.f (t6.grow g0) 0
  clear t4 t5 t6
  have d4 := e4 _ g0
  have d5 := e5 _ g0
  have d6 := e6 _ g0
  go_wp2_with fail
  refine wp_region_loose w2 (.read 0 (.read 1 (.read 2 (.one 3 (.one 4 (.one 5 .stop)))))) (Gr.refl _) (by kernel_rfl) (by kernel_rfl) rfl (by kernel_rfl) (fun _ _ d _ _ h => by cases d <;> exact h) ?_
  repeat (refine wpL_read (v := ?_) rfl rfl (fun w' hg => ?_) (fun K hK => ?_); rotate_left; (go_simp; rfl); go_simp; refine hK _ _ ?_; clear hK K)
  refine wpL_do rfl rfl (fun K hK => ?_)
  go_simp
  rw [setCell_same (e4 w2 (Gr.refl _))]
  refine ⟨g0, hK _ _ ?_⟩
  clear hK K
  refine wpL_do rfl rfl (fun K hK => ?_)
  go_simp
  rw [setCell_same (e5 w2 (Gr.refl _))]
  refine ⟨g0, hK _ _ ?_⟩
  clear hK K
  refine wpL_do rfl rfl (fun K hK => ?_)
  go_simp
  rw [setCell_same (e6 w2 (Gr.refl _))]
  refine ⟨g0, hK _ _ ?_⟩
  clear hK K
  refine wpL_stop ?_
  go_wp2_with fail
  refine bodyPost_ret (by simp [results, Tryd.results12, go_sem, d4, d5, d6]; rfl) rfl ?_
  exact ⟨_, rfl, (H0.out.trans HG.out).trans g0, by rw [HE.out]⟩
end Go.Proofs.YtammehbflilbiaaDoor

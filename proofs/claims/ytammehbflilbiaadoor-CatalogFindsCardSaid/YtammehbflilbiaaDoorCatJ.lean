/-
  catalog.same; the map of catalog.forms.
-/
import Derived.Test.YtammehbflilbiaaDoorCatI
namespace Go.Proofs.YtammehbflilbiaaDoor
open Go.RowKit Go.Lib Lex
set_option linter.unusedVariables false
set_option linter.unusedSimpArgs false

theorem int_cells {w : World} {b o c n : Nat} {l : List Int} (h : IntL w (.slice (some ⟨b, o, none⟩) n c) l) (hn : l.length = n) : ∀ j, j < l.length → w.cell? ⟨b, o + j, none⟩ = some (.int .i64 (l.getD j 0)) := fun j hj => by
  obtain ⟨b', o', x, hp, hx, hc⟩ := int_at h hn (k := j) (by omega)
  cases hp
  have : l.getD j 0 = x := by simp [List.getD, hx]
  rw [this]
  exact hc _ (Gr.refl _)
theorem int_some {w : World} {p : Option Addr} {c n : Nat} {l : List Int} (h : IntL w (.slice p n c) l) (hn : l.length = n) (h0 : 0 < n) : ∃ b o, p = some ⟨b, o, none⟩ := by
  obtain ⟨b, o, x, hp, _, _⟩ := int_at h hn (k := 0) h0
  exact ⟨b, o, hp⟩
theorem equal_int (w : World) (p q : Option Addr) (c d : Nat) (l m : List Int) (hl : IntL w (.slice p l.length c) l) (hm : IntL w (.slice q m.length d) m) (hb : l.length ≤ 1000000) (hb2 : m.length ≤ 1000000) :
    Calls Tryd.prog 95 #[.slice p l.length c, .slice q m.length d] w (Ret w fun r _ => Tells (l = m) r) := by
  by_cases e : l.length = m.length
  · by_cases e0 : l.length = 0
    · have l0 : l = [] := List.length_eq_zero_iff.1 e0
      have m0 : m = [] := List.length_eq_zero_iff.1 (e ▸ e0)
      subst l0 m0
      refine (Tryd.slices_Equal_int_empty p q c 0 d w (by decide)).mono ?_
      rintro _ w' ⟨rfl, rfl⟩
      exact ⟨_, rfl, Gr.refl _, Tells.yes rfl⟩
    · obtain ⟨b, o, rfl⟩ := int_some hl rfl (by omega)
      obtain ⟨b', o', rfl⟩ := int_some hm rfl (by omega)
      refine (Tryd.slices_Equal_int b o l.length c b' o' m.length d l m w (Nat.le_refl _) (Nat.le_refl _) (by omega) (by omega) (int_cells hl rfl) (int_cells hm rfl)).mono ?_
      rintro _ w' ⟨rfl, q, rfl⟩
      refine ⟨_, rfl, (Gr.refl _).drewN q, _, rfl, ?_⟩
      rw [List.take_length, List.take_length]
      simp
  · refine (Tryd.slices_Equal_int_lens p q l.length c m.length d w e).mono ?_
    rintro _ w' ⟨rfl, rfl⟩
    exact ⟨_, rfl, Gr.refl _, Tells.no fun h => e (by rw [h])⟩
def Alike (x y : RuleM) : Prop := x.item = y.item ∧ x.other = y.other ∧ x.n = y.n ∧ x.bye = y.bye ∧ x.always = y.always ∧ x.ms = y.ms
set_option maxRecDepth 100000 in
set_option maxHeartbeats 800000 in
theorem cat_same (w : World) (x y : RuleM) (hx : RuleMs w x) (hy : RuleMs w y) (hb : x.ms.length ≤ 1000000) (hb2 : y.ms.length ≤ 1000000) :
    Calls Tryd.prog 74 #[.agg (ruleV x), .agg (ruleV y)] w (Ret w fun r _ => Tells (Alike x y) r) := by
  have B0 := Cells.new w (ruleV x) 54
  have B := Cells.new (w.alloc (.cells (ruleV x) 54)) (ruleV y) 54
  rw [World.size_alloc] at B
  have x0 : World.cell? _ ⟨_, 0, none⟩ = some (.int .i64 x.kind) := ((B0.2.grow B.1)).at 0 rfl
  have x1 : World.cell? _ ⟨_, 1, none⟩ = some (.int .i64 x.item) := ((B0.2.grow B.1)).at 1 rfl
  have x2 : World.cell? _ ⟨_, 2, none⟩ = some (.int .i64 x.other) := ((B0.2.grow B.1)).at 2 rfl
  have x3 : World.cell? _ ⟨_, 3, none⟩ = some (.int .i64 x.n) := ((B0.2.grow B.1)).at 3 rfl
  have x4 : World.cell? _ ⟨_, 4, none⟩ = some (.int .i64 x.bye) := ((B0.2.grow B.1)).at 4 rfl
  have x5 : World.cell? _ ⟨_, 5, none⟩ = some (.bool x.always) := ((B0.2.grow B.1)).at 5 rfl
  have x6 : World.cell? _ ⟨_, 6, none⟩ = some (.slice x.msP x.ms.length x.msC) := ((B0.2.grow B.1)).at 6 rfl
  have y1 : World.cell? _ ⟨_, 1, none⟩ = some (.int .i64 y.item) := B.2.at 1 rfl
  have y2 : World.cell? _ ⟨_, 2, none⟩ = some (.int .i64 y.other) := B.2.at 2 rfl
  have y3 : World.cell? _ ⟨_, 3, none⟩ = some (.int .i64 y.n) := B.2.at 3 rfl
  have y4 : World.cell? _ ⟨_, 4, none⟩ = some (.int .i64 y.bye) := B.2.at 4 rfl
  have y5 : World.cell? _ ⟨_, 5, none⟩ = some (.bool y.always) := B.2.at 5 rfl
  have y6 : World.cell? _ ⟨_, 6, none⟩ = some (.slice y.msP y.ms.length y.msC) := B.2.at 6 rfl
  have G := Lib.hid (B0.1.trans B.1)
  have HX := Lib.hid (hx.grow G.out)
  have HY := Lib.hid (hy.grow G.out)
  clear hx hy B0 B
  unfold ruleV at *
  go_enter Tryd.func74, Tryd.ntmps74
  by_cases c : x.item = y.item
  · have eitem : (x.item == y.item) = true := by simpa using c
    have hitem := Lib.hid c
    clear c
    by_cases c : x.other = y.other
    · have eother : (x.other == y.other) = true := by simpa using c
      have hother := Lib.hid c
      clear c
      by_cases c : x.n = y.n
      · have en : (x.n == y.n) = true := by simpa using c
        have hn := Lib.hid c
        clear c
        by_cases c : x.bye = y.bye
        · have ebye : (x.bye == y.bye) = true := by simpa using c
          have hbye := Lib.hid c
          clear c
          by_cases c : x.always = y.always
          · have ealways : (x.always == y.always) = true := by simpa using c
            have halways := Lib.hid c
            clear c
            go_wp2_with fail
            clear x0 x1 x2 x3 x4 x5 x6 y1 y2 y3 y4 y5 y6
            refine (equal_int _ x.msP y.msP x.msC y.msC x.ms y.ms HX.out HY.out hb hb2).mono ?_
            rintro _ w1 ⟨v1, rfl, g1, h1⟩
            have G := Lib.hid (G.out.trans g1)
            clear g1
            rcases h1.cases with ⟨rfl, k1⟩ | ⟨rfl, k1⟩ <;> have hms := Lib.hid k1 <;> clear k1 h1
            · go_wp2_with fail
              go_ret
              exact ⟨_, rfl, G.out, Tells.yes ⟨hitem.out, hother.out, hn.out, hbye.out, halways.out, hms.out⟩⟩
            · go_wp2_with fail
              go_ret
              exact ⟨_, rfl, G.out, Tells.no fun h => hms.out h.2.2.2.2.2⟩
          · have ealways : (x.always == y.always) = false := by simpa using c
            have halways := Lib.hid c
            clear c
            go_wp2_with fail
            go_ret
            exact ⟨_, rfl, G.out, Tells.no fun h => halways.out h.2.2.2.2.1⟩
        · have ebye : (x.bye == y.bye) = false := by simpa using c
          have hbye := Lib.hid c
          clear c
          go_wp2_with fail
          go_ret
          exact ⟨_, rfl, G.out, Tells.no fun h => hbye.out h.2.2.2.1⟩
      · have en : (x.n == y.n) = false := by simpa using c
        have hn := Lib.hid c
        clear c
        go_wp2_with fail
        go_ret
        exact ⟨_, rfl, G.out, Tells.no fun h => hn.out h.2.2.1⟩
    · have eother : (x.other == y.other) = false := by simpa using c
      have hother := Lib.hid c
      clear c
      go_wp2_with fail
      go_ret
      exact ⟨_, rfl, G.out, Tells.no fun h => hother.out h.2.1⟩
  · have eitem : (x.item == y.item) = false := by simpa using c
    have hitem := Lib.hid c
    clear c
    go_wp2_with fail
    go_ret
    exact ⟨_, rfl, G.out, Tells.no fun h => hitem.out h.1⟩
end Go.Proofs.YtammehbflilbiaaDoor
